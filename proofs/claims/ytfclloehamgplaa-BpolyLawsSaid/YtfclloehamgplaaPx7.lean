/- What Go functions of the translation come to, and that their calls come to just that. No condition but that the plain function answers. -/
import Derived.Test.YtfclloehamgplaaPx0
import Derived.Test.YtfclloehamgplaaPx4
import Derived.Test.YtfclloehamgplaaUp
namespace Go.Proofs.Ytfclloehamgplaa.P
open Go.RowKit Go.Proofs.YtfclloehamgplaaW.PrintWords Go.Proofs.YtfclloehamgplaaW.PrintLast Go.Proofs.YtfclloehamgplaaW.PrintMore
attribute [local go_sem] max2_int min2_int max_two min_two max_three min_three max_four min_four   -- for this text's walks alone
set_option linter.unusedVariables false
set_option linter.unusedSimpArgs false
def cpy (l y : List Int) : List Int := l.take (min l.length y.length) ++ y.drop (min l.length y.length)
def bpoly_Mod.l0 : Nat → List Int → Int → List Int → Int → Option (List Int × Int)
  | 0, _, _, _, _ => none
  | k + 1, x1, x6, x7, x8 => if x8 ≥ x6 then ((bpoly_one.f x7 x8).bind fun t173 => (if t173 = true then ((bpoly_add.f k x7 x1 (wrap64 (x8 - x6))).bind fun t174 => (bpoly_Mod.l0 k x1 x6 t174 (wrap64 (x8 - 1)))) else (bpoly_Mod.l0 k x1 x6 x7 (wrap64 (x8 - 1))))) else ((bpoly_norm.f k x7).bind fun t170 => (some (t170, 0)))
def bpoly_Mod.f (k : Nat) (l0 : List Int) (l1 : List Int) : Option (List Int × Int) := (bpoly_norm.f k l1).bind fun t163 => ((bpoly_Degree.f k t163).bind fun t166 => (if t166 < 0 then (some (([] : List Int), 20)) else (if 0 ≤ (wrap64 ((l0.length : Int) + 1)) then (if (wrap64 ((l0.length : Int) + 1) : Int).toNat ≤ 281474976710656 then (bpoly_Mod.l0 k t163 t166 (cpy l0 (List.replicate (wrap64 ((l0.length : Int) + 1) : Int).toNat 0)) (wrap64 ((wrap64 (8 * (l0.length : Int))) - 1))) else (none)) else (none))))
theorem bpoly_Mod.mono_l : ∀ k, (∀ y0 y1 y2 y3, LeO (bpoly_Mod.l0 k y0 y1 y2 y3) (bpoly_Mod.l0 (k + 1) y0 y1 y2 y3))
  | 0 => fun _ _ _ _ r h => by simp [bpoly_Mod.l0] at h
  | k + 1 => by
    have ih0 := bpoly_Mod.mono_l k
    · intro y0 y1 y2 y3
      unfold bpoly_Mod.l0
      repeat' first
      | (with_reducible exact ih0 _ _ _ _)
      | (with_reducible exact bpoly_Degree.mono _ _)
      | (with_reducible exact bpoly_add.mono _ _ _ _)
      | (with_reducible exact bpoly_norm.mono _ _)
      | (with_reducible exact LeO.refl _)
      | (with_reducible exact LeO.none _)
      | (with_reducible refine LeO.ite ?_ ?_)
      | (with_reducible refine LeO.bind ?_ (fun _ => ?_))
      | exact ih0 _ _ _ _
      | exact bpoly_Degree.mono _ _
      | exact bpoly_add.mono _ _ _ _
      | exact bpoly_norm.mono _ _
      | exact LeO.none _
      | refine LeO.ite ?_ ?_
      | refine LeO.bind ?_ (fun _ => ?_)
theorem bpoly_Mod.mono : ∀ a0 a1 k, LeO (bpoly_Mod.f k a0 a1) (bpoly_Mod.f (k + 1) a0 a1) := by
  intro a0 a1 k
  have ih0 := bpoly_Mod.mono_l k
  unfold bpoly_Mod.f
  repeat' first
      | (with_reducible exact ih0 _ _ _ _)
      | (with_reducible exact bpoly_Degree.mono _ _)
      | (with_reducible exact bpoly_add.mono _ _ _ _)
      | (with_reducible exact bpoly_norm.mono _ _)
      | (with_reducible exact LeO.refl _)
      | (with_reducible exact LeO.none _)
      | (with_reducible refine LeO.ite ?_ ?_)
      | (with_reducible refine LeO.bind ?_ (fun _ => ?_))
      | exact ih0 _ _ _ _
      | exact bpoly_Degree.mono _ _
      | exact bpoly_add.mono _ _ _ _
      | exact bpoly_norm.mono _ _
      | exact LeO.none _
      | refine LeO.ite ?_ ?_
      | refine LeO.bind ?_ (fun _ => ?_)
set_option maxHeartbeats 8000000 in
set_option maxRecDepth 100000 in
theorem bpoly_Mod.calls (k : Nat) (A0 : Option Addr) (c0 : Nat) (l0 : List Int) (P1_ : Nat → Prop) (A1 : Option Addr) (c1 : Nat) (l1 : List Int) (r1 : List Int) (r2 : Int) (w : World) (hr0 : Kd.C (Kd.int .u8) w A0 l0.length l0) (hc0 : l0.length ≤ c0) (hs1 : Kd.V (Kd.int .u8) 5 w w.heap.size (fun k_ => P1_ k_) (.slice A1 l1.length c1) l1) (h : bpoly_Mod.f k l0 l1 = some (r1, r2)) :
    Calls Try.prog 22 #[.slice A0 l0.length c0, .slice A1 l1.length c1] w fun e w' => ∃ v0_ : Value, e = .returned (.tuple #[v0_, .int .i64 r2]) ∧ Kd.V (Kd.int .u8) 5 w' w.heap.size (fun k_ => (P1_ k_ ∨ w.heap.size ≤ k_)) v0_ r1 ∧ Below w.heap.size w w' := by
  have HR0 := Aside0.mk hr0
  have HC0 := Aside0.mk hc0
  clear hr0 hc0
  have HO1 := Aside0.mk (show Kd.V (Kd.int .u8) 5 w w.heap.size (fun k_ => (P1_ k_ ∨ w.heap.size ≤ k_)) (.slice A1 l1.length c1) l1 from Kd.V_mono hs1 (fun k_ hk => .inl hk))
  have HB := Aside0.mk (Below.refl w.heap.size w)
  have H : ((bpoly_norm.f k l1).bind fun t163 => ((bpoly_Degree.f k t163).bind fun t166 => (if t166 < 0 then (some (([] : List Int), 20)) else (if 0 ≤ (wrap64 ((l0.length : Int) + 1)) then (if (wrap64 ((l0.length : Int) + 1) : Int).toNat ≤ 281474976710656 then (bpoly_Mod.l0 k t163 t166 (cpy l0 (List.replicate (wrap64 ((l0.length : Int) + 1) : Int).toNat 0)) (wrap64 ((wrap64 (8 * (l0.length : Int))) - 1))) else (none)) else (none))))) = some (r1, r2) := h
  clear h
  replace H := Option.bind_eq_some_iff.mp H
  obtain ⟨t163, A30, H⟩ := H
  replace H : ((bpoly_Degree.f k t163).bind fun t166 => (if t166 < 0 then (some (([] : List Int), 20)) else (if 0 ≤ (wrap64 ((l0.length : Int) + 1)) then (if (wrap64 ((l0.length : Int) + 1) : Int).toNat ≤ 281474976710656 then (bpoly_Mod.l0 k t163 t166 (cpy l0 (List.replicate (wrap64 ((l0.length : Int) + 1) : Int).toNat 0)) (wrap64 ((wrap64 (8 * (l0.length : Int))) - 1))) else (none)) else (none)))) = some (r1, r2) := H
  have A3 := Aside0.mk A30
  clear A30
  replace H := Option.bind_eq_some_iff.mp H
  obtain ⟨t166, A40, H⟩ := H
  replace H : (if t166 < 0 then (some (([] : List Int), 20)) else (if 0 ≤ (wrap64 ((l0.length : Int) + 1)) then (if (wrap64 ((l0.length : Int) + 1) : Int).toNat ≤ 281474976710656 then (bpoly_Mod.l0 k t163 t166 (cpy l0 (List.replicate (wrap64 ((l0.length : Int) + 1) : Int).toNat 0)) (wrap64 ((wrap64 (8 * (l0.length : Int))) - 1))) else (none)) else (none))) = some (r1, r2) := H
  have A4 := Aside0.mk A40
  clear A40
  by_cases c5 : t166 < 0
  · rw [if_pos c5] at H
    have c5b0 : decide (t166 < 0) = true := decide_eq_true c5
    clear c5
    simp only [Option.some.injEq, Prod.mk.injEq] at H
    obtain ⟨rfl, rfl⟩ := H
    go_enter Try.func22, Try.ntmps22
    go_wp2_with (first | ((with_reducible refine gate_callee (f := 31) rfl ?_); refine goesL_ (some 10) rfl rfl Try.func31 (by kernel_rfl) rfl #[.slice A1 l1.length c1] rfl (by (try simp only [List.map_toArray, List.map_cons, List.map_nil]); first | done | rfl | (simp only [List.length_drop, List.length_take]; rfl)) ?_; (with_reducible refine (bpoly_norm.calls k (fun k_ => (P1_ k_ ∨ w.heap.size ≤ k_)) _ _ l1 t163 _ ?side1 A3.out).mono ?_); (case side1 => exact HO1.out); rintro e w6 ⟨v164, rfl, ho0, hb⟩; refine ⟨_, rfl, ?_⟩; have n0_ := Aside0.mk (Kd.V_below (by (with_reducible repeat (first | apply Kd.V_alloc | apply Kd.V_drewN | apply Kd.V_drew)); exact HO1.out) hb); have n1_ := Aside0.mk (Kd.V_lower (Kd.V_mono (ok' := fun k_ => (P1_ k_ ∨ w.heap.size ≤ k_)) ho0 (fun k_ hk_ => Or.elim hk_ (fun hs_ => hs_) (fun hn_ => (.inr (Nat.le_trans (below_size (by repeat (first | (with_reducible first | exact HB.out | apply below_alloc | apply pw_below_drewN | apply below_drew1) | exact HB.out))) hn_))))) (below_size (by repeat (first | (with_reducible first | exact HB.out | apply below_alloc | apply pw_below_drewN | apply below_drew1) | exact HB.out)))); have n2_ := Aside0.mk (below_step (by repeat (first | (with_reducible first | exact HB.out | apply below_alloc | apply pw_below_drewN | apply below_drew1) | exact HB.out)) hb); clear HO1; clear HB; have HO1 := n0_; have HO165 := n1_; have HB := n2_; clear n0_ n1_ n2_; (try clear hb); (try clear hb2); (try clear hk); (try clear hi); (try clear ho0); obtain ⟨Ao7, co7, eo7⟩ := Kd.V_slice HO165.out; subst eo7) | ((with_reducible refine gate_callee (f := 23) rfl ?_); refine goesL_ (some 12) rfl rfl Try.func23 (by kernel_rfl) rfl #[.slice Ao7 t163.length co7] rfl (by (try simp only [List.map_toArray, List.map_cons, List.map_nil]); first | done | rfl | (simp only [List.length_drop, List.length_take]; rfl)) ?_; (with_reducible refine (bpoly_Degree.calls k _ _ t163 t166 _ ?side1 ?side2 A4.out).mono ?_); (case side1 => repeat (first | exact (Kd.V_reads' HO165.out).2.2 | (with_reducible refine Kd.C_alloc ?_ _) | (with_reducible refine Kd.C_drewN ?_ _) | (with_reducible refine Kd.C_drew ?_))); (case side2 => exact (Kd.V_reads' HO165.out).2.1); rintro e w8 ⟨rfl, hb⟩; refine ⟨_, rfl, ?_⟩; have n0_ := Aside0.mk (Kd.V_below (by (with_reducible repeat (first | apply Kd.V_alloc | apply Kd.V_drewN | apply Kd.V_drew)); exact HO1.out) hb); have n1_ := Aside0.mk (Kd.V_below (by (with_reducible repeat (first | apply Kd.V_alloc | apply Kd.V_drewN | apply Kd.V_drew)); exact HO165.out) hb); have n2_ := Aside0.mk (below_step (by repeat (first | (with_reducible first | exact HB.out | apply below_alloc | apply pw_below_drewN | apply below_drew1) | exact HB.out)) hb); clear HO1; clear HO165; clear HB; have HO1 := n0_; have HO165 := n1_; have HB := n2_; clear n0_ n1_ n2_; (try clear hb); (try clear hb2); (try clear hk); (try clear hi)))
    go_ret2
    exact ⟨.slice none 0 0, by first | rfl | (simp [errW_none, errW_some] <;> rfl) | (simp [*, errW_none, errW_some] <;> rfl), Kd.V_nil _ _ _ _ _, by repeat (first | (with_reducible first | exact HB.out | apply below_alloc | apply pw_below_drewN | apply below_drew1) | exact HB.out)⟩
  · rw [if_neg c5] at H
    have c5b0 : decide (t166 < 0) = false := decide_eq_false c5
    clear c5
    obtain ⟨ji9, hji9⟩ : ∃ j_ : Int, (wrap64 ((l0.length : Int) + 1)) = j_ := ⟨_, rfl⟩
    replace H : (if 0 ≤ (ji9) then (if (ji9 : Int).toNat ≤ 281474976710656 then (bpoly_Mod.l0 k t163 t166 (cpy l0 (List.replicate (ji9 : Int).toNat 0)) (wrap64 ((wrap64 (8 * (l0.length : Int))) - 1))) else (none)) else (none)) = some (r1, r2) := by first | (rw [hji9] at H; exact H) | (simp only [hji9] at H ⊢; exact H)
    (try rw [hji9] at A3)
    (try rw [hji9] at A4)
    have hji9w : (IntKind.i64.wrap ((l0.length : Int) + 1)) = ji9 := (i64_w _).trans hji9
    by_cases c10 : 0 ≤ (ji9)
    · rw [if_pos c10] at H
      have c10b0 := eq_true c10
      have c10b1 : decide (0 ≤ (ji9)) = true := decide_eq_true c10
      clear c10
      by_cases c11 : (ji9 : Int).toNat ≤ 281474976710656
      · rw [if_pos c11] at H
        have c11b0 := eq_true c11
        have c11b1 : decide ((ji9 : Int).toNat ≤ 281474976710656) = true := decide_eq_true c11
        clear c11
        obtain ⟨y167, hy167⟩ : ∃ y_ : List Int, y_ = (List.replicate (ji9 : Int).toNat 0) := ⟨_, rfl⟩
        replace H : (bpoly_Mod.l0 k t163 t166 (cpy l0 y167) (wrap64 ((wrap64 (8 * (l0.length : Int))) - 1))) = some (r1, r2) := by first | (rw [hy167]; with_reducible exact H) | (have H2_ := (Option.bind_some _ _).symm.trans H; rw [hy167]; with_reducible exact H2_) | (have H2_ := (Option.bind_some _ _).symm.trans H; with_reducible exact H2_) | with_reducible exact H | (rw [hy167]; exact H) | exact H
        have Ny167 := Aside0.mk hy167
        clear hy167
        have H' := Aside0.mk H
        clear H
        go_enter Try.func22, Try.ntmps22
        go_wp2_with (first | ((with_reducible refine gate_callee (f := 31) rfl ?_); refine goesL_ (some 10) rfl rfl Try.func31 (by kernel_rfl) rfl #[.slice A1 l1.length c1] rfl (by (try simp only [List.map_toArray, List.map_cons, List.map_nil]); first | done | rfl | (simp only [List.length_drop, List.length_take]; rfl)) ?_; (with_reducible refine (bpoly_norm.calls k (fun k_ => (P1_ k_ ∨ w.heap.size ≤ k_)) _ _ l1 t163 _ ?side1 A3.out).mono ?_); (case side1 => exact HO1.out); rintro e w12 ⟨v164, rfl, ho0, hb⟩; refine ⟨_, rfl, ?_⟩; have n0_ := Aside0.mk (Kd.V_below (by (with_reducible repeat (first | apply Kd.V_alloc | apply Kd.V_drewN | apply Kd.V_drew)); exact HO1.out) hb); have n1_ := Aside0.mk (Kd.V_lower (Kd.V_mono (ok' := fun k_ => (P1_ k_ ∨ w.heap.size ≤ k_)) ho0 (fun k_ hk_ => Or.elim hk_ (fun hs_ => hs_) (fun hn_ => (.inr (Nat.le_trans (below_size (by repeat (first | (with_reducible first | exact HB.out | apply below_alloc | apply pw_below_drewN | apply below_drew1) | exact HB.out))) hn_))))) (below_size (by repeat (first | (with_reducible first | exact HB.out | apply below_alloc | apply pw_below_drewN | apply below_drew1) | exact HB.out)))); have n2_ := Aside0.mk (below_step (by repeat (first | (with_reducible first | exact HB.out | apply below_alloc | apply pw_below_drewN | apply below_drew1) | exact HB.out)) hb); clear HO1; clear HB; have HO1 := n0_; have HO165 := n1_; have HB := n2_; clear n0_ n1_ n2_; (try clear hb); (try clear hb2); (try clear hk); (try clear hi); (try clear ho0); obtain ⟨Ao13, co13, eo13⟩ := Kd.V_slice HO165.out; subst eo13) | ((with_reducible refine gate_callee (f := 23) rfl ?_); refine goesL_ (some 12) rfl rfl Try.func23 (by kernel_rfl) rfl #[.slice Ao13 t163.length co13] rfl (by (try simp only [List.map_toArray, List.map_cons, List.map_nil]); first | done | rfl | (simp only [List.length_drop, List.length_take]; rfl)) ?_; (with_reducible refine (bpoly_Degree.calls k _ _ t163 t166 _ ?side1 ?side2 A4.out).mono ?_); (case side1 => repeat (first | exact (Kd.V_reads' HO165.out).2.2 | (with_reducible refine Kd.C_alloc ?_ _) | (with_reducible refine Kd.C_drewN ?_ _) | (with_reducible refine Kd.C_drew ?_))); (case side2 => exact (Kd.V_reads' HO165.out).2.1); rintro e w14 ⟨rfl, hb⟩; refine ⟨_, rfl, ?_⟩; have n0_ := Aside0.mk (Kd.V_below (by (with_reducible repeat (first | apply Kd.V_alloc | apply Kd.V_drewN | apply Kd.V_drew)); exact HO1.out) hb); have n1_ := Aside0.mk (Kd.V_below (by (with_reducible repeat (first | apply Kd.V_alloc | apply Kd.V_drewN | apply Kd.V_drew)); exact HO165.out) hb); have n2_ := Aside0.mk (below_step (by repeat (first | (with_reducible first | exact HB.out | apply below_alloc | apply pw_below_drewN | apply below_drew1) | exact HB.out)) hb); clear HO1; clear HO165; clear HB; have HO1 := n0_; have HO165 := n1_; have HB := n2_; clear n0_ n1_ n2_; (try clear hb); (try clear hb2); (try clear hk); (try clear hi)) | ((with_reducible refine gate_dst (N := 18) rfl ?_); refine Kd.R_make (Kd.int .u8) _ 5 rfl (N := 18) rfl 22 _ _ rfl ji9 rfl rfl Try.underlying22 (.int .u8 0) 1 info5 rfl (by decide) (by omega) 0 (ok := fun _ => True) (okp := fun _ => True) rfl (fun _ hk => hk) trivial (of_decide_eq_true (by first | (with_reducible assumption) | assumption)) (Nat.le_trans (Nat.mul_le_mul_right _ (of_decide_eq_true (by first | (with_reducible assumption) | assumption) : ji9.toNat ≤ 281474976710656)) (by omega)) (Below.refl _ _) (Nat.le_refl _) ?_; intro v168 w15 ho16 hb hg_ hnew_; clear hg_ hnew_; (first | rw [← Ny167.out] at ho16 | (simp only [Int.reduceToNat] at ho16; rw [← Ny167.out] at ho16)); have n0_ := Aside0.mk (Kd.V_elder' (by (with_reducible repeat (first | apply Kd.V_alloc | apply Kd.V_drewN | apply Kd.V_drew)); exact HO1.out) (Kd.R_base ho16) hb); have n1_ := Aside0.mk (Kd.V_elder' (by (with_reducible repeat (first | apply Kd.V_alloc | apply Kd.V_drewN | apply Kd.V_drew)); exact HO165.out) (Kd.R_base ho16) hb); have n2_ := Aside0.mk (Kd.R_lower (Kd.R_newM (M := fun k_ => (w.heap.size ≤ k_)) ho16 (below_size (by repeat (first | (with_reducible first | exact HB.out | apply below_alloc | apply pw_below_drewN | apply below_drew1) | exact HB.out))) (fun k_ h_ => h_)) (below_size (by repeat (first | (with_reducible first | exact HB.out | apply below_alloc | apply pw_below_drewN | apply below_drew1) | exact HB.out)))); have n3_ := Aside0.mk (below_step (by repeat (first | (with_reducible first | exact HB.out | apply below_alloc | apply pw_below_drewN | apply below_drew1) | exact HB.out)) hb); clear HO1; clear HO165; clear HB; have HO1 := n0_; have HO165 := n1_; have HO169 := n2_; have HB := n3_; clear n0_ n1_ n2_ n3_; clear hb ho16) | ((with_reducible refine gate_dst (N := 21) rfl ?_); refine Kd.R_copy (enc := Value.int .u8) 0 w.heap.size rfl (.tmp 19) (.tmp 20) 22 22 5 rfl Try.underlying22 (by kernel_rfl) v168 y167 l0 A0 l0.length c0 _ rfl rfl HO169.out (Kd.C_below HR0.out HB.out) HB.out HB.out.size ?_; intro w6 ho7 hb7 hg7; have m0_ := Aside0.mk (Kd.V_grown HO1.out hg7 (fun k_ hk_ => hk_.2)); have m1_ := Aside0.mk (Kd.V_grown HO165.out hg7 (fun k_ hk_ => hk_.2)); clear HO1 HO165 HO169 HB; have HO1 := m0_; have HO165 := m1_; have HO169 := Aside0.mk ho7; have HB := Aside0.mk hb7; clear hb7 ho7 hg7 m0_ m1_))
        go_loopg [8] k (fun kq v8 w' => ∃ (x7_1 : List Int) (x8_1 : Int), v8 = .int .i64 x8_1 ∧ Aside0 (bpoly_Mod.l0 kq t163 t166 x7_1 x8_1 = some (r1, r2)) ∧ Aside0 (kq ≤ k) ∧ Aside0 (Kd.V (Kd.int .u8) 5 w' w.heap.size (fun k_ => (P1_ k_ ∨ w.heap.size ≤ k_) ∧ some k_ ≠ (v168 : Value).ownBlock) (.slice Ao13 t163.length co13) t163) ∧ Aside0 (Kd.R (Kd.int .u8) 5 w' w.heap.size (fun k_ => (w.heap.size ≤ k_)) v168 x7_1) ∧ Aside0 (Below w.heap.size w w'))
        case atStart => exact ⟨(cpy l0 y167), (wrap64 ((wrap64 (8 * (l0.length : Int))) - 1)), (by first | rfl | (simp; done) | (simp [*]; done)), H', ⟨Nat.le_refl _⟩, ⟨by (with_reducible repeat (first | apply Kd.V_alloc | apply Kd.V_drewN | apply Kd.V_drew)); exact HO165.out⟩, ⟨by (with_reducible repeat (first | apply Kd.R_alloc | apply Kd.R_drewN | apply Kd.R_drew)); exact Kd.R_mono HO169.out (fun _ hk => hk.1)⟩, ⟨by repeat (first | (with_reducible first | exact HB.out | apply below_alloc | apply pw_below_drewN | apply below_drew1) | exact HB.out)⟩⟩
        case round =>
          clear H'
          try clear c1
          try clear c2
          try clear p2
          try clear c3
          try clear c5
          try clear c5b0
          try clear p6
          try clear c10
          try clear c10b0
          try clear c10b1
          try clear c11
          try clear c11b0
          try clear c11b1
          obtain ⟨x7_1, x8_1, rfl, HA, HK1, HO_1, HO_7, HB⟩ := hrel
          cases gk with
          | zero => exact absurd HA.out (by simp [bpoly_Mod.l0])
          | succ k1 =>
            have H := HA.out
            clear HA
            simp only [bpoly_Mod.l0] at H
            by_cases c17 : x8_1 ≥ t166
            · rw [if_pos c17] at H
              have c17b0 : decide (t166 ≤ x8_1) = true := decide_eq_true c17
              clear c17
              replace H := Option.bind_eq_some_iff.mp H
              obtain ⟨t173, A180, H⟩ := H
              replace H : (if t173 = true then ((bpoly_add.f k1 x7_1 t163 (wrap64 (x8_1 - t166))).bind fun t174 => (bpoly_Mod.l0 k1 t163 t166 t174 (wrap64 (x8_1 - 1)))) else (bpoly_Mod.l0 k1 t163 t166 x7_1 (wrap64 (x8_1 - 1)))) = some (r1, r2) := H
              have A18 := Aside0.mk A180
              clear A180
              by_cases c19 : t173 = true
              · subst c19
                have H1 : ((bpoly_add.f k1 x7_1 t163 (wrap64 (x8_1 - t166))).bind fun t174 => (bpoly_Mod.l0 k1 t163 t166 t174 (wrap64 (x8_1 - 1)))) = some (r1, r2) := by rw [if_pos rfl] at H; exact H
                clear H
                have H := H1
                clear H1
                replace H := Option.bind_eq_some_iff.mp H
                obtain ⟨t174, A200, H⟩ := H
                replace H : (bpoly_Mod.l0 k1 t163 t166 t174 (wrap64 (x8_1 - 1))) = some (r1, r2) := H
                have A20 := Aside0.mk A200
                clear A200
                have H' := Aside0.mk H
                clear H
                obtain ⟨Ao21, co21, eo21⟩ := Kd.R_slice HO_7.out
                subst eo21
                go_wp2_with (first | ((with_reducible refine gate_callee (f := 36) rfl ?_); refine goesL_ (some 33) rfl rfl Try.func36 (by kernel_rfl) rfl #[.slice Ao21 x7_1.length co21, .int .i64 x8_1] rfl (by (try simp only [List.map_toArray, List.map_cons, List.map_nil]); first | done | rfl | (simp only [List.length_drop, List.length_take]; rfl)) ?_; (with_reducible refine (bpoly_one.calls _ _ x7_1 x8_1 true _ ?side1 ?side2 A18.out).mono ?_); (case side1 => repeat (first | exact (Kd.R_reads' HO_7.out).2.2 | (with_reducible refine Kd.C_alloc ?_ _) | (with_reducible refine Kd.C_drewN ?_ _) | (with_reducible refine Kd.C_drew ?_))); (case side2 => exact (Kd.R_reads' HO_7.out).2.1); rintro e w' ⟨rfl, ⟨nd, rfl⟩⟩; refine ⟨_, rfl, ?_⟩) | ((with_reducible refine gate_callee (f := 37) rfl ?_); refine goesL_ (some 39) rfl rfl Try.func37 (by kernel_rfl) rfl #[.slice Ao21 x7_1.length co21, .slice Ao13 t163.length co13, .int .i64 (wrap64 (x8_1 - t166))] rfl (by (try simp only [List.map_toArray, List.map_cons, List.map_nil]); first | done | rfl | (simp only [List.length_drop, List.length_take]; rfl)) ?_; (with_reducible refine (bpoly_add.calls k1 (fun k_ => some k_ = (.slice Ao21 x7_1.length co21 : Value).ownBlock) (.slice Ao21 x7_1.length co21) x7_1 _ _ t163 (wrap64 (x8_1 - t166)) t174 w _ ?side1 ?side2 ?side3 ?side4 A20.out).mono ?_); (case side1 => repeat (first | (with_reducible first | exact HB.out | apply below_alloc | apply pw_below_drewN | apply below_drew1) | exact HB.out)); (case side2 => exact Kd.R_tight rfl HO_7.out); (case side3 => exact Kd.C_kept_ownV (Kd.V_drewN HO_1.out _) (fun k_ hk_ hs_ => (hk_.2) hs_)); (case side4 => exact (Kd.V_reads' HO_1.out).2.1); rintro e w22 ⟨rfl, hy0, hb, hkp⟩; refine ⟨_, rfl, ?_⟩; have n0_ := Aside0.mk (Kd.V_mono (ok' := fun k_ => (P1_ k_ ∨ w.heap.size ≤ k_) ∧ some k_ ≠ (.slice Ao21 x7_1.length co21 : Value).ownBlock) (Kd.V_keptB (Kd.V_drewN HO_1.out _) hkp (fun k_ hk_ hs_ => (hk_.2) hs_)) (fun k_ hk_ => ⟨hk_.1.1, hk_.1.2⟩)); have n1_ := Aside0.mk (Kd.R_reok rfl hy0 (fun k_ e_ => HO_7.out.1 k_ e_)); have n2_ := Aside0.mk (hb); clear HO_1; clear HO_7; clear HB; have HO_1 := n0_; have HO_7 := n1_; have HB := n2_; clear n0_ n1_ n2_; (try clear hb); (try clear hkp); (try clear hy0)))
                go_roundg k1
                case measure => have := HK1.out; omega
                case rel => exact ⟨(t174), (wrap64 (x8_1 - 1)), (by first | rfl | (simp; done) | (simp [*]; done)), H', ⟨by have := HK1.out; omega⟩, ⟨by (with_reducible repeat (first | apply Kd.V_alloc | apply Kd.V_drewN | apply Kd.V_drew)); exact HO_1.out⟩, ⟨by (with_reducible repeat (first | apply Kd.R_alloc | apply Kd.R_drewN | apply Kd.R_drew)); exact HO_7.out⟩, ⟨by repeat (first | (with_reducible first | exact HB.out | apply below_alloc | apply pw_below_drewN | apply below_drew1) | exact HB.out)⟩⟩
              · replace c19 := Bool.eq_false_iff.mpr c19
                subst c19
                have H1 : (bpoly_Mod.l0 k1 t163 t166 x7_1 (wrap64 (x8_1 - 1))) = some (r1, r2) := by rw [if_neg (show ¬ (false = true) by decide)] at H; exact H
                clear H
                have H := H1
                clear H1
                have H' := Aside0.mk H
                clear H
                obtain ⟨Ao23, co23, eo23⟩ := Kd.R_slice HO_7.out
                subst eo23
                go_wp2_with (first | ((with_reducible refine gate_callee (f := 36) rfl ?_); refine goesL_ (some 33) rfl rfl Try.func36 (by kernel_rfl) rfl #[.slice Ao23 x7_1.length co23, .int .i64 x8_1] rfl (by (try simp only [List.map_toArray, List.map_cons, List.map_nil]); first | done | rfl | (simp only [List.length_drop, List.length_take]; rfl)) ?_; (with_reducible refine (bpoly_one.calls _ _ x7_1 x8_1 false _ ?side1 ?side2 A18.out).mono ?_); (case side1 => repeat (first | exact (Kd.R_reads' HO_7.out).2.2 | (with_reducible refine Kd.C_alloc ?_ _) | (with_reducible refine Kd.C_drewN ?_ _) | (with_reducible refine Kd.C_drew ?_))); (case side2 => exact (Kd.R_reads' HO_7.out).2.1); rintro e w' ⟨rfl, ⟨nd, rfl⟩⟩; refine ⟨_, rfl, ?_⟩))
                go_roundg k1
                case measure => have := HK1.out; omega
                case rel => exact ⟨(x7_1), (wrap64 (x8_1 - 1)), (by first | rfl | (simp; done) | (simp [*]; done)), H', ⟨by have := HK1.out; omega⟩, ⟨by (with_reducible repeat (first | apply Kd.V_alloc | apply Kd.V_drewN | apply Kd.V_drew)); exact HO_1.out⟩, ⟨by (with_reducible repeat (first | apply Kd.R_alloc | apply Kd.R_drewN | apply Kd.R_drew)); exact HO_7.out⟩, ⟨by repeat (first | (with_reducible first | exact HB.out | apply below_alloc | apply pw_below_drewN | apply below_drew1) | exact HB.out)⟩⟩
            · rw [if_neg c17] at H
              have c17b0 : decide (t166 ≤ x8_1) = false := decide_eq_false c17
              clear c17
              replace H := Option.bind_eq_some_iff.mp H
              obtain ⟨t170, A240, H⟩ := H
              replace H : (some (t170, 0)) = some (r1, r2) := H
              have A24 := Aside0.mk A240
              clear A240
              simp only [Option.some.injEq, Prod.mk.injEq] at H
              obtain ⟨rfl, rfl⟩ := H
              obtain ⟨Ao25, co25, eo25⟩ := Kd.R_slice HO_7.out
              subst eo25
              go_wp2_with (first | ((with_reducible refine gate_callee (f := 31) rfl ?_); refine goesL_ (some 41) rfl rfl Try.func31 (by kernel_rfl) rfl #[.slice Ao25 x7_1.length co25] rfl (by (try simp only [List.map_toArray, List.map_cons, List.map_nil]); first | done | rfl | (simp only [List.length_drop, List.length_take]; rfl)) ?_; (with_reducible refine (bpoly_norm.calls k1 (fun k_ => some k_ = (.slice Ao25 x7_1.length co25 : Value).ownBlock) _ _ x7_1 t170 _ ?side1 A24.out).mono ?_); (case side1 => exact Kd.R_V (Kd.R_tight rfl (HO_7.out))); rintro e w26 ⟨v171, rfl, ho0, hb⟩; refine ⟨_, rfl, ?_⟩; have n0_ := Aside0.mk (Kd.V_below (by (with_reducible repeat (first | apply Kd.V_alloc | apply Kd.V_drewN | apply Kd.V_drew)); exact HO_1.out) hb); have n1_ := Aside0.mk (Kd.R_below (by (with_reducible repeat (first | apply Kd.R_alloc | apply Kd.R_drewN | apply Kd.R_drew)); exact HO_7.out) hb); have n2_ := Aside0.mk (Kd.V_lower (Kd.V_mono (ok' := fun k_ => (P1_ k_ ∨ w.heap.size ≤ k_)) ho0 (fun k_ hk_ => Or.elim hk_ (fun hs_ => (.inr (((HO_7.out).1 k_ hs_.symm)))) (fun hn_ => (.inr (Nat.le_trans (below_size (by repeat (first | (with_reducible first | exact HB.out | apply below_alloc | apply pw_below_drewN | apply below_drew1) | exact HB.out))) hn_))))) (below_size (by repeat (first | (with_reducible first | exact HB.out | apply below_alloc | apply pw_below_drewN | apply below_drew1) | exact HB.out)))); have n3_ := Aside0.mk (below_step (by repeat (first | (with_reducible first | exact HB.out | apply below_alloc | apply pw_below_drewN | apply below_drew1) | exact HB.out)) hb); clear HO_1; clear HO_7; clear HB; have HO_1 := n0_; have HO_7 := n1_; have HO172 := n2_; have HB := n3_; clear n0_ n1_ n2_ n3_; (try clear hb); (try clear hb2); (try clear hk); (try clear hi); (try clear ho0)))
              go_ret2
              exact ⟨_, by first | rfl | (simp [errW_none, errW_some] <;> rfl) | (simp only [← hji9]; first | rfl | (simp [errW_none, errW_some] <;> rfl)) | (simp [*, errW_none, errW_some] <;> rfl), by (with_reducible repeat (first | apply Kd.V_alloc | apply Kd.V_drewN | apply Kd.V_drew)); exact HO172.out, by repeat (first | (with_reducible first | exact HB.out | apply below_alloc | apply pw_below_drewN | apply below_drew1) | exact HB.out)⟩
      · rw [if_neg c11] at H
        exact absurd H (by simp)
    · rw [if_neg c10] at H
      exact absurd H (by simp)
def casematelaw04_awake.f (k : Nat)  : Option (Bool) := (bpoly_Mod.f k (([1] : List Int)) (([0] : List Int))).bind fun bt181 => ((bpoly_Generator.f k 8).bind fun bt185 => ((bpoly_Degree.f k (([0] : List Int))).bind fun t192 => (if t192 = (-1) then ((bpoly_Degree.f k (([0, 1] : List Int))).bind fun t196 => (if t196 = 8 then ((bpoly_Mul.f k (([3] : List Int)) (([3] : List Int))).bind fun t203 => (if (strOfNums t203).toList = ([5] : List UInt8) then (if bt181.2 = 20 then (if (bt181.1.length : Int) = 0 then ((bpoly_Minimal.f k 1).bind fun t206 => (if (strOfNums t206).toList = ([27, 32] : List UInt8) then (if bt185.2 = 0 then ((bpoly_Degree.f k bt185.1).bind fun t209 => (some (t209 == 104))) else (some false)) else (some false))) else (some false)) else (some false)) else (some false))) else (some false))) else (some false))))
theorem casematelaw04_awake.mono : ∀ k, LeO (casematelaw04_awake.f k ) (casematelaw04_awake.f (k + 1) ) := by
  intro  k
  unfold casematelaw04_awake.f
  repeat' first
      | (with_reducible exact bpoly_Degree.mono _ _)
      | (with_reducible exact bpoly_Generator.mono _ _)
      | (with_reducible exact bpoly_Minimal.mono _ _)
      | (with_reducible exact bpoly_Mod.mono _ _ _)
      | (with_reducible exact bpoly_Mul.mono _ _ _)
      | (with_reducible exact LeO.refl _)
      | (with_reducible exact LeO.none _)
      | (with_reducible refine LeO.ite ?_ ?_)
      | (with_reducible refine LeO.bind ?_ (fun _ => ?_))
      | exact bpoly_Degree.mono _ _
      | exact bpoly_Generator.mono _ _
      | exact bpoly_Minimal.mono _ _
      | exact bpoly_Mod.mono _ _ _
      | exact bpoly_Mul.mono _ _ _
      | exact LeO.none _
      | refine LeO.ite ?_ ?_
      | refine LeO.bind ?_ (fun _ => ?_)
theorem casematelaw04_awake.strV {w : World} {e s1 s2 s3 : TypeId} {base : Nat} {ok : Nat → Prop} {v : Value} {xs : List Int} (hs : Try.prog.underlying s1 = some (.slice s2)) (he : Try.prog.underlying s2 = some (.int .u8)) (hd : Try.prog.underlying s3 = some .string) (h : Kd.V (Kd.int .u8) e w base ok v xs) : Sem.run Try.prog (convert s1 s3 v) w = .ok (.string (strOfNums xs)) w := by
  obtain ⟨A, c, rfl⟩ := Kd.V_slice h
  exact Kd.C_string hs he hd (Kd.V_reads' h).2.2
theorem casematelaw04_awake.yes (k : Nat) (r : Bool) (h : casematelaw04_awake.f k = some r) : r = true := by
  have e : casematelaw04_awake.f 140 = some true := by decide +kernel
  rcases Nat.le_total k 140 with hk | hk
  · exact Option.some.inj ((at_rounds (g := casematelaw04_awake.f) casematelaw04_awake.mono hk h).symm.trans e)
  · exact Option.some.inj (h.symm.trans (at_rounds (g := casematelaw04_awake.f) casematelaw04_awake.mono hk e))
set_option maxHeartbeats 8000000 in
set_option maxRecDepth 100000 in
theorem casematelaw04_awake.calls (k : Nat)  (r : Bool) (w : World) (h : casematelaw04_awake.f k  = some r) :
    Calls Try.prog 11 #[] w fun e w' => e = .returned (.bool r) ∧ Below w.heap.size w w' := by
  have HB := Aside0.mk (Below.refl w.heap.size w)
  have hr_ := Aside0.mk (casematelaw04_awake.yes k r h)
  have H : ((bpoly_Mod.f k (([1] : List Int)) (([0] : List Int))).bind fun bt181 => ((bpoly_Generator.f k 8).bind fun bt185 => ((bpoly_Degree.f k (([0] : List Int))).bind fun t192 => (if t192 = (-1) then ((bpoly_Degree.f k (([0, 1] : List Int))).bind fun t196 => (if t196 = 8 then ((bpoly_Mul.f k (([3] : List Int)) (([3] : List Int))).bind fun t203 => (if (strOfNums t203).toList = ([5] : List UInt8) then (if bt181.2 = 20 then (if (bt181.1.length : Int) = 0 then ((bpoly_Minimal.f k 1).bind fun t206 => (if (strOfNums t206).toList = ([27, 32] : List UInt8) then (if bt185.2 = 0 then ((bpoly_Degree.f k bt185.1).bind fun t209 => (some (t209 == 104))) else (some false)) else (some false))) else (some false)) else (some false)) else (some false))) else (some false))) else (some false))))) = some r := h
  clear h
  obtain ⟨y175, hy175⟩ : ∃ y_ : List Int, y_ = (([1] : List Int)) := ⟨_, rfl⟩
  replace H : ((bpoly_Mod.f k y175 (([0] : List Int))).bind fun bt181 => ((bpoly_Generator.f k 8).bind fun bt185 => ((bpoly_Degree.f k (([0] : List Int))).bind fun t192 => (if t192 = (-1) then ((bpoly_Degree.f k (([0, 1] : List Int))).bind fun t196 => (if t196 = 8 then ((bpoly_Mul.f k (([3] : List Int)) (([3] : List Int))).bind fun t203 => (if (strOfNums t203).toList = ([5] : List UInt8) then (if bt181.2 = 20 then (if (bt181.1.length : Int) = 0 then ((bpoly_Minimal.f k 1).bind fun t206 => (if (strOfNums t206).toList = ([27, 32] : List UInt8) then (if bt185.2 = 0 then ((bpoly_Degree.f k bt185.1).bind fun t209 => (some (t209 == 104))) else (some false)) else (some false))) else (some false)) else (some false)) else (some false))) else (some false))) else (some false))))) = some r := by first | (rw [hy175]; with_reducible exact H) | (have H2_ := (Option.bind_some _ _).symm.trans H; rw [hy175]; with_reducible exact H2_) | (have H2_ := (Option.bind_some _ _).symm.trans H; with_reducible exact H2_) | with_reducible exact H | (rw [hy175]; exact H) | exact H
  have Ny175 := Aside0.mk hy175
  clear hy175
  obtain ⟨y178, hy178⟩ : ∃ y_ : List Int, y_ = (([0] : List Int)) := ⟨_, rfl⟩
  replace H : ((bpoly_Mod.f k y175 y178).bind fun bt181 => ((bpoly_Generator.f k 8).bind fun bt185 => ((bpoly_Degree.f k (([0] : List Int))).bind fun t192 => (if t192 = (-1) then ((bpoly_Degree.f k (([0, 1] : List Int))).bind fun t196 => (if t196 = 8 then ((bpoly_Mul.f k (([3] : List Int)) (([3] : List Int))).bind fun t203 => (if (strOfNums t203).toList = ([5] : List UInt8) then (if bt181.2 = 20 then (if (bt181.1.length : Int) = 0 then ((bpoly_Minimal.f k 1).bind fun t206 => (if (strOfNums t206).toList = ([27, 32] : List UInt8) then (if bt185.2 = 0 then ((bpoly_Degree.f k bt185.1).bind fun t209 => (some (t209 == 104))) else (some false)) else (some false))) else (some false)) else (some false)) else (some false))) else (some false))) else (some false))))) = some r := by first | (rw [hy178]; with_reducible exact H) | (have H2_ := (Option.bind_some _ _).symm.trans H; rw [hy178]; with_reducible exact H2_) | (have H2_ := (Option.bind_some _ _).symm.trans H; with_reducible exact H2_) | with_reducible exact H | (rw [hy178]; exact H) | exact H
  have Ny178 := Aside0.mk hy178
  clear hy178
  replace H := Option.bind_eq_some_iff.mp H
  obtain ⟨⟨t181, t184⟩, A10, H⟩ := H
  replace H : ((bpoly_Generator.f k 8).bind fun bt185 => ((bpoly_Degree.f k (([0] : List Int))).bind fun t192 => (if t192 = (-1) then ((bpoly_Degree.f k (([0, 1] : List Int))).bind fun t196 => (if t196 = 8 then ((bpoly_Mul.f k (([3] : List Int)) (([3] : List Int))).bind fun t203 => (if (strOfNums t203).toList = ([5] : List UInt8) then (if t184 = 20 then (if (t181.length : Int) = 0 then ((bpoly_Minimal.f k 1).bind fun t206 => (if (strOfNums t206).toList = ([27, 32] : List UInt8) then (if bt185.2 = 0 then ((bpoly_Degree.f k bt185.1).bind fun t209 => (some (t209 == 104))) else (some false)) else (some false))) else (some false)) else (some false)) else (some false))) else (some false))) else (some false)))) = some r := H
  have A1 := Aside0.mk A10
  clear A10
  replace H := Option.bind_eq_some_iff.mp H
  obtain ⟨⟨t185, t188⟩, A20, H⟩ := H
  replace H : ((bpoly_Degree.f k (([0] : List Int))).bind fun t192 => (if t192 = (-1) then ((bpoly_Degree.f k (([0, 1] : List Int))).bind fun t196 => (if t196 = 8 then ((bpoly_Mul.f k (([3] : List Int)) (([3] : List Int))).bind fun t203 => (if (strOfNums t203).toList = ([5] : List UInt8) then (if t184 = 20 then (if (t181.length : Int) = 0 then ((bpoly_Minimal.f k 1).bind fun t206 => (if (strOfNums t206).toList = ([27, 32] : List UInt8) then (if t188 = 0 then ((bpoly_Degree.f k t185).bind fun t209 => (some (t209 == 104))) else (some false)) else (some false))) else (some false)) else (some false)) else (some false))) else (some false))) else (some false))) = some r := H
  have A2 := Aside0.mk A20
  clear A20
  obtain ⟨y189, hy189⟩ : ∃ y_ : List Int, y_ = (([0] : List Int)) := ⟨_, rfl⟩
  replace H : ((bpoly_Degree.f k y189).bind fun t192 => (if t192 = (-1) then ((bpoly_Degree.f k (([0, 1] : List Int))).bind fun t196 => (if t196 = 8 then ((bpoly_Mul.f k (([3] : List Int)) (([3] : List Int))).bind fun t203 => (if (strOfNums t203).toList = ([5] : List UInt8) then (if t184 = 20 then (if (t181.length : Int) = 0 then ((bpoly_Minimal.f k 1).bind fun t206 => (if (strOfNums t206).toList = ([27, 32] : List UInt8) then (if t188 = 0 then ((bpoly_Degree.f k t185).bind fun t209 => (some (t209 == 104))) else (some false)) else (some false))) else (some false)) else (some false)) else (some false))) else (some false))) else (some false))) = some r := by first | (rw [hy189]; with_reducible exact H) | (have H2_ := (Option.bind_some _ _).symm.trans H; rw [hy189]; with_reducible exact H2_) | (have H2_ := (Option.bind_some _ _).symm.trans H; with_reducible exact H2_) | with_reducible exact H | (rw [hy189]; exact H) | exact H
  have Ny189 := Aside0.mk hy189
  clear hy189
  replace H := Option.bind_eq_some_iff.mp H
  obtain ⟨t192, A30, H⟩ := H
  replace H : (if t192 = (-1) then ((bpoly_Degree.f k (([0, 1] : List Int))).bind fun t196 => (if t196 = 8 then ((bpoly_Mul.f k (([3] : List Int)) (([3] : List Int))).bind fun t203 => (if (strOfNums t203).toList = ([5] : List UInt8) then (if t184 = 20 then (if (t181.length : Int) = 0 then ((bpoly_Minimal.f k 1).bind fun t206 => (if (strOfNums t206).toList = ([27, 32] : List UInt8) then (if t188 = 0 then ((bpoly_Degree.f k t185).bind fun t209 => (some (t209 == 104))) else (some false)) else (some false))) else (some false)) else (some false)) else (some false))) else (some false))) else (some false)) = some r := H
  have A3 := Aside0.mk A30
  clear A30
  by_cases c4 : t192 = (-1)
  · rw [if_pos c4] at H
    have c4b0 : (t192 == (-1)) = true := beq_iff_eq.mpr c4
    have c4b1 : (t192 != (-1)) = false := bne_eq_false_iff_eq.mpr c4
    clear c4
    obtain ⟨y193, hy193⟩ : ∃ y_ : List Int, y_ = (([0, 1] : List Int)) := ⟨_, rfl⟩
    replace H : ((bpoly_Degree.f k y193).bind fun t196 => (if t196 = 8 then ((bpoly_Mul.f k (([3] : List Int)) (([3] : List Int))).bind fun t203 => (if (strOfNums t203).toList = ([5] : List UInt8) then (if t184 = 20 then (if (t181.length : Int) = 0 then ((bpoly_Minimal.f k 1).bind fun t206 => (if (strOfNums t206).toList = ([27, 32] : List UInt8) then (if t188 = 0 then ((bpoly_Degree.f k t185).bind fun t209 => (some (t209 == 104))) else (some false)) else (some false))) else (some false)) else (some false)) else (some false))) else (some false))) = some r := by first | (rw [hy193]; with_reducible exact H) | (have H2_ := (Option.bind_some _ _).symm.trans H; rw [hy193]; with_reducible exact H2_) | (have H2_ := (Option.bind_some _ _).symm.trans H; with_reducible exact H2_) | with_reducible exact H | (rw [hy193]; exact H) | exact H
    have Ny193 := Aside0.mk hy193
    clear hy193
    replace H := Option.bind_eq_some_iff.mp H
    obtain ⟨t196, A50, H⟩ := H
    replace H : (if t196 = 8 then ((bpoly_Mul.f k (([3] : List Int)) (([3] : List Int))).bind fun t203 => (if (strOfNums t203).toList = ([5] : List UInt8) then (if t184 = 20 then (if (t181.length : Int) = 0 then ((bpoly_Minimal.f k 1).bind fun t206 => (if (strOfNums t206).toList = ([27, 32] : List UInt8) then (if t188 = 0 then ((bpoly_Degree.f k t185).bind fun t209 => (some (t209 == 104))) else (some false)) else (some false))) else (some false)) else (some false)) else (some false))) else (some false)) = some r := H
    have A5 := Aside0.mk A50
    clear A50
    by_cases c6 : t196 = 8
    · rw [if_pos c6] at H
      have c6b0 : (t196 == 8) = true := beq_iff_eq.mpr c6
      have c6b1 : (t196 != 8) = false := bne_eq_false_iff_eq.mpr c6
      clear c6
      obtain ⟨y197, hy197⟩ : ∃ y_ : List Int, y_ = (([3] : List Int)) := ⟨_, rfl⟩
      replace H : ((bpoly_Mul.f k y197 (([3] : List Int))).bind fun t203 => (if (strOfNums t203).toList = ([5] : List UInt8) then (if t184 = 20 then (if (t181.length : Int) = 0 then ((bpoly_Minimal.f k 1).bind fun t206 => (if (strOfNums t206).toList = ([27, 32] : List UInt8) then (if t188 = 0 then ((bpoly_Degree.f k t185).bind fun t209 => (some (t209 == 104))) else (some false)) else (some false))) else (some false)) else (some false)) else (some false))) = some r := by first | (rw [hy197]; with_reducible exact H) | (have H2_ := (Option.bind_some _ _).symm.trans H; rw [hy197]; with_reducible exact H2_) | (have H2_ := (Option.bind_some _ _).symm.trans H; with_reducible exact H2_) | with_reducible exact H | (rw [hy197]; exact H) | exact H
      have Ny197 := Aside0.mk hy197
      clear hy197
      obtain ⟨y200, hy200⟩ : ∃ y_ : List Int, y_ = (([3] : List Int)) := ⟨_, rfl⟩
      replace H : ((bpoly_Mul.f k y197 y200).bind fun t203 => (if (strOfNums t203).toList = ([5] : List UInt8) then (if t184 = 20 then (if (t181.length : Int) = 0 then ((bpoly_Minimal.f k 1).bind fun t206 => (if (strOfNums t206).toList = ([27, 32] : List UInt8) then (if t188 = 0 then ((bpoly_Degree.f k t185).bind fun t209 => (some (t209 == 104))) else (some false)) else (some false))) else (some false)) else (some false)) else (some false))) = some r := by first | (rw [hy200]; with_reducible exact H) | (have H2_ := (Option.bind_some _ _).symm.trans H; rw [hy200]; with_reducible exact H2_) | (have H2_ := (Option.bind_some _ _).symm.trans H; with_reducible exact H2_) | with_reducible exact H | (rw [hy200]; exact H) | exact H
      have Ny200 := Aside0.mk hy200
      clear hy200
      replace H := Option.bind_eq_some_iff.mp H
      obtain ⟨t203, A70, H⟩ := H
      replace H : (if (strOfNums t203).toList = ([5] : List UInt8) then (if t184 = 20 then (if (t181.length : Int) = 0 then ((bpoly_Minimal.f k 1).bind fun t206 => (if (strOfNums t206).toList = ([27, 32] : List UInt8) then (if t188 = 0 then ((bpoly_Degree.f k t185).bind fun t209 => (some (t209 == 104))) else (some false)) else (some false))) else (some false)) else (some false)) else (some false)) = some r := H
      have A7 := Aside0.mk A70
      clear A70
      by_cases c8 : (strOfNums t203).toList = ([5] : List UInt8)
      · rw [if_pos c8] at H
        have c8b0 : ((strOfNums t203).toList == ([5] : List UInt8)) = true := beq_iff_eq.mpr c8
        have c8b1 : ((strOfNums t203).toList != ([5] : List UInt8)) = false := bne_eq_false_iff_eq.mpr c8
        clear c8
        by_cases c9 : t184 = 20
        · rw [if_pos c9] at H
          have c9b0 : (t184 == 20) = true := beq_iff_eq.mpr c9
          have c9b1 : (t184 != 20) = false := bne_eq_false_iff_eq.mpr c9
          clear c9
          by_cases c10 : (t181.length : Int) = 0
          · rw [if_pos c10] at H
            have c10b0 : ((t181.length : Int) == 0) = true := beq_iff_eq.mpr c10
            have c10b1 : ((t181.length : Int) != 0) = false := bne_eq_false_iff_eq.mpr c10
            clear c10
            replace H := Option.bind_eq_some_iff.mp H
            obtain ⟨t206, A110, H⟩ := H
            replace H : (if (strOfNums t206).toList = ([27, 32] : List UInt8) then (if t188 = 0 then ((bpoly_Degree.f k t185).bind fun t209 => (some (t209 == 104))) else (some false)) else (some false)) = some r := H
            have A11 := Aside0.mk A110
            clear A110
            by_cases c12 : (strOfNums t206).toList = ([27, 32] : List UInt8)
            · rw [if_pos c12] at H
              have c12b0 : ((strOfNums t206).toList == ([27, 32] : List UInt8)) = true := beq_iff_eq.mpr c12
              have c12b1 : ((strOfNums t206).toList != ([27, 32] : List UInt8)) = false := bne_eq_false_iff_eq.mpr c12
              clear c12
              by_cases c13 : t188 = 0
              · rw [if_pos c13] at H
                have c13b0 : (t188 == 0) = true := beq_iff_eq.mpr c13
                have c13b1 : (t188 != 0) = false := bne_eq_false_iff_eq.mpr c13
                clear c13
                replace H := Option.bind_eq_some_iff.mp H
                obtain ⟨t209, A140, H⟩ := H
                replace H : (some (t209 == 104)) = some r := H
                have A14 := Aside0.mk A140
                clear A140
                obtain rfl := Option.some.inj H
                go_enter Try.func11, Try.ntmps11
                go_wp2_with (first | ((with_reducible refine gate_dst (N := 6) rfl ?_); (try (refine gate_guard (by rfl) ?_; dsimp only)); refine Kd.R_lit (Kd.int .u8) _ 5 ?hg (N := 6) ?hd (xs := ([1] : List Int)) (inner := [.int .u8 1]) (ok := fun _ => True) (okp := fun _ => True) ?hr ?hp (fun _ hk => hk) trivial (Below.refl _ _) (Nat.le_refl _) (by simp) ?_; (case hd => rfl); (case hg => rfl); (case hr => first | (go_simp; done) | (go_simp; rfl)); (case hp => exact (Reps.one (show Kd.M (Kd.int .u8) _ _ _ 1 [.int .u8 1] from rfl) (Reps.none _ _))); intro v176 w15 ho16 hb hg_ hnew_; clear hg_ hnew_; (first | rw [← Ny175.out] at ho16 | (simp only [Int.reduceToNat] at ho16; rw [← Ny175.out] at ho16)); have n0_ := Aside0.mk (Kd.R_lower ho16 (below_size (by repeat (first | (with_reducible first | exact HB.out | apply below_alloc | apply pw_below_drewN | apply below_drew1) | exact HB.out)))); have n1_ := Aside0.mk (below_step (by repeat (first | (with_reducible first | exact HB.out | apply below_alloc | apply pw_below_drewN | apply below_drew1) | exact HB.out)) hb); clear HB; have HO177 := n0_; have HB := n1_; clear n0_ n1_; clear hb ho16) | ((with_reducible refine gate_dst (N := 7) rfl ?_); (try (refine gate_guard (by rfl) ?_; dsimp only)); refine Kd.R_lit (Kd.int .u8) _ 5 ?hg (N := 7) ?hd (xs := ([0] : List Int)) (inner := [.int .u8 0]) (ok := fun _ => True) (okp := fun _ => True) ?hr ?hp (fun _ hk => hk) trivial (Below.refl _ _) (Nat.le_refl _) (by simp) ?_; (case hd => rfl); (case hg => rfl); (case hr => first | (go_simp; done) | (go_simp; rfl)); (case hp => exact (Reps.one (show Kd.M (Kd.int .u8) _ _ _ 0 [.int .u8 0] from rfl) (Reps.none _ _))); intro v179 w17 ho18 hb hg_ hnew_; clear hg_ hnew_; (first | rw [← Ny178.out] at ho18 | (simp only [Int.reduceToNat] at ho18; rw [← Ny178.out] at ho18)); have n0_ := Aside0.mk (Kd.R_elder' (by (with_reducible repeat (first | apply Kd.R_alloc | apply Kd.R_drewN | apply Kd.R_drew)); exact HO177.out) (Kd.R_base ho18) hb); have n1_ := Aside0.mk (Kd.R_lower (Kd.R_new' ho18 (Kd.R_lt (by (with_reducible repeat (first | apply Kd.R_alloc | apply Kd.R_drewN | apply Kd.R_drew)); exact HO177.out))) (below_size (by repeat (first | (with_reducible first | exact HB.out | apply below_alloc | apply pw_below_drewN | apply below_drew1) | exact HB.out)))); have n2_ := Aside0.mk (below_step (by repeat (first | (with_reducible first | exact HB.out | apply below_alloc | apply pw_below_drewN | apply below_drew1) | exact HB.out)) hb); clear HO177; clear HB; have HO177 := n0_; have HO180 := n1_; have HB := n2_; clear n0_ n1_ n2_; clear hb ho18; obtain ⟨Ao19, co19, eo19⟩ := Kd.R_slice HO177.out; subst eo19; obtain ⟨Ao20, co20, eo20⟩ := Kd.R_slice HO180.out; subst eo20) | ((with_reducible refine gate_callee (f := 22) rfl ?_); refine goesL_ (some 8) rfl rfl Try.func22 (by kernel_rfl) rfl #[.slice Ao19 y175.length co19, .slice Ao20 y178.length co20] rfl (by (try simp only [List.map_toArray, List.map_cons, List.map_nil]); first | done | rfl | (simp only [List.length_drop, List.length_take]; rfl)) ?_; (with_reducible refine (bpoly_Mod.calls k _ _ y175 (fun k_ => some k_ = (.slice Ao20 y178.length co20 : Value).ownBlock) _ _ y178 t181 t184 _ ?side1 ?side2 ?side3 A1.out).mono ?_); (case side1 => repeat (first | exact (Kd.R_reads' HO177.out).2.2 | (with_reducible refine Kd.C_alloc ?_ _) | (with_reducible refine Kd.C_drewN ?_ _) | (with_reducible refine Kd.C_drew ?_))); (case side2 => exact (Kd.R_reads' HO177.out).2.1); (case side3 => exact Kd.R_V (Kd.R_tight rfl (HO180.out))); rintro e w21 ⟨v182, rfl, ho0, hb⟩; refine ⟨_, rfl, ?_⟩; have n0_ := Aside0.mk (Kd.R_below (by (with_reducible repeat (first | apply Kd.R_alloc | apply Kd.R_drewN | apply Kd.R_drew)); exact HO177.out) hb); have n1_ := Aside0.mk (Kd.R_below (by (with_reducible repeat (first | apply Kd.R_alloc | apply Kd.R_drewN | apply Kd.R_drew)); exact HO180.out) hb); have n2_ := Aside0.mk (Kd.V_lower (Kd.V_mono (ok' := fun k_ => some k_ ≠ (.slice Ao19 y175.length co19 : Value).ownBlock) ho0 (fun k_ hk_ => Or.elim hk_ (fun hs_ => ((HO180.out).1 k_ hs_.symm).2) (fun hn_ => (Kd.fresh' (Kd.R_lt (by (with_reducible repeat (first | apply Kd.R_alloc | apply Kd.R_drewN | apply Kd.R_drew)); exact HO177.out)) k_ hn_)))) (below_size (by repeat (first | (with_reducible first | exact HB.out | apply below_alloc | apply pw_below_drewN | apply below_drew1) | exact HB.out)))); have n3_ := Aside0.mk (below_step (by repeat (first | (with_reducible first | exact HB.out | apply below_alloc | apply pw_below_drewN | apply below_drew1) | exact HB.out)) hb); clear HO177; clear HO180; clear HB; have HO177 := n0_; have HO180 := n1_; have HO183 := n2_; have HB := n3_; clear n0_ n1_ n2_ n3_; (try clear hb); (try clear hb2); (try clear hk); (try clear hi); (try clear ho0)) | ((with_reducible refine gate_callee (f := 15) rfl ?_); refine goesL_ (some 12) rfl rfl Try.func15 (by kernel_rfl) rfl #[.int .i64 8] rfl (by (try simp only [List.map_toArray, List.map_cons, List.map_nil]); first | done | rfl | (simp only [List.length_drop, List.length_take]; rfl)) ?_; (with_reducible refine (bpoly_Generator.calls k 8 t185 t188 _ A2.out).mono ?_); rintro e w22 ⟨v186, rfl, ho0, hb⟩; refine ⟨_, rfl, ?_⟩; have n0_ := Aside0.mk (Kd.R_below (by (with_reducible repeat (first | apply Kd.R_alloc | apply Kd.R_drewN | apply Kd.R_drew)); exact HO177.out) hb); have n1_ := Aside0.mk (Kd.R_below (by (with_reducible repeat (first | apply Kd.R_alloc | apply Kd.R_drewN | apply Kd.R_drew)); exact HO180.out) hb); have n2_ := Aside0.mk (Kd.V_below (by (with_reducible repeat (first | apply Kd.V_alloc | apply Kd.V_drewN | apply Kd.V_drew)); exact HO183.out) hb); have n3_ := Aside0.mk (Kd.V_lower (Kd.V_mono (ok' := fun k_ => some k_ ≠ (.slice Ao19 y175.length co19 : Value).ownBlock ∧ some k_ ≠ (.slice Ao20 y178.length co20 : Value).ownBlock) ho0 (fun k_ hk_ => ⟨(Kd.fresh' (Kd.R_lt (by (with_reducible repeat (first | apply Kd.R_alloc | apply Kd.R_drewN | apply Kd.R_drew)); exact HO177.out)) k_ hk_), (Kd.fresh' (Kd.R_lt (by (with_reducible repeat (first | apply Kd.R_alloc | apply Kd.R_drewN | apply Kd.R_drew)); exact HO180.out)) k_ hk_)⟩)) (below_size (by repeat (first | (with_reducible first | exact HB.out | apply below_alloc | apply pw_below_drewN | apply below_drew1) | exact HB.out)))); have n4_ := Aside0.mk (below_step (by repeat (first | (with_reducible first | exact HB.out | apply below_alloc | apply pw_below_drewN | apply below_drew1) | exact HB.out)) hb); clear HO177; clear HO180; clear HO183; clear HB; have HO177 := n0_; have HO180 := n1_; have HO183 := n2_; have HO187 := n3_; have HB := n4_; clear n0_ n1_ n2_ n3_ n4_; (try clear hb); (try clear hb2); (try clear hk); (try clear hi); (try clear ho0)) | ((with_reducible refine gate_dst (N := 15) rfl ?_); (try (refine gate_guard (by rfl) ?_; dsimp only)); refine Kd.R_lit (Kd.int .u8) _ 5 ?hg (N := 15) ?hd (xs := ([0] : List Int)) (inner := [.int .u8 0]) (ok := fun _ => True) (okp := fun _ => True) ?hr ?hp (fun _ hk => hk) trivial (Below.refl _ _) (Nat.le_refl _) (by simp) ?_; (case hd => rfl); (case hg => rfl); (case hr => first | (go_simp; done) | (go_simp; rfl)); (case hp => exact (Reps.one (show Kd.M (Kd.int .u8) _ _ _ 0 [.int .u8 0] from rfl) (Reps.none _ _))); intro v190 w23 ho24 hb hg_ hnew_; clear hg_ hnew_; (first | rw [← Ny189.out] at ho24 | (simp only [Int.reduceToNat] at ho24; rw [← Ny189.out] at ho24)); have n0_ := Aside0.mk (Kd.R_elder' (by (with_reducible repeat (first | apply Kd.R_alloc | apply Kd.R_drewN | apply Kd.R_drew)); exact HO177.out) (Kd.R_base ho24) hb); have n1_ := Aside0.mk (Kd.R_elder' (by (with_reducible repeat (first | apply Kd.R_alloc | apply Kd.R_drewN | apply Kd.R_drew)); exact HO180.out) (Kd.R_base ho24) hb); have n2_ := Aside0.mk (Kd.V_elder' (by (with_reducible repeat (first | apply Kd.V_alloc | apply Kd.V_drewN | apply Kd.V_drew)); exact HO183.out) (Kd.R_base ho24) hb); have n3_ := Aside0.mk (Kd.V_elder' (by (with_reducible repeat (first | apply Kd.V_alloc | apply Kd.V_drewN | apply Kd.V_drew)); exact HO187.out) (Kd.R_base ho24) hb); have n4_ := Aside0.mk (Kd.R_lower (Kd.R_new' (Kd.R_new' ho24 (Kd.R_lt (by (with_reducible repeat (first | apply Kd.R_alloc | apply Kd.R_drewN | apply Kd.R_drew)); exact HO177.out))) (Kd.R_lt (by (with_reducible repeat (first | apply Kd.R_alloc | apply Kd.R_drewN | apply Kd.R_drew)); exact HO180.out))) (below_size (by repeat (first | (with_reducible first | exact HB.out | apply below_alloc | apply pw_below_drewN | apply below_drew1) | exact HB.out)))); have n5_ := Aside0.mk (below_step (by repeat (first | (with_reducible first | exact HB.out | apply below_alloc | apply pw_below_drewN | apply below_drew1) | exact HB.out)) hb); clear HO177; clear HO180; clear HO183; clear HO187; clear HB; have HO177 := n0_; have HO180 := n1_; have HO183 := n2_; have HO187 := n3_; have HO191 := n4_; have HB := n5_; clear n0_ n1_ n2_ n3_ n4_ n5_; clear hb ho24; obtain ⟨Ao25, co25, eo25⟩ := Kd.R_slice HO191.out; subst eo25) | ((with_reducible refine gate_callee (f := 23) rfl ?_); refine goesL_ (some 16) rfl rfl Try.func23 (by kernel_rfl) rfl #[.slice Ao25 y189.length co25] rfl (by (try simp only [List.map_toArray, List.map_cons, List.map_nil]); first | done | rfl | (simp only [List.length_drop, List.length_take]; rfl)) ?_; (with_reducible refine (bpoly_Degree.calls k _ _ y189 t192 _ ?side1 ?side2 A3.out).mono ?_); (case side1 => repeat (first | exact (Kd.R_reads' HO191.out).2.2 | (with_reducible refine Kd.C_alloc ?_ _) | (with_reducible refine Kd.C_drewN ?_ _) | (with_reducible refine Kd.C_drew ?_))); (case side2 => exact (Kd.R_reads' HO191.out).2.1); rintro e w26 ⟨rfl, hb⟩; refine ⟨_, rfl, ?_⟩; have n0_ := Aside0.mk (Kd.R_below (by (with_reducible repeat (first | apply Kd.R_alloc | apply Kd.R_drewN | apply Kd.R_drew)); exact HO177.out) hb); have n1_ := Aside0.mk (Kd.R_below (by (with_reducible repeat (first | apply Kd.R_alloc | apply Kd.R_drewN | apply Kd.R_drew)); exact HO180.out) hb); have n2_ := Aside0.mk (Kd.V_below (by (with_reducible repeat (first | apply Kd.V_alloc | apply Kd.V_drewN | apply Kd.V_drew)); exact HO183.out) hb); have n3_ := Aside0.mk (Kd.V_below (by (with_reducible repeat (first | apply Kd.V_alloc | apply Kd.V_drewN | apply Kd.V_drew)); exact HO187.out) hb); have n4_ := Aside0.mk (Kd.R_below (by (with_reducible repeat (first | apply Kd.R_alloc | apply Kd.R_drewN | apply Kd.R_drew)); exact HO191.out) hb); have n5_ := Aside0.mk (below_step (by repeat (first | (with_reducible first | exact HB.out | apply below_alloc | apply pw_below_drewN | apply below_drew1) | exact HB.out)) hb); clear HO177; clear HO180; clear HO183; clear HO187; clear HO191; clear HB; have HO177 := n0_; have HO180 := n1_; have HO183 := n2_; have HO187 := n3_; have HO191 := n4_; have HB := n5_; clear n0_ n1_ n2_ n3_ n4_ n5_; (try clear hb); (try clear hb2); (try clear hk); (try clear hi)) | ((with_reducible refine gate_dst (N := 19) rfl ?_); (try (refine gate_guard (by rfl) ?_; dsimp only)); refine Kd.R_lit (Kd.int .u8) _ 5 ?hg (N := 19) ?hd (xs := ([0, 1] : List Int)) (inner := [.int .u8 0, .int .u8 1]) (ok := fun _ => True) (okp := fun _ => True) ?hr ?hp (fun _ hk => hk) trivial (Below.refl _ _) (Nat.le_refl _) (by simp) ?_; (case hd => rfl); (case hg => rfl); (case hr => first | (go_simp; done) | (go_simp; rfl)); (case hp => exact (Reps.one (show Kd.M (Kd.int .u8) _ _ _ 0 [.int .u8 0] from rfl) (Reps.one (show Kd.M (Kd.int .u8) _ _ _ 1 [.int .u8 1] from rfl) (Reps.none _ _)))); intro v194 w27 ho28 hb hg_ hnew_; clear hg_ hnew_; (first | rw [← Ny193.out] at ho28 | (simp only [Int.reduceToNat] at ho28; rw [← Ny193.out] at ho28)); have n0_ := Aside0.mk (Kd.R_elder' (by (with_reducible repeat (first | apply Kd.R_alloc | apply Kd.R_drewN | apply Kd.R_drew)); exact HO177.out) (Kd.R_base ho28) hb); have n1_ := Aside0.mk (Kd.R_elder' (by (with_reducible repeat (first | apply Kd.R_alloc | apply Kd.R_drewN | apply Kd.R_drew)); exact HO180.out) (Kd.R_base ho28) hb); have n2_ := Aside0.mk (Kd.V_elder' (by (with_reducible repeat (first | apply Kd.V_alloc | apply Kd.V_drewN | apply Kd.V_drew)); exact HO183.out) (Kd.R_base ho28) hb); have n3_ := Aside0.mk (Kd.V_elder' (by (with_reducible repeat (first | apply Kd.V_alloc | apply Kd.V_drewN | apply Kd.V_drew)); exact HO187.out) (Kd.R_base ho28) hb); have n4_ := Aside0.mk (Kd.R_elder' (by (with_reducible repeat (first | apply Kd.R_alloc | apply Kd.R_drewN | apply Kd.R_drew)); exact HO191.out) (Kd.R_base ho28) hb); have n5_ := Aside0.mk (Kd.R_lower (Kd.R_new' (Kd.R_new' (Kd.R_new' ho28 (Kd.R_lt (by (with_reducible repeat (first | apply Kd.R_alloc | apply Kd.R_drewN | apply Kd.R_drew)); exact HO177.out))) (Kd.R_lt (by (with_reducible repeat (first | apply Kd.R_alloc | apply Kd.R_drewN | apply Kd.R_drew)); exact HO180.out))) (Kd.R_lt (by (with_reducible repeat (first | apply Kd.R_alloc | apply Kd.R_drewN | apply Kd.R_drew)); exact HO191.out))) (below_size (by repeat (first | (with_reducible first | exact HB.out | apply below_alloc | apply pw_below_drewN | apply below_drew1) | exact HB.out)))); have n6_ := Aside0.mk (below_step (by repeat (first | (with_reducible first | exact HB.out | apply below_alloc | apply pw_below_drewN | apply below_drew1) | exact HB.out)) hb); clear HO177; clear HO180; clear HO183; clear HO187; clear HO191; clear HB; have HO177 := n0_; have HO180 := n1_; have HO183 := n2_; have HO187 := n3_; have HO191 := n4_; have HO195 := n5_; have HB := n6_; clear n0_ n1_ n2_ n3_ n4_ n5_ n6_; clear hb ho28; obtain ⟨Ao29, co29, eo29⟩ := Kd.R_slice HO195.out; subst eo29) | (go_at_call 23; (with_reducible refine (bpoly_Degree.calls k _ _ y193 t196 _ ?side1 ?side2 A5.out).mono ?_); (case side1 => repeat (first | exact (Kd.R_reads' HO195.out).2.2 | (with_reducible refine Kd.C_alloc ?_ _) | (with_reducible refine Kd.C_drewN ?_ _) | (with_reducible refine Kd.C_drew ?_))); (case side2 => exact (Kd.R_reads' HO195.out).2.1); rintro e w30 ⟨rfl, hb⟩; have n0_ := Aside0.mk (Kd.R_below (by (with_reducible repeat (first | apply Kd.R_alloc | apply Kd.R_drewN | apply Kd.R_drew)); exact HO177.out) hb); have n1_ := Aside0.mk (Kd.R_below (by (with_reducible repeat (first | apply Kd.R_alloc | apply Kd.R_drewN | apply Kd.R_drew)); exact HO180.out) hb); have n2_ := Aside0.mk (Kd.V_below (by (with_reducible repeat (first | apply Kd.V_alloc | apply Kd.V_drewN | apply Kd.V_drew)); exact HO183.out) hb); have n3_ := Aside0.mk (Kd.V_below (by (with_reducible repeat (first | apply Kd.V_alloc | apply Kd.V_drewN | apply Kd.V_drew)); exact HO187.out) hb); have n4_ := Aside0.mk (Kd.R_below (by (with_reducible repeat (first | apply Kd.R_alloc | apply Kd.R_drewN | apply Kd.R_drew)); exact HO191.out) hb); have n5_ := Aside0.mk (Kd.R_below (by (with_reducible repeat (first | apply Kd.R_alloc | apply Kd.R_drewN | apply Kd.R_drew)); exact HO195.out) hb); have n6_ := Aside0.mk (below_step (by repeat (first | (with_reducible first | exact HB.out | apply below_alloc | apply pw_below_drewN | apply below_drew1) | exact HB.out)) hb); clear HO177; clear HO180; clear HO183; clear HO187; clear HO191; clear HO195; clear HB; have HO177 := n0_; have HO180 := n1_; have HO183 := n2_; have HO187 := n3_; have HO191 := n4_; have HO195 := n5_; have HB := n6_; clear n0_ n1_ n2_ n3_ n4_ n5_ n6_; (try clear hb); (try clear hb2); (try clear hk); (try clear hi)) | ((with_reducible refine gate_dst (N := 24) rfl ?_); (try (refine gate_guard (by rfl) ?_; dsimp only)); refine Kd.R_lit (Kd.int .u8) _ 5 ?hg (N := 24) ?hd (xs := ([3] : List Int)) (inner := [.int .u8 3]) (ok := fun _ => True) (okp := fun _ => True) ?hr ?hp (fun _ hk => hk) trivial (Below.refl _ _) (Nat.le_refl _) (by simp) ?_; (case hd => rfl); (case hg => rfl); (case hr => first | (go_simp; done) | (go_simp; rfl)); (case hp => exact (Reps.one (show Kd.M (Kd.int .u8) _ _ _ 3 [.int .u8 3] from rfl) (Reps.none _ _))); intro v198 w31 ho32 hb hg_ hnew_; clear hg_ hnew_; (first | rw [← Ny197.out] at ho32 | (simp only [Int.reduceToNat] at ho32; rw [← Ny197.out] at ho32)); have n0_ := Aside0.mk (Kd.R_elder' (by (with_reducible repeat (first | apply Kd.R_alloc | apply Kd.R_drewN | apply Kd.R_drew)); exact HO177.out) (Kd.R_base ho32) hb); have n1_ := Aside0.mk (Kd.R_elder' (by (with_reducible repeat (first | apply Kd.R_alloc | apply Kd.R_drewN | apply Kd.R_drew)); exact HO180.out) (Kd.R_base ho32) hb); have n2_ := Aside0.mk (Kd.V_elder' (by (with_reducible repeat (first | apply Kd.V_alloc | apply Kd.V_drewN | apply Kd.V_drew)); exact HO183.out) (Kd.R_base ho32) hb); have n3_ := Aside0.mk (Kd.V_elder' (by (with_reducible repeat (first | apply Kd.V_alloc | apply Kd.V_drewN | apply Kd.V_drew)); exact HO187.out) (Kd.R_base ho32) hb); have n4_ := Aside0.mk (Kd.R_elder' (by (with_reducible repeat (first | apply Kd.R_alloc | apply Kd.R_drewN | apply Kd.R_drew)); exact HO191.out) (Kd.R_base ho32) hb); have n5_ := Aside0.mk (Kd.R_elder' (by (with_reducible repeat (first | apply Kd.R_alloc | apply Kd.R_drewN | apply Kd.R_drew)); exact HO195.out) (Kd.R_base ho32) hb); have n6_ := Aside0.mk (Kd.R_lower (Kd.R_new' (Kd.R_new' (Kd.R_new' (Kd.R_new' ho32 (Kd.R_lt (by (with_reducible repeat (first | apply Kd.R_alloc | apply Kd.R_drewN | apply Kd.R_drew)); exact HO177.out))) (Kd.R_lt (by (with_reducible repeat (first | apply Kd.R_alloc | apply Kd.R_drewN | apply Kd.R_drew)); exact HO180.out))) (Kd.R_lt (by (with_reducible repeat (first | apply Kd.R_alloc | apply Kd.R_drewN | apply Kd.R_drew)); exact HO191.out))) (Kd.R_lt (by (with_reducible repeat (first | apply Kd.R_alloc | apply Kd.R_drewN | apply Kd.R_drew)); exact HO195.out))) (below_size (by repeat (first | (with_reducible first | exact HB.out | apply below_alloc | apply pw_below_drewN | apply below_drew1) | exact HB.out)))); have n7_ := Aside0.mk (below_step (by repeat (first | (with_reducible first | exact HB.out | apply below_alloc | apply pw_below_drewN | apply below_drew1) | exact HB.out)) hb); clear HO177; clear HO180; clear HO183; clear HO187; clear HO191; clear HO195; clear HB; have HO177 := n0_; have HO180 := n1_; have HO183 := n2_; have HO187 := n3_; have HO191 := n4_; have HO195 := n5_; have HO199 := n6_; have HB := n7_; clear n0_ n1_ n2_ n3_ n4_ n5_ n6_ n7_; clear hb ho32) | ((with_reducible refine gate_dst (N := 25) rfl ?_); (try (refine gate_guard (by rfl) ?_; dsimp only)); refine Kd.R_lit (Kd.int .u8) _ 5 ?hg (N := 25) ?hd (xs := ([3] : List Int)) (inner := [.int .u8 3]) (ok := fun _ => True) (okp := fun _ => True) ?hr ?hp (fun _ hk => hk) trivial (Below.refl _ _) (Nat.le_refl _) (by simp) ?_; (case hd => rfl); (case hg => rfl); (case hr => first | (go_simp; done) | (go_simp; rfl)); (case hp => exact (Reps.one (show Kd.M (Kd.int .u8) _ _ _ 3 [.int .u8 3] from rfl) (Reps.none _ _))); intro v201 w33 ho34 hb hg_ hnew_; clear hg_ hnew_; (first | rw [← Ny200.out] at ho34 | (simp only [Int.reduceToNat] at ho34; rw [← Ny200.out] at ho34)); have n0_ := Aside0.mk (Kd.R_elder' (by (with_reducible repeat (first | apply Kd.R_alloc | apply Kd.R_drewN | apply Kd.R_drew)); exact HO177.out) (Kd.R_base ho34) hb); have n1_ := Aside0.mk (Kd.R_elder' (by (with_reducible repeat (first | apply Kd.R_alloc | apply Kd.R_drewN | apply Kd.R_drew)); exact HO180.out) (Kd.R_base ho34) hb); have n2_ := Aside0.mk (Kd.V_elder' (by (with_reducible repeat (first | apply Kd.V_alloc | apply Kd.V_drewN | apply Kd.V_drew)); exact HO183.out) (Kd.R_base ho34) hb); have n3_ := Aside0.mk (Kd.V_elder' (by (with_reducible repeat (first | apply Kd.V_alloc | apply Kd.V_drewN | apply Kd.V_drew)); exact HO187.out) (Kd.R_base ho34) hb); have n4_ := Aside0.mk (Kd.R_elder' (by (with_reducible repeat (first | apply Kd.R_alloc | apply Kd.R_drewN | apply Kd.R_drew)); exact HO191.out) (Kd.R_base ho34) hb); have n5_ := Aside0.mk (Kd.R_elder' (by (with_reducible repeat (first | apply Kd.R_alloc | apply Kd.R_drewN | apply Kd.R_drew)); exact HO195.out) (Kd.R_base ho34) hb); have n6_ := Aside0.mk (Kd.R_elder' (by (with_reducible repeat (first | apply Kd.R_alloc | apply Kd.R_drewN | apply Kd.R_drew)); exact HO199.out) (Kd.R_base ho34) hb); have n7_ := Aside0.mk (Kd.R_lower (Kd.R_new' (Kd.R_new' (Kd.R_new' (Kd.R_new' (Kd.R_new' ho34 (Kd.R_lt (by (with_reducible repeat (first | apply Kd.R_alloc | apply Kd.R_drewN | apply Kd.R_drew)); exact HO177.out))) (Kd.R_lt (by (with_reducible repeat (first | apply Kd.R_alloc | apply Kd.R_drewN | apply Kd.R_drew)); exact HO180.out))) (Kd.R_lt (by (with_reducible repeat (first | apply Kd.R_alloc | apply Kd.R_drewN | apply Kd.R_drew)); exact HO191.out))) (Kd.R_lt (by (with_reducible repeat (first | apply Kd.R_alloc | apply Kd.R_drewN | apply Kd.R_drew)); exact HO195.out))) (Kd.R_lt (by (with_reducible repeat (first | apply Kd.R_alloc | apply Kd.R_drewN | apply Kd.R_drew)); exact HO199.out))) (below_size (by repeat (first | (with_reducible first | exact HB.out | apply below_alloc | apply pw_below_drewN | apply below_drew1) | exact HB.out)))); have n8_ := Aside0.mk (below_step (by repeat (first | (with_reducible first | exact HB.out | apply below_alloc | apply pw_below_drewN | apply below_drew1) | exact HB.out)) hb); clear HO177; clear HO180; clear HO183; clear HO187; clear HO191; clear HO195; clear HO199; clear HB; have HO177 := n0_; have HO180 := n1_; have HO183 := n2_; have HO187 := n3_; have HO191 := n4_; have HO195 := n5_; have HO199 := n6_; have HO202 := n7_; have HB := n8_; clear n0_ n1_ n2_ n3_ n4_ n5_ n6_ n7_ n8_; clear hb ho34; obtain ⟨Ao35, co35, eo35⟩ := Kd.R_slice HO199.out; subst eo35; obtain ⟨Ao36, co36, eo36⟩ := Kd.R_slice HO202.out; subst eo36) | (go_at_call 21; (with_reducible refine (bpoly_Mul.calls k _ _ y197 _ _ y200 t203 _ ?side1 ?side2 ?side3 ?side4 A7.out).mono ?_); (case side1 => repeat (first | exact (Kd.R_reads' HO199.out).2.2 | (with_reducible refine Kd.C_alloc ?_ _) | (with_reducible refine Kd.C_drewN ?_ _) | (with_reducible refine Kd.C_drew ?_))); (case side2 => exact (Kd.R_reads' HO199.out).2.1); (case side3 => repeat (first | exact (Kd.R_reads' HO202.out).2.2 | (with_reducible refine Kd.C_alloc ?_ _) | (with_reducible refine Kd.C_drewN ?_ _) | (with_reducible refine Kd.C_drew ?_))); (case side4 => exact (Kd.R_reads' HO202.out).2.1); rintro e w37 ⟨v204, rfl, ho0, hb⟩; have n0_ := Aside0.mk (Kd.R_below (by (with_reducible repeat (first | apply Kd.R_alloc | apply Kd.R_drewN | apply Kd.R_drew)); exact HO177.out) hb); have n1_ := Aside0.mk (Kd.R_below (by (with_reducible repeat (first | apply Kd.R_alloc | apply Kd.R_drewN | apply Kd.R_drew)); exact HO180.out) hb); have n2_ := Aside0.mk (Kd.V_below (by (with_reducible repeat (first | apply Kd.V_alloc | apply Kd.V_drewN | apply Kd.V_drew)); exact HO183.out) hb); have n3_ := Aside0.mk (Kd.V_below (by (with_reducible repeat (first | apply Kd.V_alloc | apply Kd.V_drewN | apply Kd.V_drew)); exact HO187.out) hb); have n4_ := Aside0.mk (Kd.R_below (by (with_reducible repeat (first | apply Kd.R_alloc | apply Kd.R_drewN | apply Kd.R_drew)); exact HO191.out) hb); have n5_ := Aside0.mk (Kd.R_below (by (with_reducible repeat (first | apply Kd.R_alloc | apply Kd.R_drewN | apply Kd.R_drew)); exact HO195.out) hb); have n6_ := Aside0.mk (Kd.R_below (by (with_reducible repeat (first | apply Kd.R_alloc | apply Kd.R_drewN | apply Kd.R_drew)); exact HO199.out) hb); have n7_ := Aside0.mk (Kd.R_below (by (with_reducible repeat (first | apply Kd.R_alloc | apply Kd.R_drewN | apply Kd.R_drew)); exact HO202.out) hb); have n8_ := Aside0.mk (Kd.V_lower (Kd.V_mono (ok' := fun k_ => some k_ ≠ (.slice Ao19 y175.length co19 : Value).ownBlock ∧ some k_ ≠ (.slice Ao20 y178.length co20 : Value).ownBlock ∧ some k_ ≠ (.slice Ao25 y189.length co25 : Value).ownBlock ∧ some k_ ≠ (.slice Ao29 y193.length co29 : Value).ownBlock ∧ some k_ ≠ (.slice Ao35 y197.length co35 : Value).ownBlock ∧ some k_ ≠ (.slice Ao36 y200.length co36 : Value).ownBlock) ho0 (fun k_ hk_ => ⟨(Kd.fresh' (Kd.R_lt (by (with_reducible repeat (first | apply Kd.R_alloc | apply Kd.R_drewN | apply Kd.R_drew)); exact HO177.out)) k_ hk_), (Kd.fresh' (Kd.R_lt (by (with_reducible repeat (first | apply Kd.R_alloc | apply Kd.R_drewN | apply Kd.R_drew)); exact HO180.out)) k_ hk_), (Kd.fresh' (Kd.R_lt (by (with_reducible repeat (first | apply Kd.R_alloc | apply Kd.R_drewN | apply Kd.R_drew)); exact HO191.out)) k_ hk_), (Kd.fresh' (Kd.R_lt (by (with_reducible repeat (first | apply Kd.R_alloc | apply Kd.R_drewN | apply Kd.R_drew)); exact HO195.out)) k_ hk_), (Kd.fresh' (Kd.R_lt (by (with_reducible repeat (first | apply Kd.R_alloc | apply Kd.R_drewN | apply Kd.R_drew)); exact HO199.out)) k_ hk_), (Kd.fresh' (Kd.R_lt (by (with_reducible repeat (first | apply Kd.R_alloc | apply Kd.R_drewN | apply Kd.R_drew)); exact HO202.out)) k_ hk_)⟩)) (below_size (by repeat (first | (with_reducible first | exact HB.out | apply below_alloc | apply pw_below_drewN | apply below_drew1) | exact HB.out)))); have n9_ := Aside0.mk (below_step (by repeat (first | (with_reducible first | exact HB.out | apply below_alloc | apply pw_below_drewN | apply below_drew1) | exact HB.out)) hb); clear HO177; clear HO180; clear HO183; clear HO187; clear HO191; clear HO195; clear HO199; clear HO202; clear HB; have HO177 := n0_; have HO180 := n1_; have HO183 := n2_; have HO187 := n3_; have HO191 := n4_; have HO195 := n5_; have HO199 := n6_; have HO202 := n7_; have HO205 := n8_; have HB := n9_; clear n0_ n1_ n2_ n3_ n4_ n5_ n6_ n7_ n8_ n9_; (try clear hb); (try clear hb2); (try clear hk); (try clear hi); (try clear ho0); have hcv38 := casematelaw04_awake.strV Try.underlying22 Try.underlying5 Try.underlying9 HO205.out; obtain ⟨Ao39, co39, eo39⟩ := Kd.V_slice HO183.out; subst eo39) | (go_at_call 9; (with_reducible refine (bpoly_Minimal.calls k 1 t206 _ A11.out).mono ?_); rintro e w40 ⟨v207, rfl, ho0, hb⟩; have n0_ := Aside0.mk (Kd.R_elder' (by (with_reducible repeat (first | apply Kd.R_alloc | apply Kd.R_drewN | apply Kd.R_drew)); exact HO177.out) (Kd.R_base ho0) hb); have n1_ := Aside0.mk (Kd.R_elder' (by (with_reducible repeat (first | apply Kd.R_alloc | apply Kd.R_drewN | apply Kd.R_drew)); exact HO180.out) (Kd.R_base ho0) hb); have n2_ := Aside0.mk (Kd.V_elder' (by (with_reducible repeat (first | apply Kd.V_alloc | apply Kd.V_drewN | apply Kd.V_drew)); exact HO183.out) (Kd.R_base ho0) hb); have n3_ := Aside0.mk (Kd.V_elder' (by (with_reducible repeat (first | apply Kd.V_alloc | apply Kd.V_drewN | apply Kd.V_drew)); exact HO187.out) (Kd.R_base ho0) hb); have n4_ := Aside0.mk (Kd.R_elder' (by (with_reducible repeat (first | apply Kd.R_alloc | apply Kd.R_drewN | apply Kd.R_drew)); exact HO191.out) (Kd.R_base ho0) hb); have n5_ := Aside0.mk (Kd.R_elder' (by (with_reducible repeat (first | apply Kd.R_alloc | apply Kd.R_drewN | apply Kd.R_drew)); exact HO195.out) (Kd.R_base ho0) hb); have n6_ := Aside0.mk (Kd.R_elder' (by (with_reducible repeat (first | apply Kd.R_alloc | apply Kd.R_drewN | apply Kd.R_drew)); exact HO199.out) (Kd.R_base ho0) hb); have n7_ := Aside0.mk (Kd.R_elder' (by (with_reducible repeat (first | apply Kd.R_alloc | apply Kd.R_drewN | apply Kd.R_drew)); exact HO202.out) (Kd.R_base ho0) hb); have n8_ := Aside0.mk (Kd.V_elder' (by (with_reducible repeat (first | apply Kd.V_alloc | apply Kd.V_drewN | apply Kd.V_drew)); exact HO205.out) (Kd.R_base ho0) hb); have n9_ := Aside0.mk (Kd.R_lower (Kd.R_new' (Kd.R_new' (Kd.R_new' (Kd.R_new' (Kd.R_new' (Kd.R_new' ho0 (Kd.R_lt (by (with_reducible repeat (first | apply Kd.R_alloc | apply Kd.R_drewN | apply Kd.R_drew)); exact HO177.out))) (Kd.R_lt (by (with_reducible repeat (first | apply Kd.R_alloc | apply Kd.R_drewN | apply Kd.R_drew)); exact HO180.out))) (Kd.R_lt (by (with_reducible repeat (first | apply Kd.R_alloc | apply Kd.R_drewN | apply Kd.R_drew)); exact HO191.out))) (Kd.R_lt (by (with_reducible repeat (first | apply Kd.R_alloc | apply Kd.R_drewN | apply Kd.R_drew)); exact HO195.out))) (Kd.R_lt (by (with_reducible repeat (first | apply Kd.R_alloc | apply Kd.R_drewN | apply Kd.R_drew)); exact HO199.out))) (Kd.R_lt (by (with_reducible repeat (first | apply Kd.R_alloc | apply Kd.R_drewN | apply Kd.R_drew)); exact HO202.out))) (below_size (by repeat (first | (with_reducible first | exact HB.out | apply below_alloc | apply pw_below_drewN | apply below_drew1) | exact HB.out)))); have n10_ := Aside0.mk (below_step (by repeat (first | (with_reducible first | exact HB.out | apply below_alloc | apply pw_below_drewN | apply below_drew1) | exact HB.out)) hb); clear HO177; clear HO180; clear HO183; clear HO187; clear HO191; clear HO195; clear HO199; clear HO202; clear HO205; clear HB; have HO177 := n0_; have HO180 := n1_; have HO183 := n2_; have HO187 := n3_; have HO191 := n4_; have HO195 := n5_; have HO199 := n6_; have HO202 := n7_; have HO205 := n8_; have HO208 := n9_; have HB := n10_; clear n0_ n1_ n2_ n3_ n4_ n5_ n6_ n7_ n8_ n9_ n10_; (try clear hb); (try clear hb2); (try clear hk); (try clear hi); (try clear ho0); have hcv41 := own_string (P := Try.prog) Try.underlying22 Try.underlying5 Try.underlying9 (Kd.own_of_R HO208.out); obtain ⟨Ao42, co42, eo42⟩ := Kd.V_slice HO187.out; subst eo42) | (go_at_call 23; (with_reducible refine (bpoly_Degree.calls k _ _ t185 t209 _ ?side1 ?side2 A14.out).mono ?_); (case side1 => repeat (first | exact (Kd.V_reads' HO187.out).2.2 | (with_reducible refine Kd.C_alloc ?_ _) | (with_reducible refine Kd.C_drewN ?_ _) | (with_reducible refine Kd.C_drew ?_))); (case side2 => exact (Kd.V_reads' HO187.out).2.1); rintro e w43 ⟨rfl, hb⟩; have n0_ := Aside0.mk (Kd.R_below (by (with_reducible repeat (first | apply Kd.R_alloc | apply Kd.R_drewN | apply Kd.R_drew)); exact HO177.out) hb); have n1_ := Aside0.mk (Kd.R_below (by (with_reducible repeat (first | apply Kd.R_alloc | apply Kd.R_drewN | apply Kd.R_drew)); exact HO180.out) hb); have n2_ := Aside0.mk (Kd.V_below (by (with_reducible repeat (first | apply Kd.V_alloc | apply Kd.V_drewN | apply Kd.V_drew)); exact HO183.out) hb); have n3_ := Aside0.mk (Kd.V_below (by (with_reducible repeat (first | apply Kd.V_alloc | apply Kd.V_drewN | apply Kd.V_drew)); exact HO187.out) hb); have n4_ := Aside0.mk (Kd.R_below (by (with_reducible repeat (first | apply Kd.R_alloc | apply Kd.R_drewN | apply Kd.R_drew)); exact HO191.out) hb); have n5_ := Aside0.mk (Kd.R_below (by (with_reducible repeat (first | apply Kd.R_alloc | apply Kd.R_drewN | apply Kd.R_drew)); exact HO195.out) hb); have n6_ := Aside0.mk (Kd.R_below (by (with_reducible repeat (first | apply Kd.R_alloc | apply Kd.R_drewN | apply Kd.R_drew)); exact HO199.out) hb); have n7_ := Aside0.mk (Kd.R_below (by (with_reducible repeat (first | apply Kd.R_alloc | apply Kd.R_drewN | apply Kd.R_drew)); exact HO202.out) hb); have n8_ := Aside0.mk (Kd.V_below (by (with_reducible repeat (first | apply Kd.V_alloc | apply Kd.V_drewN | apply Kd.V_drew)); exact HO205.out) hb); have n9_ := Aside0.mk (Kd.R_below (by (with_reducible repeat (first | apply Kd.R_alloc | apply Kd.R_drewN | apply Kd.R_drew)); exact HO208.out) hb); have n10_ := Aside0.mk (below_step (by repeat (first | (with_reducible first | exact HB.out | apply below_alloc | apply pw_below_drewN | apply below_drew1) | exact HB.out)) hb); clear HO177; clear HO180; clear HO183; clear HO187; clear HO191; clear HO195; clear HO199; clear HO202; clear HO205; clear HO208; clear HB; have HO177 := n0_; have HO180 := n1_; have HO183 := n2_; have HO187 := n3_; have HO191 := n4_; have HO195 := n5_; have HO199 := n6_; have HO202 := n7_; have HO205 := n8_; have HO208 := n9_; have HB := n10_; clear n0_ n1_ n2_ n3_ n4_ n5_ n6_ n7_ n8_ n9_ n10_; (try clear hb); (try clear hb2); (try clear hk); (try clear hi)))
                go_ret
                exact ⟨by first | rfl | (simp [errW_none, errW_some] <;> rfl) | (simp [*, errW_none, errW_some] <;> rfl), by repeat (first | (with_reducible first | exact HB.out | apply below_alloc | apply pw_below_drewN | apply below_drew1) | exact HB.out)⟩
              · rw [if_neg c13] at H
                (try rw [hr_.out] at H)
                exact absurd H (by simp)
            · rw [if_neg c12] at H
              (try rw [hr_.out] at H)
              exact absurd H (by simp)
          · rw [if_neg c10] at H
            (try rw [hr_.out] at H)
            exact absurd H (by simp)
        · rw [if_neg c9] at H
          (try rw [hr_.out] at H)
          exact absurd H (by simp)
      · rw [if_neg c8] at H
        (try rw [hr_.out] at H)
        exact absurd H (by simp)
    · rw [if_neg c6] at H
      (try rw [hr_.out] at H)
      exact absurd H (by simp)
  · rw [if_neg c4] at H
    (try rw [hr_.out] at H)
    exact absurd H (by simp)
def casemateref04_Degree.l0 : Nat → List Int → Int → Option (Int)
  | 0, _, _ => none
  | k + 1, x0, x3 => if x3 ≥ 0 then (if 0 ≤ x3 then (if x3 < (x0.length : Int) then (if (rd x0 x3) = 0 then (casemateref04_Degree.l0 k x0 (wrap64 (x3 - 1))) else (some x3)) else (none)) else (none)) else (some x3)
def casemateref04_Degree.f (k : Nat) (l0 : List Int) : Option (Int) := casemateref04_Degree.l0 k l0 (wrap64 ((l0.length : Int) - 1))
def casemateref01_At.l0 : Nat → Int → Int → Int → Option (Int)
  | 0, _, _, _ => none
  | k + 1, x1, x5, x6 => if x6 < (Int.tmod x1 8) then (casemateref01_At.l0 k x1 (wrap64 (Int.tdiv x5 2)) (wrap64 (x6 + 1))) else (some (Int.tmod x5 2))
def casemateref01_At.f (k : Nat) (l0 : List Int) (a1 : Int) : Option (Int) := if 0 ≤ (wrap64 (Int.tdiv a1 8)) then (if (wrap64 (Int.tdiv a1 8)) < (l0.length : Int) then (casemateref01_At.l0 k a1 (wrap64 (rd l0 (wrap64 (Int.tdiv a1 8)))) 0) else (none)) else (none)
def casemateref01_All.l0 : Nat → List Int → List Int → Int → Option (List Int)
  | 0, _, _, _ => none
  | k + 1, x0, x3, x4 => if x4 < (wrap64 (8 * (x0.length : Int))) then ((casemateref01_At.f k x0 x4).bind fun t212 => (if x3.length < 17592186044416 then (casemateref01_All.l0 k x0 (x3 ++ [t212]) (wrap64 (x4 + 1))) else (none))) else (some x3)
def casemateref01_All.f (k : Nat) (l0 : List Int) : Option (List Int) := casemateref01_All.l0 k l0 ([] : List Int) 0
def casemateref04_Value.l0 : Nat → List Int → Int → Int → Int → Option (Int)
  | 0, _, _, _, _ => none
  | k + 1, x0, x1, x5, x6 => if x6 ≥ 0 then ((casemateref02_Mul.f k x5 x1).bind fun t216 => (if 0 ≤ x6 then (if x6 < (x0.length : Int) then (if (rd x0 x6) = 1 then ((casemateref02_Sum.f k t216 1).bind fun t218 => (casemateref04_Value.l0 k x0 x1 t218 (wrap64 (x6 - 1)))) else (casemateref04_Value.l0 k x0 x1 t216 (wrap64 (x6 - 1)))) else (none)) else (none))) else (some x5)
def casemateref04_Value.f (k : Nat) (l0 : List Int) (a1 : Int) : Option (Int) := casemateref04_Value.l0 k l0 a1 0 (wrap64 ((l0.length : Int) - 1))
def bpoly_Value.l0 : Nat → List Int → Int → Int → Int → Option (Int × Int)
  | 0, _, _, _, _ => none
  | k + 1, x0, x1, x6, x8 => if x8 ≥ 0 then ((gf_Mul.f k x6 x1).bind fun bt282 => ((bpoly_one.f x0 x8).bind fun t284 => (if t284 = true then (bpoly_Value.l0 k x0 x1 (Go.bits .xor .i64 bt282.1 1) (wrap64 (x8 - 1))) else (bpoly_Value.l0 k x0 x1 bt282.1 (wrap64 (x8 - 1)))))) else (some (x6, 0))
def bpoly_Value.f (k : Nat) (l0 : List Int) (a1 : Int) : Option (Int × Int) := (gf_Mul.f k a1 0).bind fun bt280 => (if bt280.2 = 0 then (bpoly_Value.l0 k l0 a1 bt280.1 (wrap64 ((wrap64 (8 * (l0.length : Int))) - 1))) else (some (0, bt280.2)))
set_option maxHeartbeats 8000000 in
set_option maxRecDepth 100000 in
theorem bpoly_Value.calls (k : Nat) (A0 : Option Addr) (c0 : Nat) (l0 : List Int) (a1 : Int) (r1 : Int) (r2 : Int) (w : World) (hr0 : Kd.C (Kd.int .u8) w A0 l0.length l0) (hc0 : l0.length ≤ c0) (h : bpoly_Value.f k l0 a1 = some (r1, r2)) :
    Calls Try.prog 18 #[.slice A0 l0.length c0, .int .i64 a1] w fun e w' => e = .returned (.tuple #[.int .i64 r1, .int .i64 r2]) ∧ Drawn0 w w' := by
  have HR0 := Aside0.mk hr0
  have HC0 := Aside0.mk hc0
  clear hr0 hc0
  have H : ((gf_Mul.f k a1 0).bind fun bt280 => (if bt280.2 = 0 then (bpoly_Value.l0 k l0 a1 bt280.1 (wrap64 ((wrap64 (8 * (l0.length : Int))) - 1))) else (some (0, bt280.2)))) = some (r1, r2) := h
  clear h
  replace H := Option.bind_eq_some_iff.mp H
  obtain ⟨⟨t280, t281⟩, A30, H⟩ := H
  replace H : (if t281 = 0 then (bpoly_Value.l0 k l0 a1 t280 (wrap64 ((wrap64 (8 * (l0.length : Int))) - 1))) else (some (0, t281))) = some (r1, r2) := H
  have A3 := Aside0.mk A30
  clear A30
  by_cases c4 : t281 = 0
  · rw [if_pos c4] at H
    have c4b0 : (t281 == 0) = true := beq_iff_eq.mpr c4
    have c4b1 : (t281 != 0) = false := bne_eq_false_iff_eq.mpr c4
    clear c4
    have H' := Aside0.mk H
    clear H
    go_enter Try.func18, Try.ntmps18
    go_wp2_with (first | ((with_reducible refine gate_callee (f := 35) rfl ?_); refine goesL_ (some 11) rfl rfl Try.func35 (by kernel_rfl) rfl #[.int .i64 a1, .int .i64 0] rfl (by (try simp only [List.map_toArray, List.map_cons, List.map_nil]); first | done | rfl | (simp only [List.length_drop, List.length_take]; rfl)) ?_; (with_reducible refine (gf_Mul.calls k a1 0 t280 t281 _ A3.out).mono ?_); rintro e w' ⟨rfl, ⟨nd, rfl⟩⟩; refine ⟨_, rfl, ?_⟩))
    go_loopg [6, 8] k (fun kq v6 v8 w' => ∃ (x6_1 : Int) (x8_1 : Int), v6 = .int .i64 x6_1 ∧ v8 = .int .i64 x8_1 ∧ Aside0 (bpoly_Value.l0 kq l0 a1 x6_1 x8_1 = some (r1, r2)) ∧ Aside0 (kq ≤ k) ∧ Drawn0 w w')
    case atStart => exact ⟨(t280), (wrap64 ((wrap64 (8 * (l0.length : Int))) - 1)), (by first | rfl | (simp; done) | (simp [*]; done)), (by first | rfl | (simp; done) | (simp [*]; done)), H', ⟨Nat.le_refl _⟩, by repeat (first | exact Drawn0.refl _ | apply Drawn0.step)⟩
    case round =>
      clear H'
      try clear c1
      try clear p2
      try clear c3
      try clear c4
      try clear c4b0
      try clear c4b1
      obtain ⟨x6_1, x8_1, rfl, rfl, HA, HK1, ⟨m1, rfl⟩⟩ := hrel
      cases gk with
      | zero => exact absurd HA.out (by simp [bpoly_Value.l0])
      | succ k1 =>
        have H := HA.out
        clear HA
        simp only [bpoly_Value.l0] at H
        by_cases c5 : x8_1 ≥ 0
        · rw [if_pos c5] at H
          have c5b0 : decide (0 ≤ x8_1) = true := decide_eq_true c5
          clear c5
          replace H := Option.bind_eq_some_iff.mp H
          obtain ⟨⟨t282, t283⟩, A60, H⟩ := H
          replace H : ((bpoly_one.f l0 x8_1).bind fun t284 => (if t284 = true then (bpoly_Value.l0 k1 l0 a1 (Go.bits .xor .i64 t282 1) (wrap64 (x8_1 - 1))) else (bpoly_Value.l0 k1 l0 a1 t282 (wrap64 (x8_1 - 1))))) = some (r1, r2) := H
          have A6 := Aside0.mk A60
          clear A60
          replace H := Option.bind_eq_some_iff.mp H
          obtain ⟨t284, A70, H⟩ := H
          replace H : (if t284 = true then (bpoly_Value.l0 k1 l0 a1 (Go.bits .xor .i64 t282 1) (wrap64 (x8_1 - 1))) else (bpoly_Value.l0 k1 l0 a1 t282 (wrap64 (x8_1 - 1)))) = some (r1, r2) := H
          have A7 := Aside0.mk A70
          clear A70
          by_cases c8 : t284 = true
          · subst c8
            have H1 : (bpoly_Value.l0 k1 l0 a1 (Go.bits .xor .i64 t282 1) (wrap64 (x8_1 - 1))) = some (r1, r2) := by rw [if_pos rfl] at H; exact H
            clear H
            have H := H1
            clear H1
            have H' := Aside0.mk H
            clear H
            go_wp2_with (first | ((with_reducible refine gate_callee (f := 35) rfl ?_); refine goesL_ (some 28) rfl rfl Try.func35 (by kernel_rfl) rfl #[.int .i64 x6_1, .int .i64 a1] rfl (by (try simp only [List.map_toArray, List.map_cons, List.map_nil]); first | done | rfl | (simp only [List.length_drop, List.length_take]; rfl)) ?_; (with_reducible refine (gf_Mul.calls k1 x6_1 a1 t282 t283 _ A6.out).mono ?_); rintro e w' ⟨rfl, ⟨nd, rfl⟩⟩; refine ⟨_, rfl, ?_⟩) | ((with_reducible refine gate_callee (f := 36) rfl ?_); refine goesL_ (some 33) rfl rfl Try.func36 (by kernel_rfl) rfl #[.slice A0 l0.length c0, .int .i64 x8_1] rfl (by (try simp only [List.map_toArray, List.map_cons, List.map_nil]); first | done | rfl | (simp only [List.length_drop, List.length_take]; rfl)) ?_; (with_reducible refine (bpoly_one.calls _ _ l0 x8_1 true _ ?side1 ?side2 A7.out).mono ?_); (case side1 => repeat (first | exact HR0.out | (with_reducible refine Kd.C_alloc ?_ _) | (with_reducible refine Kd.C_drewN ?_ _) | (with_reducible refine Kd.C_drew ?_))); (case side2 => exact HC0.out); rintro e w' ⟨rfl, ⟨nd, rfl⟩⟩; refine ⟨_, rfl, ?_⟩))
            go_roundg k1
            case measure => have := HK1.out; omega
            case rel => exact ⟨(Go.bits .xor .i64 t282 1), (wrap64 (x8_1 - 1)), (by first | rfl | (simp; done) | (simp [*]; done)), (by first | rfl | (simp; done) | (simp [*]; done)), H', ⟨by have := HK1.out; omega⟩, by repeat (first | exact Drawn0.refl _ | apply Drawn0.step)⟩
          · replace c8 := Bool.eq_false_iff.mpr c8
            subst c8
            have H1 : (bpoly_Value.l0 k1 l0 a1 t282 (wrap64 (x8_1 - 1))) = some (r1, r2) := by rw [if_neg (show ¬ (false = true) by decide)] at H; exact H
            clear H
            have H := H1
            clear H1
            have H' := Aside0.mk H
            clear H
            go_wp2_with (first | ((with_reducible refine gate_callee (f := 35) rfl ?_); refine goesL_ (some 28) rfl rfl Try.func35 (by kernel_rfl) rfl #[.int .i64 x6_1, .int .i64 a1] rfl (by (try simp only [List.map_toArray, List.map_cons, List.map_nil]); first | done | rfl | (simp only [List.length_drop, List.length_take]; rfl)) ?_; (with_reducible refine (gf_Mul.calls k1 x6_1 a1 t282 t283 _ A6.out).mono ?_); rintro e w' ⟨rfl, ⟨nd, rfl⟩⟩; refine ⟨_, rfl, ?_⟩) | ((with_reducible refine gate_callee (f := 36) rfl ?_); refine goesL_ (some 33) rfl rfl Try.func36 (by kernel_rfl) rfl #[.slice A0 l0.length c0, .int .i64 x8_1] rfl (by (try simp only [List.map_toArray, List.map_cons, List.map_nil]); first | done | rfl | (simp only [List.length_drop, List.length_take]; rfl)) ?_; (with_reducible refine (bpoly_one.calls _ _ l0 x8_1 false _ ?side1 ?side2 A7.out).mono ?_); (case side1 => repeat (first | exact HR0.out | (with_reducible refine Kd.C_alloc ?_ _) | (with_reducible refine Kd.C_drewN ?_ _) | (with_reducible refine Kd.C_drew ?_))); (case side2 => exact HC0.out); rintro e w' ⟨rfl, ⟨nd, rfl⟩⟩; refine ⟨_, rfl, ?_⟩))
            go_roundg k1
            case measure => have := HK1.out; omega
            case rel => exact ⟨(t282), (wrap64 (x8_1 - 1)), (by first | rfl | (simp; done) | (simp [*]; done)), (by first | rfl | (simp; done) | (simp [*]; done)), H', ⟨by have := HK1.out; omega⟩, by repeat (first | exact Drawn0.refl _ | apply Drawn0.step)⟩
        · rw [if_neg c5] at H
          have c5b0 : decide (0 ≤ x8_1) = false := decide_eq_false c5
          clear c5
          simp only [Option.some.injEq, Prod.mk.injEq] at H
          obtain ⟨rfl, rfl⟩ := H
          go_wp2
          go_ret2
          exact ⟨by first | rfl | (simp; done) | (simp [*]; done), by repeat (first | exact Drawn0.refl _ | apply Drawn0.step)⟩
  · rw [if_neg c4] at H
    have c4b0 : (t281 == 0) = false := beq_eq_false_iff_ne.mpr c4
    have c4b1 : (t281 != 0) = true := bne_iff_ne.mpr c4
    simp only [Option.some.injEq, Prod.mk.injEq] at H
    obtain ⟨rfl, rfl⟩ := H
    go_enter Try.func18, Try.ntmps18
    go_wp2_with (first | ((with_reducible refine gate_callee (f := 35) rfl ?_); refine goesL_ (some 11) rfl rfl Try.func35 (by kernel_rfl) rfl #[.int .i64 a1, .int .i64 0] rfl (by (try simp only [List.map_toArray, List.map_cons, List.map_nil]); first | done | rfl | (simp only [List.length_drop, List.length_take]; rfl)) ?_; (with_reducible refine (gf_Mul.calls k a1 0 t280 t281 _ A3.out).mono ?_); rintro e w' ⟨rfl, ⟨nd, rfl⟩⟩; refine ⟨_, rfl, ?_⟩))
    go_ret2
    exact ⟨by first | rfl | (simp; done) | (simp [*]; done), by repeat (first | exact Drawn0.refl _ | apply Drawn0.step)⟩
def casematelaw04_small.f (l0 : List Int) (l1 : List Int) : Option (Bool) := if (l0.length : Int) ≤ 60 then (some (decide ((l1.length : Int) ≤ 60))) else (some false)
set_option maxHeartbeats 8000000 in
set_option maxRecDepth 100000 in
theorem casematelaw04_small.calls (A0 : Option Addr) (c0 : Nat) (l0 : List Int) (A1 : Option Addr) (c1 : Nat) (l1 : List Int) (r : Bool) (w : World) (hr0 : Kd.C (Kd.int .u8) w A0 l0.length l0) (hc0 : l0.length ≤ c0) (hr1 : Kd.C (Kd.int .u8) w A1 l1.length l1) (hc1 : l1.length ≤ c1) (h : casematelaw04_small.f l0 l1 = some r) :
    Calls Try.prog 19 #[.slice A0 l0.length c0, .slice A1 l1.length c1] w fun e w' => e = .returned (.bool r) ∧ Drawn0 w w' := by
  have HR0 := Aside0.mk hr0
  have HC0 := Aside0.mk hc0
  clear hr0 hc0
  have HR1 := Aside0.mk hr1
  have HC1 := Aside0.mk hc1
  clear hr1 hc1
  have H : (if (l0.length : Int) ≤ 60 then (some (decide ((l1.length : Int) ≤ 60))) else (some false)) = some r := h
  clear h
  by_cases c3 : (l0.length : Int) ≤ 60
  · rw [if_pos c3] at H
    have c3b0 : decide ((l0.length : Int) ≤ 60) = true := decide_eq_true c3
    have c3b1 : decide (l0.length ≤ 60) = true := decide_eq_true (by omega)
    clear c3
    obtain rfl := Option.some.inj H
    go_enter Try.func19, Try.ntmps19
    go_wp2
    go_ret
    exact ⟨by first | rfl | (simp; done) | (simp [*]; done), by repeat (first | exact Drawn0.refl _ | apply Drawn0.step)⟩
  · rw [if_neg c3] at H
    have c3b0 : decide ((l0.length : Int) ≤ 60) = false := decide_eq_false c3
    have c3b1 : decide (l0.length ≤ 60) = false := decide_eq_false (by omega)
    clear c3
    obtain rfl := Option.some.inj H
    go_enter Try.func19, Try.ntmps19
    go_wp2
    go_ret
    exact ⟨by first | rfl | (simp; done) | (simp [*]; done), by repeat (first | exact Drawn0.refl _ | apply Drawn0.step)⟩
def bpoly_Add.f (k : Nat) (l0 : List Int) (l1 : List Int) : Option (List Int) := if 0 ≤ (mx (l0.length : Int) (l1.length : Int)) then (if (mx (l0.length : Int) (l1.length : Int) : Int).toNat ≤ 281474976710656 then ((bpoly_add.f k (List.replicate (mx (l0.length : Int) (l1.length : Int) : Int).toNat 0) l0 0).bind fun t295 => ((bpoly_add.f k t295 l1 0).bind fun t296 => ((bpoly_norm.f k t296).bind fun t297 => (some t297)))) else (none)) else (none)
set_option maxHeartbeats 8000000 in
set_option maxRecDepth 100000 in
theorem bpoly_Add.calls (k : Nat) (A0 : Option Addr) (c0 : Nat) (l0 : List Int) (A1 : Option Addr) (c1 : Nat) (l1 : List Int) (r : List Int) (w : World) (hr0 : Kd.C (Kd.int .u8) w A0 l0.length l0) (hc0 : l0.length ≤ c0) (hr1 : Kd.C (Kd.int .u8) w A1 l1.length l1) (hc1 : l1.length ≤ c1) (h : bpoly_Add.f k l0 l1 = some r) :
    Calls Try.prog 20 #[.slice A0 l0.length c0, .slice A1 l1.length c1] w fun e w' => ∃ v0_ : Value, e = .returned (v0_) ∧ Kd.V (Kd.int .u8) 5 w' w.heap.size (fun k_ => (w.heap.size ≤ k_)) v0_ r ∧ Below w.heap.size w w' := by
  have HR0 := Aside0.mk hr0
  have HC0 := Aside0.mk hc0
  clear hr0 hc0
  have HR1 := Aside0.mk hr1
  have HC1 := Aside0.mk hc1
  clear hr1 hc1
  have HB := Aside0.mk (Below.refl w.heap.size w)
  have H : (if 0 ≤ (mx (l0.length : Int) (l1.length : Int)) then (if (mx (l0.length : Int) (l1.length : Int) : Int).toNat ≤ 281474976710656 then ((bpoly_add.f k (List.replicate (mx (l0.length : Int) (l1.length : Int) : Int).toNat 0) l0 0).bind fun t295 => ((bpoly_add.f k t295 l1 0).bind fun t296 => ((bpoly_norm.f k t296).bind fun t297 => (some t297)))) else (none)) else (none)) = some r := h
  clear h
  obtain ⟨ji3, hji3⟩ : ∃ j_ : Int, (mx (l0.length : Int) (l1.length : Int)) = j_ := ⟨_, rfl⟩
  replace H : (if 0 ≤ (ji3) then (if (ji3 : Int).toNat ≤ 281474976710656 then ((bpoly_add.f k (List.replicate (ji3 : Int).toNat 0) l0 0).bind fun t295 => ((bpoly_add.f k t295 l1 0).bind fun t296 => ((bpoly_norm.f k t296).bind fun t297 => (some t297)))) else (none)) else (none)) = some r := by first | (rw [hji3] at H; exact H) | (simp only [hji3] at H ⊢; exact H)
  (try (have hji3l : 0 ≤ ji3 := by (rw [← hji3]; unfold mx; (repeat' split) <;> omega)))
  (try (have hji3m : 0 ≤ ji3 := by omega))
  have hji3_ : (if (l0.length : Int) < (l1.length : Int) then (l1.length : Int) else (l0.length : Int)) = ji3 := hji3
  by_cases c4 : 0 ≤ (ji3)
  · rw [if_pos c4] at H
    have c4b0 := eq_true c4
    have c4b1 : decide (0 ≤ (ji3)) = true := decide_eq_true c4
    clear c4
    by_cases c5 : (ji3 : Int).toNat ≤ 281474976710656
    · rw [if_pos c5] at H
      have c5b0 := eq_true c5
      have c5b1 : decide ((ji3 : Int).toNat ≤ 281474976710656) = true := decide_eq_true c5
      clear c5
      obtain ⟨y292, hy292⟩ : ∃ y_ : List Int, y_ = (List.replicate (ji3 : Int).toNat 0) := ⟨_, rfl⟩
      replace H : ((bpoly_add.f k y292 l0 0).bind fun t295 => ((bpoly_add.f k t295 l1 0).bind fun t296 => ((bpoly_norm.f k t296).bind fun t297 => (some t297)))) = some r := by first | (rw [hy292]; with_reducible exact H) | (have H2_ := (Option.bind_some _ _).symm.trans H; rw [hy292]; with_reducible exact H2_) | (have H2_ := (Option.bind_some _ _).symm.trans H; with_reducible exact H2_) | with_reducible exact H | (rw [hy292]; exact H) | exact H
      have Ny292 := Aside0.mk hy292
      clear hy292
      replace H := Option.bind_eq_some_iff.mp H
      obtain ⟨t295, A60, H⟩ := H
      replace H : ((bpoly_add.f k t295 l1 0).bind fun t296 => ((bpoly_norm.f k t296).bind fun t297 => (some t297))) = some r := H
      have A6 := Aside0.mk A60
      clear A60
      replace H := Option.bind_eq_some_iff.mp H
      obtain ⟨t296, A70, H⟩ := H
      replace H : ((bpoly_norm.f k t296).bind fun t297 => (some t297)) = some r := H
      have A7 := Aside0.mk A70
      clear A70
      replace H := Option.bind_eq_some_iff.mp H
      obtain ⟨t297, A80, H⟩ := H
      replace H : (some t297) = some r := H
      have A8 := Aside0.mk A80
      clear A80
      obtain rfl := Option.some.inj H
      rcases Decidable.em ((l0.length : Int) < (l1.length : Int)) with hmx | hmx
      · have hd0 := eq_true hmx
        rw [if_pos hmx] at hji3_
        subst hji3_
        clear hmx
        go_enter Try.func20, Try.ntmps20
        go_wp2_with (first | ((with_reducible refine gate_dst (N := 11) rfl ?_); refine Kd.R_make (Kd.int .u8) _ 5 rfl (N := 11) rfl 22 _ _ rfl ((l1.length : Int)) rfl rfl Try.underlying22 (.int .u8 0) 1 info5 rfl (by decide) (by omega) 0 (ok := fun _ => True) (okp := fun _ => True) rfl (fun _ hk => hk) trivial (of_decide_eq_true (by first | (with_reducible assumption) | assumption)) (Nat.le_trans (Nat.mul_le_mul_right _ (of_decide_eq_true (by first | (with_reducible assumption) | assumption) : ((l1.length : Int)).toNat ≤ 281474976710656)) (by omega)) (Below.refl _ _) (Nat.le_refl _) ?_; intro v293 w9 ho10 hb hg_ hnew_; clear hg_ hnew_; (first | rw [← Ny292.out] at ho10 | (simp only [Int.reduceToNat] at ho10; rw [← Ny292.out] at ho10)); have n0_ := Aside0.mk (Kd.R_lower (Kd.R_newM (M := fun k_ => (w.heap.size ≤ k_)) ho10 (below_size (by repeat (first | (with_reducible first | exact HB.out | apply below_alloc | apply pw_below_drewN | apply below_drew1) | exact HB.out))) (fun k_ h_ => h_)) (below_size (by repeat (first | (with_reducible first | exact HB.out | apply below_alloc | apply pw_below_drewN | apply below_drew1) | exact HB.out)))); have n1_ := Aside0.mk (below_step (by repeat (first | (with_reducible first | exact HB.out | apply below_alloc | apply pw_below_drewN | apply below_drew1) | exact HB.out)) hb); clear HB; have HO294 := n0_; have HB := n1_; clear n0_ n1_; clear hb ho10; obtain ⟨Ao11, co11, eo11⟩ := Kd.R_slice HO294.out; subst eo11) | ((with_reducible refine gate_callee (f := 37) rfl ?_); refine goesL_ (some 14) rfl rfl Try.func37 (by kernel_rfl) rfl #[.slice Ao11 y292.length co11, .slice A0 l0.length c0, .int .i64 0] rfl (by (try simp only [List.map_toArray, List.map_cons, List.map_nil]); first | done | rfl | (simp only [List.length_drop, List.length_take]; rfl)) ?_; (with_reducible refine (bpoly_add.calls k (fun k_ => some k_ = (.slice Ao11 y292.length co11 : Value).ownBlock) (.slice Ao11 y292.length co11) y292 _ _ l0 0 t295 w _ ?side1 ?side2 ?side3 ?side4 A6.out).mono ?_); (case side1 => repeat (first | (with_reducible first | exact HB.out | apply below_alloc | apply pw_below_drewN | apply below_drew1) | exact HB.out)); (case side2 => exact Kd.R_tight rfl HO294.out); (case side3 => exact Kd.C_kept_came (Kd.heap_int .u8) HR0.out (by repeat (first | (with_reducible first | exact HB.out | apply below_alloc | apply pw_below_drewN | apply below_drew1) | exact HB.out)) (fun k_ hs_ => (fun e_ => Kd.R_base HO294.out k_ e_.symm) hs_)); (case side4 => exact HC0.out); rintro e w12 ⟨rfl, hy0, hb, hkp⟩; refine ⟨_, rfl, ?_⟩; have n0_ := Aside0.mk (Kd.R_reok rfl hy0 (fun k_ e_ => HO294.out.1 k_ e_)); have n1_ := Aside0.mk (hb); clear HO294; clear HB; have HO294 := n0_; have HB := n1_; clear n0_ n1_; (try clear hb); (try clear hkp); (try clear hy0)) | ((with_reducible refine gate_callee (f := 37) rfl ?_); refine goesL_ (some 17) rfl rfl Try.func37 (by kernel_rfl) rfl #[.slice Ao11 y292.length co11, .slice A1 l1.length c1, .int .i64 0] rfl (by (try simp only [List.map_toArray, List.map_cons, List.map_nil]); first | done | rfl | (simp only [List.length_drop, List.length_take]; rfl)) ?_; (with_reducible refine (bpoly_add.calls k (fun k_ => some k_ = (.slice Ao11 y292.length co11 : Value).ownBlock) (.slice Ao11 y292.length co11) t295 _ _ l1 0 t296 w _ ?side1 ?side2 ?side3 ?side4 A7.out).mono ?_); (case side1 => repeat (first | (with_reducible first | exact HB.out | apply below_alloc | apply pw_below_drewN | apply below_drew1) | exact HB.out)); (case side2 => exact Kd.R_tight rfl HO294.out); (case side3 => exact Kd.C_kept_came (Kd.heap_int .u8) HR1.out (by repeat (first | (with_reducible first | exact HB.out | apply below_alloc | apply pw_below_drewN | apply below_drew1) | exact HB.out)) (fun k_ hs_ => (fun e_ => Kd.R_base HO294.out k_ e_.symm) hs_)); (case side4 => exact HC1.out); rintro e w13 ⟨rfl, hy0, hb, hkp⟩; refine ⟨_, rfl, ?_⟩; have n0_ := Aside0.mk (Kd.R_reok rfl hy0 (fun k_ e_ => HO294.out.1 k_ e_)); have n1_ := Aside0.mk (hb); clear HO294; clear HB; have HO294 := n0_; have HB := n1_; clear n0_ n1_; (try clear hb); (try clear hkp); (try clear hy0)) | ((with_reducible refine gate_callee (f := 31) rfl ?_); refine goesL_ (some 19) rfl rfl Try.func31 (by kernel_rfl) rfl #[.slice Ao11 t296.length co11] rfl (by (try simp only [List.map_toArray, List.map_cons, List.map_nil]); first | done | (rw [show t296.length = y292.length from (Kd.R_reads' HO294.out).1.symm] <;> rfl) | rfl | (simp only [List.length_drop, List.length_take]; rfl)) ?_; (with_reducible refine (bpoly_norm.calls k (fun k_ => some k_ = (.slice Ao11 y292.length co11 : Value).ownBlock) _ _ t296 t297 _ ?side1 A8.out).mono ?_); (case side1 => rw [show t296.length = y292.length from (Kd.R_reads' HO294.out).1.symm]; exact Kd.R_V (Kd.R_tight rfl (HO294.out))); rintro e w14 ⟨v298, rfl, ho0, hb⟩; refine ⟨_, rfl, ?_⟩; have n0_ := Aside0.mk (Kd.R_below (by (with_reducible repeat (first | apply Kd.R_alloc | apply Kd.R_drewN | apply Kd.R_drew)); exact HO294.out) hb); have n1_ := Aside0.mk (Kd.V_lower (Kd.V_mono (ok' := fun k_ => (w.heap.size ≤ k_)) ho0 (fun k_ hk_ => Or.elim hk_ (fun hs_ => ((HO294.out).1 k_ hs_.symm).1) (fun hn_ => (Nat.le_trans (below_size (by repeat (first | (with_reducible first | exact HB.out | apply below_alloc | apply pw_below_drewN | apply below_drew1) | exact HB.out))) hn_)))) (below_size (by repeat (first | (with_reducible first | exact HB.out | apply below_alloc | apply pw_below_drewN | apply below_drew1) | exact HB.out)))); have n2_ := Aside0.mk (below_step (by repeat (first | (with_reducible first | exact HB.out | apply below_alloc | apply pw_below_drewN | apply below_drew1) | exact HB.out)) hb); clear HO294; clear HB; have HO294 := n0_; have HO299 := n1_; have HB := n2_; clear n0_ n1_ n2_; (try clear hb); (try clear hb2); (try clear hk); (try clear hi); (try clear ho0)))
        go_ret
        exact ⟨_, by first | rfl | (simp [errW_none, errW_some] <;> rfl) | (simp only [← hji3]; first | rfl | (simp [errW_none, errW_some] <;> rfl)) | (simp [*, errW_none, errW_some] <;> rfl), by (with_reducible repeat (first | apply Kd.V_alloc | apply Kd.V_drewN | apply Kd.V_drew)); exact HO299.out, by repeat (first | (with_reducible first | exact HB.out | apply below_alloc | apply pw_below_drewN | apply below_drew1) | exact HB.out)⟩
      · have hd0 := eq_false hmx
        rw [if_neg hmx] at hji3_
        subst hji3_
        clear hmx
        go_enter Try.func20, Try.ntmps20
        go_wp2_with (first | ((with_reducible refine gate_dst (N := 11) rfl ?_); refine Kd.R_make (Kd.int .u8) _ 5 rfl (N := 11) rfl 22 _ _ rfl ((l0.length : Int)) rfl rfl Try.underlying22 (.int .u8 0) 1 info5 rfl (by decide) (by omega) 0 (ok := fun _ => True) (okp := fun _ => True) rfl (fun _ hk => hk) trivial (of_decide_eq_true (by first | (with_reducible assumption) | assumption)) (Nat.le_trans (Nat.mul_le_mul_right _ (of_decide_eq_true (by first | (with_reducible assumption) | assumption) : ((l0.length : Int)).toNat ≤ 281474976710656)) (by omega)) (Below.refl _ _) (Nat.le_refl _) ?_; intro v293 w9 ho10 hb hg_ hnew_; clear hg_ hnew_; (first | rw [← Ny292.out] at ho10 | (simp only [Int.reduceToNat] at ho10; rw [← Ny292.out] at ho10)); have n0_ := Aside0.mk (Kd.R_lower (Kd.R_newM (M := fun k_ => (w.heap.size ≤ k_)) ho10 (below_size (by repeat (first | (with_reducible first | exact HB.out | apply below_alloc | apply pw_below_drewN | apply below_drew1) | exact HB.out))) (fun k_ h_ => h_)) (below_size (by repeat (first | (with_reducible first | exact HB.out | apply below_alloc | apply pw_below_drewN | apply below_drew1) | exact HB.out)))); have n1_ := Aside0.mk (below_step (by repeat (first | (with_reducible first | exact HB.out | apply below_alloc | apply pw_below_drewN | apply below_drew1) | exact HB.out)) hb); clear HB; have HO294 := n0_; have HB := n1_; clear n0_ n1_; clear hb ho10; obtain ⟨Ao11, co11, eo11⟩ := Kd.R_slice HO294.out; subst eo11) | ((with_reducible refine gate_callee (f := 37) rfl ?_); refine goesL_ (some 14) rfl rfl Try.func37 (by kernel_rfl) rfl #[.slice Ao11 y292.length co11, .slice A0 l0.length c0, .int .i64 0] rfl (by (try simp only [List.map_toArray, List.map_cons, List.map_nil]); first | done | rfl | (simp only [List.length_drop, List.length_take]; rfl)) ?_; (with_reducible refine (bpoly_add.calls k (fun k_ => some k_ = (.slice Ao11 y292.length co11 : Value).ownBlock) (.slice Ao11 y292.length co11) y292 _ _ l0 0 t295 w _ ?side1 ?side2 ?side3 ?side4 A6.out).mono ?_); (case side1 => repeat (first | (with_reducible first | exact HB.out | apply below_alloc | apply pw_below_drewN | apply below_drew1) | exact HB.out)); (case side2 => exact Kd.R_tight rfl HO294.out); (case side3 => exact Kd.C_kept_came (Kd.heap_int .u8) HR0.out (by repeat (first | (with_reducible first | exact HB.out | apply below_alloc | apply pw_below_drewN | apply below_drew1) | exact HB.out)) (fun k_ hs_ => (fun e_ => Kd.R_base HO294.out k_ e_.symm) hs_)); (case side4 => exact HC0.out); rintro e w12 ⟨rfl, hy0, hb, hkp⟩; refine ⟨_, rfl, ?_⟩; have n0_ := Aside0.mk (Kd.R_reok rfl hy0 (fun k_ e_ => HO294.out.1 k_ e_)); have n1_ := Aside0.mk (hb); clear HO294; clear HB; have HO294 := n0_; have HB := n1_; clear n0_ n1_; (try clear hb); (try clear hkp); (try clear hy0)) | ((with_reducible refine gate_callee (f := 37) rfl ?_); refine goesL_ (some 17) rfl rfl Try.func37 (by kernel_rfl) rfl #[.slice Ao11 y292.length co11, .slice A1 l1.length c1, .int .i64 0] rfl (by (try simp only [List.map_toArray, List.map_cons, List.map_nil]); first | done | rfl | (simp only [List.length_drop, List.length_take]; rfl)) ?_; (with_reducible refine (bpoly_add.calls k (fun k_ => some k_ = (.slice Ao11 y292.length co11 : Value).ownBlock) (.slice Ao11 y292.length co11) t295 _ _ l1 0 t296 w _ ?side1 ?side2 ?side3 ?side4 A7.out).mono ?_); (case side1 => repeat (first | (with_reducible first | exact HB.out | apply below_alloc | apply pw_below_drewN | apply below_drew1) | exact HB.out)); (case side2 => exact Kd.R_tight rfl HO294.out); (case side3 => exact Kd.C_kept_came (Kd.heap_int .u8) HR1.out (by repeat (first | (with_reducible first | exact HB.out | apply below_alloc | apply pw_below_drewN | apply below_drew1) | exact HB.out)) (fun k_ hs_ => (fun e_ => Kd.R_base HO294.out k_ e_.symm) hs_)); (case side4 => exact HC1.out); rintro e w13 ⟨rfl, hy0, hb, hkp⟩; refine ⟨_, rfl, ?_⟩; have n0_ := Aside0.mk (Kd.R_reok rfl hy0 (fun k_ e_ => HO294.out.1 k_ e_)); have n1_ := Aside0.mk (hb); clear HO294; clear HB; have HO294 := n0_; have HB := n1_; clear n0_ n1_; (try clear hb); (try clear hkp); (try clear hy0)) | ((with_reducible refine gate_callee (f := 31) rfl ?_); refine goesL_ (some 19) rfl rfl Try.func31 (by kernel_rfl) rfl #[.slice Ao11 t296.length co11] rfl (by (try simp only [List.map_toArray, List.map_cons, List.map_nil]); first | done | (rw [show t296.length = y292.length from (Kd.R_reads' HO294.out).1.symm] <;> rfl) | rfl | (simp only [List.length_drop, List.length_take]; rfl)) ?_; (with_reducible refine (bpoly_norm.calls k (fun k_ => some k_ = (.slice Ao11 y292.length co11 : Value).ownBlock) _ _ t296 t297 _ ?side1 A8.out).mono ?_); (case side1 => rw [show t296.length = y292.length from (Kd.R_reads' HO294.out).1.symm]; exact Kd.R_V (Kd.R_tight rfl (HO294.out))); rintro e w14 ⟨v298, rfl, ho0, hb⟩; refine ⟨_, rfl, ?_⟩; have n0_ := Aside0.mk (Kd.R_below (by (with_reducible repeat (first | apply Kd.R_alloc | apply Kd.R_drewN | apply Kd.R_drew)); exact HO294.out) hb); have n1_ := Aside0.mk (Kd.V_lower (Kd.V_mono (ok' := fun k_ => (w.heap.size ≤ k_)) ho0 (fun k_ hk_ => Or.elim hk_ (fun hs_ => ((HO294.out).1 k_ hs_.symm).1) (fun hn_ => (Nat.le_trans (below_size (by repeat (first | (with_reducible first | exact HB.out | apply below_alloc | apply pw_below_drewN | apply below_drew1) | exact HB.out))) hn_)))) (below_size (by repeat (first | (with_reducible first | exact HB.out | apply below_alloc | apply pw_below_drewN | apply below_drew1) | exact HB.out)))); have n2_ := Aside0.mk (below_step (by repeat (first | (with_reducible first | exact HB.out | apply below_alloc | apply pw_below_drewN | apply below_drew1) | exact HB.out)) hb); clear HO294; clear HB; have HO294 := n0_; have HO299 := n1_; have HB := n2_; clear n0_ n1_ n2_; (try clear hb); (try clear hb2); (try clear hk); (try clear hi); (try clear ho0)))
        go_ret
        exact ⟨_, by first | rfl | (simp [errW_none, errW_some] <;> rfl) | (simp only [← hji3]; first | rfl | (simp [errW_none, errW_some] <;> rfl)) | (simp [*, errW_none, errW_some] <;> rfl), by (with_reducible repeat (first | apply Kd.V_alloc | apply Kd.V_drewN | apply Kd.V_drew)); exact HO299.out, by repeat (first | (with_reducible first | exact HB.out | apply below_alloc | apply pw_below_drewN | apply below_drew1) | exact HB.out)⟩
    · rw [if_neg c5] at H
      exact absurd H (by simp)
  · rw [if_neg c4] at H
    exact absurd H (by simp)
mutual
def casemateref04_Add.l0 : Nat → List Int → List Int → List Int → Int → Option (List Int)
  | 0, _, _, _, _ => none
  | k + 1, x0, x1, x5, x6 => if x6 < (x0.length : Int) then (casemateref04_Add.j1 k x0 x1 x5 x6 true) else (casemateref04_Add.j1 k x0 x1 x5 x6 (decide (x6 < (x1.length : Int))))
def casemateref04_Add.j1 : Nat → List Int → List Int → List Int → Int → Bool → Option (List Int)
  | 0, _, _, _, _, _ => none
  | k + 1, x0, x1, x5, x6, x17 => if x17 = true then (if x6 < (x0.length : Int) then (if 0 ≤ x6 then (if x6 < (x1.length : Int) then (if x5.length < 17592186044416 then (casemateref04_Add.l0 k x0 x1 (x5 ++ [Int.tmod (wrap64 ((wrap64 (rd x0 x6)) + (rd x1 x6))) 2]) (wrap64 (x6 + 1))) else (none)) else (if x5.length < 17592186044416 then (casemateref04_Add.l0 k x0 x1 (x5 ++ [Int.tmod (wrap64 (rd x0 x6)) 2]) (wrap64 (x6 + 1))) else (none))) else (none)) else (if x6 < (x1.length : Int) then (if 0 ≤ x6 then (if x5.length < 17592186044416 then (casemateref04_Add.l0 k x0 x1 (x5 ++ [Int.tmod (wrap64 (rd x1 x6)) 2]) (wrap64 (x6 + 1))) else (none)) else (none)) else (if x5.length < 17592186044416 then (casemateref04_Add.l0 k x0 x1 (x5 ++ [(0 : Int) % 2]) (wrap64 (x6 + 1))) else (none)))) else (some x5)
end
def casemateref04_Add.f (k : Nat) (l0 : List Int) (l1 : List Int) : Option (List Int) := casemateref04_Add.l0 k l0 l1 ([] : List Int) 0
def casemateref02_Is.f (a0 : Int) : Option (Bool) := if a0 ≥ 0 then (some (decide (a0 < 8192))) else (some false)
set_option maxHeartbeats 8000000 in
set_option maxRecDepth 100000 in
theorem casemateref02_Is.calls (a0 : Int) (r : Bool) (w : World) (h : casemateref02_Is.f a0 = some r) :
    Calls Try.prog 25 #[.int .i64 a0] w fun e w' => e = .returned (.bool r) ∧ Drawn0 w w' := by
  have H : (if a0 ≥ 0 then (some (decide (a0 < 8192))) else (some false)) = some r := h
  clear h
  by_cases c2 : a0 ≥ 0
  · rw [if_pos c2] at H
    have c2b0 : decide (0 ≤ a0) = true := decide_eq_true c2
    clear c2
    obtain rfl := Option.some.inj H
    go_enter Try.func25, Try.ntmps25
    go_wp2
    go_ret
    exact ⟨by first | rfl | (simp; done) | (simp [*]; done), by repeat (first | exact Drawn0.refl _ | apply Drawn0.step)⟩
  · rw [if_neg c2] at H
    have c2b0 : decide (0 ≤ a0) = false := decide_eq_false c2
    clear c2
    obtain rfl := Option.some.inj H
    go_enter Try.func25, Try.ntmps25
    go_wp2
    go_ret
    exact ⟨by first | rfl | (simp; done) | (simp [*]; done), by repeat (first | exact Drawn0.refl _ | apply Drawn0.step)⟩
mutual
def casemateref04_Mod.l0 : Nat → List Int → List Int → Int → Int → Option (List Int)
  | 0, _, _, _, _ => none
  | k + 1, x1, x5, x6, x7 => if x7 ≥ x6 then (casemateref04_Mod.l1 k x1 x5 x6 x7 0) else (some x5)
def casemateref04_Mod.l1 : Nat → List Int → List Int → Int → Int → Int → Option (List Int)
  | 0, _, _, _, _, _ => none
  | k + 1, x1, x5, x6, x7, x8 => if x8 ≤ x6 then (if 0 ≤ (wrap64 ((wrap64 (x7 - x6)) + x8)) then (if (wrap64 ((wrap64 (x7 - x6)) + x8)) < (x5.length : Int) then (if 0 ≤ x8 then (if x8 < (x1.length : Int) then (casemateref04_Mod.l1 k x1 (x5.set ((wrap64 ((wrap64 (x7 - x6)) + x8)) : Int).toNat (Int.tmod (wrap64 ((rd x5 (wrap64 ((wrap64 (x7 - x6)) + x8))) + (rd x1 x8))) 2)) x6 x7 (wrap64 (x8 + 1))) else (none)) else (none)) else (none)) else (none)) else ((casemateref04_Degree.f k x5).bind fun t323 => (casemateref04_Mod.l0 k x1 x5 x6 t323))
end
def casemateref04_Mod.f (k : Nat) (l0 : List Int) (l1 : List Int) : Option (List Int) := if ([] : List Int).length + l0.length < 17592186044416 then ((some (([] : List Int) ++ l0 : List Int)).bind fun y315 => ((casemateref04_Degree.f k l1).bind fun t318 => ((casemateref04_Degree.f k y315).bind fun t319 => (casemateref04_Mod.l0 k l1 y315 t318 t319)))) else (none)
def casemateref04_Mod.T10 : Bool × List (List Nat × List Nat) := (true, [([], []), ([], []), ([], []), ([1, 2], [1, 2]), ([], []), ([3, 4], [3, 4]), ([], []), ([], []), ([], []), ([7, 8], [7, 8]), ([], []), ([9, 10], [9, 10]), ([6, 11], [6, 11]), ([12], [12]), ([], []), ([], []), ([14, 15], [14, 15]), ([16], [16]), ([13, 17], [13, 17]), ([18], [18]), ([0, 5, 0, 1, 2, 3, 4, 5, 6, 7, 8, 9, 10, 11, 12, 13, 14, 15, 16, 17, 18, 19], [0, 5]), ([20, 19, 0, 1, 2, 3, 4, 5, 6, 7, 8, 9, 10, 11, 12, 13, 14, 15, 16, 17, 18, 19], [19, 20])])
def casemateref04_Mod.B10 : List Nat := [0, 0, 0, 6, 0, 30, 0, 0, 0, 384, 0, 1920, 4032, 8128, 0, 0, 49152, 114688, 262080, 524224, 1048575, 2097151]
mutual
def casematelaw04_BpolyLaws.j0 : Nat → List Int → List Int → List Int → Int → Bool → Option (Bool)
 | 0, _, _, _, _, _ => none
 | k + 1, x0, x1, x2, x3, x37 => if x37 = true then (some true) else ((bpoly_Mul.f k x0 x1).bind fun t376 => ((bpoly_Value.f k x0 x3).bind fun bt379 => ((bpoly_Value.f k x1 x3).bind fun bt381 => ((bpoly_Value.f k t376 x3).bind fun bt383 => (if bt379.2 = 0 then ((bpoly_Mul.f k x1 x0).bind fun t385 => (if (strOfNums t376).toList = (strOfNums t385).toList then ((bpoly_Mul.f k t376 x2).bind fun t388 => ((bpoly_Mul.f k x1 x2).bind fun t391 => ((bpoly_Mul.f k x0 t391).bind fun t394 => (if (strOfNums t388).toList = (strOfNums t394).toList then ((bpoly_Add.f k x1 x2).bind fun t397 => ((bpoly_Mul.f k x0 t397).bind fun t400 => ((bpoly_Mul.f k x0 x2).bind fun t403 => ((bpoly_Add.f k t376 t403).bind fun t406 => (if (strOfNums t400).toList = (strOfNums t406).toList then ((casemateref02_Mul.f k bt379.1 bt381.1).bind fun t409 => (casematelaw04_BpolyLaws.j1 k x0 x1 x2 (bt383.1 != t409))) else (casematelaw04_BpolyLaws.j1 k x0 x1 x2 true)))))) else (casematelaw04_BpolyLaws.j1 k x0 x1 x2 true))))) else (casematelaw04_BpolyLaws.j1 k x0 x1 x2 true))) else (casematelaw04_BpolyLaws.j1 k x0 x1 x2 true))))))
def casematelaw04_BpolyLaws.j1 : Nat → List Int → List Int → List Int → Bool → Option (Bool)
 | 0, _, _, _, _ => none
 | k + 1, x0, x1, x2, x104 => if x104 = true then (some false) else ((bpoly_Degree.f k x2).bind fun t410 => (if t410 < 0 then ((casematelaw04_awake.f k).bind fun t411 => (some t411)) else ((bpoly_Mod.f k x0 x2).bind fun bt412 => ((bpoly_Mod.f k x1 x2).bind fun bt416 => ((bpoly_Add.f k x0 x1).bind fun t420 => ((bpoly_Mod.f k t420 x2).bind fun bt423 => ((bpoly_Mul.f k x0 x2).bind fun t427 => ((bpoly_Mod.f k t427 x2).bind fun bt430 => ((casematelaw04_awake.f k).bind fun t434 => (if t434 = true then (if bt412.2 = 0 then (if bt416.2 = bt412.2 then (if bt423.2 = bt412.2 then (if bt430.2 = bt412.2 then ((bpoly_Add.f k bt412.1 bt416.1).bind fun t435 => (if (strOfNums bt423.1).toList = (strOfNums t435).toList then (if (bt430.1.length : Int) = 0 then ((bpoly_Degree.f k bt412.1).bind fun t438 => ((bpoly_Degree.f k x2).bind fun t439 => (some (decide (t438 < t439))))) else (some false)) else (some false))) else (some false)) else (some false)) else (some false)) else (some false)) else (some false)))))))))))
end
def casematelaw04_BpolyLaws.f (k : Nat) (l0 : List Int) (l1 : List Int) (l2 : List Int) (a3 : Int) : Option (Bool) := (casematelaw04_small.f l0 l1).bind fun t374 => (if t374 = true then (if (l2.length : Int) > 60 then (casematelaw04_BpolyLaws.j0 k l0 l1 l2 a3 true) else ((casemateref02_Is.f a3).bind fun t375 => (casematelaw04_BpolyLaws.j0 k l0 l1 l2 a3 (!t375)))) else (casematelaw04_BpolyLaws.j0 k l0 l1 l2 a3 true))
def casematelaw04_BpolyLaws.T7 : Bool × List (List Nat × List Nat) := (true, [([], []), ([0], [0]), ([1], [1]), ([2], [2]), ([3, 2], [2, 3]), ([2], [2]), ([2], [2]), ([5, 6, 2, 2], [2, 5, 6]), ([7, 2], [2, 7]), ([4, 8, 2], [2, 4, 8]), ([2, 9], [2, 9]), ([10, 7], [10]), ([11], [11]), ([11], [11]), ([12, 13, 11, 11], [11, 12, 13]), ([14, 11], [11, 14]), ([11], [11]), ([11], [11]), ([11], [11]), ([17, 18, 14, 11], [11, 17, 18]), ([16, 19, 19, 11], [11, 16, 19]), ([20, 11], [11, 20]), ([15, 21, 11], [11, 15, 21]), ([11, 22], [11, 22]), ([23, 20], [23]), ([24], [24]), ([24], [24]), ([24], [24]), ([26, 27, 24, 24], [24, 26, 27]), ([25, 28, 28, 24], [24, 25, 28]), ([29, 24], [24, 29]), ([24], [24]), ([24], [24]), ([24], [24]), ([32, 33, 29, 24], [24, 32, 33]), ([31, 34, 34, 24], [24, 31, 34]), ([35, 24], [24, 35]), ([30, 36, 24], [24, 30, 36]), ([24, 37], [24, 37]), ([38, 35], [38]), ([39], [39]), ([39], [39]), ([39], [39]), ([41, 42, 39, 39], [39, 41, 42]), ([40, 43, 39], [39, 40, 43]), ([39, 44], [39, 44])])
def casematelaw04_BpolyLaws.B7 : List Nat := [0, 1, 3, 7, 15, 7, 7, 103, 231, 511, 1023, 2047, 4095, 4095, 16383, 32767, 4095, 4095, 4095, 425983, 1015807, 2064383, 4194303, 8388607, 16777215, 33554431, 33554431, 33554431, 234881023, 536870911, 1073741823, 33554431, 33554431, 33554431, 13958643711, 33285996543, 67645734911, 137438953471, 274877906943, 549755813887, 1099511627775, 1099511627775, 1099511627775, 7696581394431, 17592186044415, 35184372088831]
theorem casematelaw04_BpolyLaws.tab7 : rtab .any (opsOf Try.f7 7) = casematelaw04_BpolyLaws.T7 := by kernel_rfl
theorem casematelaw04_BpolyLaws.bits7 : waitsOk casematelaw04_BpolyLaws.T7.2 casematelaw04_BpolyLaws.B7 = true := by kernel_rfl
def casematelaw04_BpolyLaws.T15 : Bool × List (List Nat × List Nat) := (true, [([], []), ([0, 0], [0]), ([1], [1]), ([2, 1], [1, 2]), ([1, 3], [1, 3]), ([4, 1], [4]), ([5], [5]), ([5], [5]), ([6, 7, 5], [5, 6, 7]), ([5, 8], [5, 8]), ([9, 5], [9]), ([10], [10]), ([10], [10]), ([11, 12, 10], [10, 11, 12]), ([10, 13], [10, 13]), ([14, 10], [14]), ([15], [15]), ([15], [15]), ([16, 17, 15], [15, 16, 17]), ([15, 18], [15, 18]), ([19, 15], [19]), ([20], [20]), ([21, 20], [20, 21]), ([20], [20]), ([20], [20]), ([23, 24, 20, 20], [20, 23, 24]), ([25, 20], [20, 25]), ([22, 26, 20], [20, 22, 26]), ([20, 27], [20, 27]), ([28, 25], [28]), ([29], [29]), ([30, 29], [29, 30]), ([31, 29], [29, 31]), ([29, 32], [29, 32]), ([33, 29], [33]), ([34], [34]), ([35, 34, 34], [34, 35]), ([34], [34]), ([37, 36, 34], [34, 37]), ([36, 38, 34], [34, 36, 38]), ([34, 39], [34, 39]), ([40, 38, 0, 1, 2, 3, 4, 5, 6, 7, 8, 9, 10, 11, 12, 13, 14, 15, 16, 17, 18, 19, 20, 21, 22, 23, 24, 25, 26, 27, 28, 29, 30, 31, 32, 33, 34, 35, 36, 37, 38, 39, 40], [40])])
def casematelaw04_BpolyLaws.B15 : List Nat := [0, 1, 3, 7, 15, 31, 63, 63, 255, 511, 1023, 2047, 2047, 8191, 16383, 32767, 65535, 65535, 262143, 524287, 1048575, 2097151, 4194303, 2097151, 2097151, 27262975, 60817407, 134217727, 268435455, 536870911, 1073741823, 2147483647, 4294967295, 8589934591, 17179869183, 34359738367, 68719476735, 34359738367, 274877906943, 549755813887, 1099511627775, 2199023255551]
theorem casematelaw04_BpolyLaws.tab15 : rtab .any (opsOf Try.f7 15) = casematelaw04_BpolyLaws.T15 := by kernel_rfl
theorem casematelaw04_BpolyLaws.bits15 : waitsOk casematelaw04_BpolyLaws.T15.2 casematelaw04_BpolyLaws.B15 = true := by kernel_rfl
theorem casematelaw04_BpolyLaws.strV {w : World} {e s1 s2 s3 : TypeId} {base : Nat} {ok : Nat → Prop} {v : Value} {xs : List Int} (hs : Try.prog.underlying s1 = some (.slice s2)) (he : Try.prog.underlying s2 = some (.int .u8)) (hd : Try.prog.underlying s3 = some .string) (h : Kd.V (Kd.int .u8) e w base ok v xs) : Sem.run Try.prog (convert s1 s3 v) w = .ok (.string (strOfNums xs)) w := by
 obtain ⟨A, c, rfl⟩ := Kd.V_slice h
 exact Kd.C_string hs he hd (Kd.V_reads' h).2.2
theorem casematelaw04_BpolyLaws.j1_no : ∀ (k : Nat) y0 y1 y2, ¬ casematelaw04_BpolyLaws.j1 k y0 y1 y2 true = some true
 | 0, _, _, _ => by simp [casematelaw04_BpolyLaws.j1]
 | k + 1, _, _, _ => by simp [casematelaw04_BpolyLaws.j1]
set_option maxHeartbeats 8000000 in
set_option maxRecDepth 100000 in
theorem casematelaw04_BpolyLaws.calls (k : Nat) (A0 : Option Addr) (c0 : Nat) (l0 : List Int) (A1 : Option Addr) (c1 : Nat) (l1 : List Int) (A2 : Option Addr) (c2 : Nat) (l2 : List Int) (a3 : Int) (r : Bool) (hr0_ : r = true) (w : World) (hr0 : Kd.C (Kd.int .u8) w A0 l0.length l0) (hc0 : l0.length ≤ c0) (hr1 : Kd.C (Kd.int .u8) w A1 l1.length l1) (hc1 : l1.length ≤ c1) (hr2 : Kd.C (Kd.int .u8) w A2 l2.length l2) (hc2 : l2.length ≤ c2) (h : casematelaw04_BpolyLaws.f k l0 l1 l2 a3 = some r) :
  Calls Try.prog 7 #[.slice A0 l0.length c0, .slice A1 l1.length c1, .slice A2 l2.length c2, .int .i64 a3] w fun e w' => e = .returned (.bool r) ∧ Below w.heap.size w w' := by
 have HR0 := Aside0.mk hr0
 have HC0 := Aside0.mk hc0
 clear hr0 hc0
 have HR1 := Aside0.mk hr1
 have HC1 := Aside0.mk hc1
 clear hr1 hc1
 have HR2 := Aside0.mk hr2
 have HC2 := Aside0.mk hc2
 clear hr2 hc2
 have HB := Aside0.mk (Below.refl w.heap.size w)
 have hr_ := Aside0.mk hr0_
 have H := h
 unfold casematelaw04_BpolyLaws.f at H
 clear h
 have HC5 := Aside0.mk H
 clear H
 go_enter Try.func7, Try.ntmps7
 go_upto_region 1 with (fail)
 go_cut [37] (fun v37 wc => ∃ (kq : Nat) (x37_4 : Bool), v37 = .bool x37_4 ∧ Aside0 (casematelaw04_BpolyLaws.j0 kq l0 l1 l2 a3 x37_4 = some r) ∧ Aside0 (kq ≤ k) ∧ Aside0 (Below w.heap.size w wc))
 case first =>
  have H := HC5.out
  clear HC5
  obtain ⟨t374, A6, H⟩ := uO H
  by_cases c7 : t374 = true
  ·subst c7
   replace H := uI rfl H
   by_cases c8 : (l2.length : Int) > 60
   ·rw [if_pos c8] at H
    have c8b0 : decide (60 < (l2.length : Int)) = true := decide_eq_true c8
    have c8b1 : decide (60 < l2.length) = true := decide_eq_true (by omega)
    clear c8
    (first | rw [c8b0] | (simp only [i64_w, i32_w]; rw [c8b0]) | skip)
    have H' := Aside0.mk H
    clear H
    go_wp2_with (first | ((with_reducible refine gate_callee (f := 19) rfl ?_); refine uG (some 26) Try.func19 #[.slice A0 l0.length c0, .slice A1 l1.length c1] ?_; (with_reducible refine (casematelaw04_small.calls _ _ l0 _ _ l1 true _ ?side1 ?side2 ?side3 ?side4 A6.out).mono ?_); (case side1 => exact uC (Kd.C_below HR0.out HB.out)); (case side2 => exact HC0.out); (case side3 => exact uC (Kd.C_below HR1.out HB.out)); (case side4 => exact HC1.out); rintro e w' ⟨rfl, ⟨nd, rfl⟩⟩; refine ⟨_, rfl, ?_⟩))
    go_meet
    case rel => exact ⟨_, (true), rfl, H', ⟨by omega⟩, ⟨uB HB.out⟩⟩
   ·rw [if_neg c8] at H
    have c8b0 : decide (60 < (l2.length : Int)) = false := decide_eq_false c8
    have c8b1 : decide (60 < l2.length) = false := decide_eq_false (by omega)
    clear c8
    (first | rw [c8b0] | (simp only [i64_w, i32_w]; rw [c8b0]) | skip)
    obtain ⟨t375, A9, H⟩ := uO H
    have H' := Aside0.mk H
    clear H
    go_wp2_with (first | ((with_reducible refine gate_callee (f := 19) rfl ?_); refine uG (some 26) Try.func19 #[.slice A0 l0.length c0, .slice A1 l1.length c1] ?_; (with_reducible refine (casematelaw04_small.calls _ _ l0 _ _ l1 true _ ?side1 ?side2 ?side3 ?side4 A6.out).mono ?_); (case side1 => exact uC (Kd.C_below HR0.out HB.out)); (case side2 => exact HC0.out); (case side3 => exact uC (Kd.C_below HR1.out HB.out)); (case side4 => exact HC1.out); rintro e w' ⟨rfl, ⟨nd, rfl⟩⟩; refine ⟨_, rfl, ?_⟩) | (go_at_call 25; (with_reducible refine (casemateref02_Is.calls a3 t375 _ A9.out).mono ?_); rintro e w' ⟨rfl, ⟨nd, rfl⟩⟩))
    go_meet
    case rel => exact ⟨_, (!t375), rfl, H', ⟨by omega⟩, ⟨uB HB.out⟩⟩
  ·replace c7 := Bool.eq_false_iff.mpr c7
   subst c7
   replace H := uJ uN0 H
   have H' := Aside0.mk H
   clear H
   go_wp2_with (first | ((with_reducible refine gate_callee (f := 19) rfl ?_); refine uG (some 26) Try.func19 #[.slice A0 l0.length c0, .slice A1 l1.length c1] ?_; (with_reducible refine (casematelaw04_small.calls _ _ l0 _ _ l1 false _ ?side1 ?side2 ?side3 ?side4 A6.out).mono ?_); (case side1 => exact uC (Kd.C_below HR0.out HB.out)); (case side2 => exact HC0.out); (case side3 => exact uC (Kd.C_below HR1.out HB.out)); (case side4 => exact HC1.out); rintro e w' ⟨rfl, ⟨nd, rfl⟩⟩; refine ⟨_, rfl, ?_⟩))
   go_meet
   case rel => exact ⟨_, (true), rfl, H', ⟨by omega⟩, ⟨uB HB.out⟩⟩
 case rest =>
  clear HC5
  obtain ⟨kq, x37_4, rfl, HA, HJ4, HB⟩ := hcut
  cases kq with
  | zero => exact absurd HA.out (by simp [casematelaw04_BpolyLaws.j0])
  | succ kj4 =>
   have H := HA.out
   clear HA
   simp only [casematelaw04_BpolyLaws.j0] at H
   by_cases c10 : x37_4 = true
   ·subst c10
    replace H := uI rfl H
    obtain rfl := Option.some.inj H
    go_wp2
    go_ret
    exact ⟨rfl, uB HB.out⟩
   ·replace c10 := Bool.eq_false_iff.mpr c10
    subst c10
    replace H := uJ uN0 H
    obtain ⟨t376, A11, H⟩ := uO H
    obtain ⟨⟨t379, t380⟩, A12, H⟩ := uO H
    dsimp only at H
    obtain ⟨⟨t381, t382⟩, A13, H⟩ := uO H
    dsimp only at H
    obtain ⟨⟨t383, t384⟩, A14, H⟩ := uO H
    dsimp only at H
    have HC15 := Aside0.mk H
    clear H
    go_upto_region 7 with (first | ((with_reducible refine gate_callee (f := 21) rfl ?_); refine uG (some 40) Try.func21 #[.slice A0 l0.length c0, .slice A1 l1.length c1] ?_; (with_reducible refine (bpoly_Mul.calls kj4 _ _ l0 _ _ l1 t376 _ ?side1 ?side2 ?side3 ?side4 A11.out).mono ?_); (case side1 => exact uC (Kd.C_below HR0.out HB.out)); (case side2 => exact HC0.out); (case side3 => exact uC (Kd.C_below HR1.out HB.out)); (case side4 => exact HC1.out); rintro e w16 ⟨v377, rfl, ho0, hb⟩; refine ⟨_, rfl, ?_⟩; have HO378 := uA (Kd.V_lower (Kd.V_mono (ok' := fun k_ => True) ho0 (fun k_ hk_ => trivial)) (below_size (uB HB.out))); replace HB := uBb HB hb) | ((with_reducible refine gate_callee (f := 18) rfl ?_); refine uG (some 44) Try.func18 #[.slice A0 l0.length c0, .int .i64 a3] ?_; (with_reducible refine (bpoly_Value.calls kj4 _ _ l0 a3 t379 t380 _ ?side1 ?side2 A12.out).mono ?_); (case side1 => exact uC (Kd.C_below HR0.out HB.out)); (case side2 => exact HC0.out); rintro e w16 ⟨rfl, ⟨nd, hnd_⟩⟩; refine ⟨_, rfl, ?_⟩; have m0_ := Aside0.mk (Kd.V_step (w1 := w16) HO378.out (fun _ _ _ => by first | (rw [← hnd_]; rfl) | rw [← hnd_] | (rw [hnd_]; rfl) | rw [hnd_])); have m1_ := Aside0.mk (show Below w.heap.size w w16 from by first | (rw [← hnd_]; exact pw_below_drewN HB.out nd) | (rw [hnd_]; exact pw_below_drewN HB.out nd)); clear HO378 HB; have HO378 := m0_; have HB := m1_; clear m0_ m1_ hnd_) | ((with_reducible refine gate_callee (f := 18) rfl ?_); refine uG (some 50) Try.func18 #[.slice A1 l1.length c1, .int .i64 a3] ?_; (with_reducible refine (bpoly_Value.calls kj4 _ _ l1 a3 t381 t382 _ ?side1 ?side2 A13.out).mono ?_); (case side1 => exact uC (Kd.C_below HR1.out HB.out)); (case side2 => exact HC1.out); rintro e w16 ⟨rfl, ⟨nd, hnd_⟩⟩; refine ⟨_, rfl, ?_⟩; have m0_ := Aside0.mk (Kd.V_step (w1 := w16) HO378.out (fun _ _ _ => by first | (rw [← hnd_]; rfl) | rw [← hnd_] | (rw [hnd_]; rfl) | rw [hnd_])); have m1_ := Aside0.mk (show Below w.heap.size w w16 from by first | (rw [← hnd_]; exact pw_below_drewN HB.out nd) | (rw [hnd_]; exact pw_below_drewN HB.out nd)); clear HO378 HB; have HO378 := m0_; have HB := m1_; clear m0_ m1_ hnd_; obtain ⟨Ao17, co17, eo17⟩ := Kd.V_slice HO378.out; subst eo17) | ((with_reducible refine gate_callee (f := 18) rfl ?_); refine uG (some 56) Try.func18 #[.slice Ao17 t376.length co17, .int .i64 a3] ?_; (with_reducible refine (bpoly_Value.calls kj4 _ _ t376 a3 t383 t384 _ ?side1 ?side2 A14.out).mono ?_); (case side1 => exact uC (Kd.V_reads' HO378.out).2.2); (case side2 => exact (Kd.V_reads' HO378.out).2.1); rintro e w16 ⟨rfl, ⟨nd, hnd_⟩⟩; refine ⟨_, rfl, ?_⟩; have m0_ := Aside0.mk (Kd.V_step (w1 := w16) HO378.out (fun _ _ _ => by first | (rw [← hnd_]; rfl) | rw [← hnd_] | (rw [hnd_]; rfl) | rw [hnd_])); have m1_ := Aside0.mk (show Below w.heap.size w w16 from by first | (rw [← hnd_]; exact pw_below_drewN HB.out nd) | (rw [hnd_]; exact pw_below_drewN HB.out nd)); clear HO378 HB; have HO378 := m0_; have HB := m1_; clear m0_ m1_ hnd_))
    (try simp only [Act.put, List.setIfInBounds_toArray, List.set_cons_zero, List.set_cons_succ])
    go_cut [104] (fun v104 wc => ∃ (kq : Nat) (x104_14 : Bool), v104 = .bool x104_14 ∧ Aside0 (casematelaw04_BpolyLaws.j1 kq l0 l1 l2 x104_14 = some r) ∧ Aside0 (kq ≤ kj4) ∧ Aside0 (Below w.heap.size w wc))
    case first =>
     have H := HC15.out
     clear HC15
     by_cases c18 : t380 = 0
     ·rw [if_pos c18] at H
      have c18b0 : (t380 == 0) = true := beq_iff_eq.mpr c18
      have c18b1 : (t380 != 0) = false := bne_eq_false_iff_eq.mpr c18
      clear c18
      (first | rw [c18b0] | (simp only [i64_w, i32_w]; rw [c18b0]) | skip)
      obtain ⟨t385, A19, H⟩ := uO H
      by_cases c20 : (strOfNums t376).toList = (strOfNums t385).toList
      ·rw [if_pos c20] at H
       have c20b0 : ((strOfNums t376).toList == (strOfNums t385).toList) = true := beq_iff_eq.mpr c20
       have c20b1 : ((strOfNums t376).toList != (strOfNums t385).toList) = false := bne_eq_false_iff_eq.mpr c20
       clear c20
       obtain ⟨t388, A21, H⟩ := uO H
       obtain ⟨t391, A22, H⟩ := uO H
       obtain ⟨t394, A23, H⟩ := uO H
       by_cases c24 : (strOfNums t388).toList = (strOfNums t394).toList
       ·rw [if_pos c24] at H
        have c24b0 : ((strOfNums t388).toList == (strOfNums t394).toList) = true := beq_iff_eq.mpr c24
        have c24b1 : ((strOfNums t388).toList != (strOfNums t394).toList) = false := bne_eq_false_iff_eq.mpr c24
        clear c24
        obtain ⟨t397, A25, H⟩ := uO H
        obtain ⟨t400, A26, H⟩ := uO H
        obtain ⟨t403, A27, H⟩ := uO H
        obtain ⟨t406, A28, H⟩ := uO H
        by_cases c29 : (strOfNums t400).toList = (strOfNums t406).toList
        ·rw [if_pos c29] at H
         have c29b0 : ((strOfNums t400).toList == (strOfNums t406).toList) = true := beq_iff_eq.mpr c29
         have c29b1 : ((strOfNums t400).toList != (strOfNums t406).toList) = false := bne_eq_false_iff_eq.mpr c29
         clear c29
         obtain ⟨t409, A30, H⟩ := uO H
         have H' := Aside0.mk H
         clear H
         try go_wp2
         replace HO378 := uA (Kd.V_drew HO378.out); replace HB := uA (below_drew1 HB.out)
         have hcv32 := casematelaw04_BpolyLaws.strV Try.underlying22 Try.underlying5 Try.underlying9 HO378.out
         refine start_ (n := 46) (S := fun w' => Sem.run Try.prog (convert 22 9 (.slice Ao17 t376.length co17)) w' = .ok (.string (strOfNums t376)) w') (ds := []) #[false, false, false, false, false, false, false, false, false, false, false, false, false, false, false, false, false, false, false, false, false, false, false, false, false, false, false, false, false, false, false, false, false, false, false, false, false, false, false, false, false, false, false, false, false, false] (by kernel_rfl) rfl rfl (by first | exact casematelaw04_BpolyLaws.strV Try.underlying22 Try.underlying5 Try.underlying9 HO378.out | exact casematelaw04_BpolyLaws.strV Try.underlying22 Try.underlying5 Try.underlying9 (Kd.V_step HO378.out (fun _ _ _ => rfl))) (fun hHeld => ?_); refine with_tabW casematelaw04_BpolyLaws.tab7 casematelaw04_BpolyLaws.bits7 (fun HT_ HW_ => ?_)
         generalize w16.drew = w31 at HO378 HB hHeld ⊢
         refine uP HT_ 0 (some 59) (lb 46 1) ?_
         refine uP HT_ 1 (some 60) (lb 46 3) ?_
         refine uP HT_ 2 (some 61) (lb 46 7) ?_
         refine uP HT_ 3 (some 62) (lb 46 15) ?_
         refine uT HT_ HW_ 4 (some 63) (lb 46 31) rfl hHeld ?_ (by rintro w' s0; go_simp; with_reducible rfl)
         refine uP HT_ 5 (some 64) (lb 46 63) ?_
         refine uP HT_ 6 (some 65) (lb 46 127) ?_
         refine one_ (i := 7) (N := some 66) #[true, true, true, true, true, true, true, true, false, false, false, false, false, false, false, false, false, false, false, false, false, false, false, false, false, false, false, false, false, false, false, false, false, false, false, false, false, false, false, false, false, false, false, false, false, false] rfl rfl (one_of HT_.out (by kernel_rfl)) (by decide) (fun K hK => ?_)
         refine goes_ Try.func21 (by kernel_rfl) rfl #[.slice A1 l1.length c1, .slice A0 l0.length c0] (by rfl) rfl rfl (by (try simp only [List.map_toArray, List.map_cons, List.map_nil]); first | done | rfl | (simp only [List.length_drop, List.length_take]; rfl)) ?_
         with_reducible refine (bpoly_Mul.calls kj4 _ _ l1 _ _ l0 t385 _ ?side1 ?side2 ?side3 ?side4 A19.out).mono ?_
         (case side1 => exact uC (Kd.C_below HR1.out HB.out))
         (case side2 => exact HC1.out)
         (case side3 => exact uC (Kd.C_below HR0.out HB.out))
         (case side4 => exact HC0.out)
         rintro e w33 ⟨v386, rfl, ho0, hb⟩
         refine ⟨_, rfl, ?_⟩
         replace HO378 := uVb HO378 hb; have HO387 := uA (Kd.V_lower (Kd.V_mono (ok' := fun k_ => True) ho0 (fun k_ hk_ => trivial)) (below_size (uB HB.out))); replace HB := uBb HB hb
         refine hK.out _ _ (by first | exact casematelaw04_BpolyLaws.strV Try.underlying22 Try.underlying5 Try.underlying9 HO378.out | exact casematelaw04_BpolyLaws.strV Try.underlying22 Try.underlying5 Try.underlying9 (Kd.V_step HO378.out (fun _ _ _ => rfl))) (fun hHeld => ?_)
         clear hK K
         refine uN (some 66) _ ?_
         refine one_ (i := 8) (N := some 67) #[true, true, true, true, true, true, true, true, true, false, false, false, false, false, false, false, false, false, false, false, false, false, false, false, false, false, false, false, false, false, false, false, false, false, false, false, false, false, false, false, false, false, false, false, false, false] rfl rfl (one_of HT_.out (by kernel_rfl)) (by decide) (fun K hK => ?_)
         have hcv34 := casematelaw04_BpolyLaws.strV Try.underlying22 Try.underlying5 Try.underlying9 HO387.out
         refine value_ (w1 := ?_) (v := ?_) (by rfl) rfl ?_ ?_
         rotate_left 2
         ·go_simp
          constructor
          ·rfl
          ·rfl
         clear hcv34
         refine hK.out _ _ (by first | exact casematelaw04_BpolyLaws.strV Try.underlying22 Try.underlying5 Try.underlying9 HO378.out | exact casematelaw04_BpolyLaws.strV Try.underlying22 Try.underlying5 Try.underlying9 (Kd.V_step HO378.out (fun _ _ _ => rfl))) (fun hHeld => ?_)
         clear hK K
         refine uN (some 67) _ ?_
         refine uP HT_ 9 (some 68) (lb 46 1023) ?_
         refine uP HT_ 10 (some 69) (lb 46 2047) ?_
         refine uP HT_ 11 (some 70) (lb 46 4095) ?_
         refine uP HT_ 12 (some 71) (lb 46 8191) ?_
         refine uP HT_ 13 (some 72) (lb 46 16383) ?_
         refine uP HT_ 16 (some 75) (lb 46 81919) ?_
         refine uP HT_ 17 (some 76) (lb 46 212991) ?_
         refine uP HT_ 18 (some 77) (lb 46 475135) ?_
         refine one_ (i := 14) (N := some 73) #[true, true, true, true, true, true, true, true, true, true, true, true, true, true, true, false, true, true, true, false, false, false, false, false, false, false, false, false, false, false, false, false, false, false, false, false, false, false, false, false, false, false, false, false, false, false] rfl rfl (one_of HT_.out (by kernel_rfl)) (by decide) (fun K hK => ?_)
         refine goes_ Try.func21 (by kernel_rfl) rfl #[.slice Ao17 t376.length co17, .slice A2 l2.length c2] (by rfl) rfl rfl (by (try simp only [List.map_toArray, List.map_cons, List.map_nil]); first | done | rfl | (simp only [List.length_drop, List.length_take]; rfl)) ?_
         with_reducible refine (bpoly_Mul.calls kj4 _ _ t376 _ _ l2 t388 _ ?side1 ?side2 ?side3 ?side4 A21.out).mono ?_
         (case side1 => exact uC (Kd.V_reads' HO378.out).2.2)
         (case side2 => exact (Kd.V_reads' HO378.out).2.1)
         (case side3 => exact uC (Kd.C_below HR2.out HB.out))
         (case side4 => exact HC2.out)
         rintro e w35 ⟨v389, rfl, ho0, hb⟩
         refine ⟨_, rfl, ?_⟩
         replace HO378 := uVb HO378 hb; replace HO387 := uVb HO387 hb; have HO390 := uA (Kd.V_lower (Kd.V_mono (ok' := fun k_ => True) ho0 (fun k_ hk_ => trivial)) (below_size (uB HB.out))); replace HB := uBb HB hb
         refine hK.out _ _ (by first | exact casematelaw04_BpolyLaws.strV Try.underlying22 Try.underlying5 Try.underlying9 HO378.out | exact casematelaw04_BpolyLaws.strV Try.underlying22 Try.underlying5 Try.underlying9 (Kd.V_step HO378.out (fun _ _ _ => rfl))) (fun hHeld => ?_)
         clear hK K
         refine uN (some 73) _ ?_
         refine join_ (σ := Value × Value × Value × Value × Value × Value) 9 #[true, true, true, true, true, true, true, true, true, true, true, true, true, true, true, true, true, true, true, true, true, true, true, true, true, true, true, true, true, true, true, true, true, true, true, true, true, false, false, false, false, false, false, false, false, false] (fun s_ => [(74, .string (strOfNums t388)), (78, s_.1), (79, s_.2.1), (80, .string (strOfNums t394)), (87, s_.2.2.1), (88, s_.2.2.2.1), (89, .string (strOfNums t400)), (93, s_.2.2.2.2.1), (94, s_.2.2.2.2.2), (95, .string (strOfNums t406)), (81, .bool false), (82, .bool false), (83, .bool false), (84, .slice A0 l0.length c0), (85, .slice A1 l1.length c1), (86, .slice A2 l2.length c2), (90, .slice Ao17 t376.length co17), (91, .slice A0 l0.length c0), (92, .slice A2 l2.length c2)]) (fun s_ w' => (Kd.V (Kd.int .u8) 5 w' w.heap.size (fun _ => True) (.slice Ao17 t376.length co17) t376) ∧ (Kd.V (Kd.int .u8) 5 w' w.heap.size (fun _ => True) v386 t385) ∧ (Kd.V (Kd.int .u8) 5 w' w.heap.size (fun _ => True) v389 t388) ∧ (Kd.V (Kd.int .u8) 5 w' w.heap.size (fun _ => True) s_.1 t391) ∧ (Kd.V (Kd.int .u8) 5 w' w.heap.size (fun _ => True) s_.2.1 t394) ∧ (Kd.V (Kd.int .u8) 5 w' w.heap.size (fun _ => True) s_.2.2.1 t397) ∧ (Kd.V (Kd.int .u8) 5 w' w.heap.size (fun _ => True) s_.2.2.2.1 t400) ∧ (Kd.V (Kd.int .u8) 5 w' w.heap.size (fun _ => True) s_.2.2.2.2.1 t403) ∧ (Kd.V (Kd.int .u8) 5 w' w.heap.size (fun _ => True) s_.2.2.2.2.2 t406) ∧ (Below w.heap.size w w')) ?_ ?_
         rotate_left
         ·intro hJ15_19_20_21_28_29_30_34_35_36
          refine join_ (σ := Value × Value × Value × Value × Value × Value) 10 #[true, true, true, true, true, true, true, true, true, true, true, true, true, true, true, true, true, true, true, true, true, true, true, true, true, true, true, true, true, true, true, true, true, true, true, true, false, false, false, false, false, false, false, false, false, false] (fun s_ => [(74, .string (strOfNums t388)), (78, s_.1), (79, s_.2.1), (80, .string (strOfNums t394)), (87, s_.2.2.1), (88, s_.2.2.2.1), (89, .string (strOfNums t400)), (93, s_.2.2.2.2.1), (94, s_.2.2.2.2.2), (81, .bool false), (82, .bool false), (83, .bool false), (84, .slice A0 l0.length c0), (85, .slice A1 l1.length c1), (86, .slice A2 l2.length c2), (90, .slice Ao17 t376.length co17), (91, .slice A0 l0.length c0), (92, .slice A2 l2.length c2)]) (fun s_ w' => (Kd.V (Kd.int .u8) 5 w' w.heap.size (fun _ => True) (.slice Ao17 t376.length co17) t376) ∧ (Kd.V (Kd.int .u8) 5 w' w.heap.size (fun _ => True) v386 t385) ∧ (Kd.V (Kd.int .u8) 5 w' w.heap.size (fun _ => True) v389 t388) ∧ (Kd.V (Kd.int .u8) 5 w' w.heap.size (fun _ => True) s_.1 t391) ∧ (Kd.V (Kd.int .u8) 5 w' w.heap.size (fun _ => True) s_.2.1 t394) ∧ (Kd.V (Kd.int .u8) 5 w' w.heap.size (fun _ => True) s_.2.2.1 t397) ∧ (Kd.V (Kd.int .u8) 5 w' w.heap.size (fun _ => True) s_.2.2.2.1 t400) ∧ (Kd.V (Kd.int .u8) 5 w' w.heap.size (fun _ => True) s_.2.2.2.2.1 t403) ∧ (Kd.V (Kd.int .u8) 5 w' w.heap.size (fun _ => True) s_.2.2.2.2.2 t406) ∧ (Below w.heap.size w w')) ?_ ?_
          rotate_left
          ·intro hJ15_19_20_21_28_29_30_34_35
           refine join_ (σ := Value × Value × Value × Value × Value × Value) 10 #[true, true, true, true, true, true, true, true, true, true, true, true, true, true, true, true, true, true, true, true, true, true, true, true, true, true, true, true, true, true, false, true, true, true, true, true, true, false, false, false, false, false, false, false, false, false] (fun s_ => [(74, .string (strOfNums t388)), (78, s_.1), (79, s_.2.1), (80, .string (strOfNums t394)), (87, s_.2.2.1), (88, s_.2.2.2.1), (93, s_.2.2.2.2.1), (94, s_.2.2.2.2.2), (95, .string (strOfNums t406)), (81, .bool false), (82, .bool false), (83, .bool false), (84, .slice A0 l0.length c0), (85, .slice A1 l1.length c1), (86, .slice A2 l2.length c2), (90, .slice Ao17 t376.length co17), (91, .slice A0 l0.length c0), (92, .slice A2 l2.length c2)]) (fun s_ w' => (Kd.V (Kd.int .u8) 5 w' w.heap.size (fun _ => True) (.slice Ao17 t376.length co17) t376) ∧ (Kd.V (Kd.int .u8) 5 w' w.heap.size (fun _ => True) v386 t385) ∧ (Kd.V (Kd.int .u8) 5 w' w.heap.size (fun _ => True) v389 t388) ∧ (Kd.V (Kd.int .u8) 5 w' w.heap.size (fun _ => True) s_.1 t391) ∧ (Kd.V (Kd.int .u8) 5 w' w.heap.size (fun _ => True) s_.2.1 t394) ∧ (Kd.V (Kd.int .u8) 5 w' w.heap.size (fun _ => True) s_.2.2.1 t397) ∧ (Kd.V (Kd.int .u8) 5 w' w.heap.size (fun _ => True) s_.2.2.2.1 t400) ∧ (Kd.V (Kd.int .u8) 5 w' w.heap.size (fun _ => True) s_.2.2.2.2.1 t403) ∧ (Kd.V (Kd.int .u8) 5 w' w.heap.size (fun _ => True) s_.2.2.2.2.2 t406) ∧ (Below w.heap.size w w')) ?_ ?_
           rotate_left
           ·intro hJ15_19_20_21_28_29_34_35_36
            refine join_ (σ := Value × Value × Value × Value × Value) 11 #[true, true, true, true, true, true, true, true, true, true, true, true, true, true, true, true, true, true, true, true, true, true, true, true, true, true, true, true, true, true, true, true, true, true, true, false, false, false, false, false, false, false, false, false, false, false] (fun s_ => [(74, .string (strOfNums t388)), (78, s_.1), (79, s_.2.1), (80, .string (strOfNums t394)), (87, s_.2.2.1), (88, s_.2.2.2.1), (89, .string (strOfNums t400)), (93, s_.2.2.2.2), (81, .bool false), (82, .bool false), (83, .bool false), (84, .slice A0 l0.length c0), (85, .slice A1 l1.length c1), (86, .slice A2 l2.length c2), (90, .slice Ao17 t376.length co17), (91, .slice A0 l0.length c0), (92, .slice A2 l2.length c2)]) (fun s_ w' => (Kd.V (Kd.int .u8) 5 w' w.heap.size (fun _ => True) (.slice Ao17 t376.length co17) t376) ∧ (Kd.V (Kd.int .u8) 5 w' w.heap.size (fun _ => True) v386 t385) ∧ (Kd.V (Kd.int .u8) 5 w' w.heap.size (fun _ => True) v389 t388) ∧ (Kd.V (Kd.int .u8) 5 w' w.heap.size (fun _ => True) s_.1 t391) ∧ (Kd.V (Kd.int .u8) 5 w' w.heap.size (fun _ => True) s_.2.1 t394) ∧ (Kd.V (Kd.int .u8) 5 w' w.heap.size (fun _ => True) s_.2.2.1 t397) ∧ (Kd.V (Kd.int .u8) 5 w' w.heap.size (fun _ => True) s_.2.2.2.1 t400) ∧ (Kd.V (Kd.int .u8) 5 w' w.heap.size (fun _ => True) s_.2.2.2.2 t403) ∧ (Below w.heap.size w w')) ?_ ?_
            rotate_left
            ·intro hJ15_19_20_21_28_29_30_34
             refine join_ (σ := Value × Value × Value × Value × Value × Value) 11 #[true, true, true, true, true, true, true, true, true, true, true, true, true, true, true, true, true, true, true, true, true, true, true, true, true, true, true, true, true, true, false, true, true, true, true, true, false, false, false, false, false, false, false, false, false, false] (fun s_ => [(74, .string (strOfNums t388)), (78, s_.1), (79, s_.2.1), (80, .string (strOfNums t394)), (87, s_.2.2.1), (88, s_.2.2.2.1), (93, s_.2.2.2.2.1), (94, s_.2.2.2.2.2), (81, .bool false), (82, .bool false), (83, .bool false), (84, .slice A0 l0.length c0), (85, .slice A1 l1.length c1), (86, .slice A2 l2.length c2), (90, .slice Ao17 t376.length co17), (91, .slice A0 l0.length c0), (92, .slice A2 l2.length c2)]) (fun s_ w' => (Kd.V (Kd.int .u8) 5 w' w.heap.size (fun _ => True) (.slice Ao17 t376.length co17) t376) ∧ (Kd.V (Kd.int .u8) 5 w' w.heap.size (fun _ => True) v386 t385) ∧ (Kd.V (Kd.int .u8) 5 w' w.heap.size (fun _ => True) v389 t388) ∧ (Kd.V (Kd.int .u8) 5 w' w.heap.size (fun _ => True) s_.1 t391) ∧ (Kd.V (Kd.int .u8) 5 w' w.heap.size (fun _ => True) s_.2.1 t394) ∧ (Kd.V (Kd.int .u8) 5 w' w.heap.size (fun _ => True) s_.2.2.1 t397) ∧ (Kd.V (Kd.int .u8) 5 w' w.heap.size (fun _ => True) s_.2.2.2.1 t400) ∧ (Kd.V (Kd.int .u8) 5 w' w.heap.size (fun _ => True) s_.2.2.2.2.1 t403) ∧ (Kd.V (Kd.int .u8) 5 w' w.heap.size (fun _ => True) s_.2.2.2.2.2 t406) ∧ (Below w.heap.size w w')) ?_ ?_
             rotate_left
             ·intro hJ15_19_20_21_28_29_34_35
              refine join_ (σ := Value × Value × Value × Value) 12 #[true, true, true, true, true, true, true, true, true, true, true, true, true, true, true, true, true, true, true, true, true, true, true, true, true, true, true, true, true, true, true, true, true, true, false, false, false, false, false, false, false, false, false, false, false, false] (fun s_ => [(74, .string (strOfNums t388)), (78, s_.1), (79, s_.2.1), (80, .string (strOfNums t394)), (87, s_.2.2.1), (88, s_.2.2.2), (89, .string (strOfNums t400)), (81, .bool false), (82, .bool false), (83, .bool false), (84, .slice A0 l0.length c0), (85, .slice A1 l1.length c1), (86, .slice A2 l2.length c2), (90, .slice Ao17 t376.length co17), (91, .slice A0 l0.length c0), (92, .slice A2 l2.length c2)]) (fun s_ w' => (Kd.V (Kd.int .u8) 5 w' w.heap.size (fun _ => True) (.slice Ao17 t376.length co17) t376) ∧ (Kd.V (Kd.int .u8) 5 w' w.heap.size (fun _ => True) v386 t385) ∧ (Kd.V (Kd.int .u8) 5 w' w.heap.size (fun _ => True) v389 t388) ∧ (Kd.V (Kd.int .u8) 5 w' w.heap.size (fun _ => True) s_.1 t391) ∧ (Kd.V (Kd.int .u8) 5 w' w.heap.size (fun _ => True) s_.2.1 t394) ∧ (Kd.V (Kd.int .u8) 5 w' w.heap.size (fun _ => True) s_.2.2.1 t397) ∧ (Kd.V (Kd.int .u8) 5 w' w.heap.size (fun _ => True) s_.2.2.2 t400) ∧ (Below w.heap.size w w')) ?_ ?_
              rotate_left
              ·intro hJ15_19_20_21_28_29_30
               refine join_ (σ := Value × Value × Value × Value × Value) 12 #[true, true, true, true, true, true, true, true, true, true, true, true, true, true, true, true, true, true, true, true, true, true, true, true, true, true, true, true, true, true, false, true, true, true, true, false, false, false, false, false, false, false, false, false, false, false] (fun s_ => [(74, .string (strOfNums t388)), (78, s_.1), (79, s_.2.1), (80, .string (strOfNums t394)), (87, s_.2.2.1), (88, s_.2.2.2.1), (93, s_.2.2.2.2), (81, .bool false), (82, .bool false), (83, .bool false), (84, .slice A0 l0.length c0), (85, .slice A1 l1.length c1), (86, .slice A2 l2.length c2), (90, .slice Ao17 t376.length co17), (91, .slice A0 l0.length c0), (92, .slice A2 l2.length c2)]) (fun s_ w' => (Kd.V (Kd.int .u8) 5 w' w.heap.size (fun _ => True) (.slice Ao17 t376.length co17) t376) ∧ (Kd.V (Kd.int .u8) 5 w' w.heap.size (fun _ => True) v386 t385) ∧ (Kd.V (Kd.int .u8) 5 w' w.heap.size (fun _ => True) v389 t388) ∧ (Kd.V (Kd.int .u8) 5 w' w.heap.size (fun _ => True) s_.1 t391) ∧ (Kd.V (Kd.int .u8) 5 w' w.heap.size (fun _ => True) s_.2.1 t394) ∧ (Kd.V (Kd.int .u8) 5 w' w.heap.size (fun _ => True) s_.2.2.1 t397) ∧ (Kd.V (Kd.int .u8) 5 w' w.heap.size (fun _ => True) s_.2.2.2.1 t400) ∧ (Kd.V (Kd.int .u8) 5 w' w.heap.size (fun _ => True) s_.2.2.2.2 t403) ∧ (Below w.heap.size w w')) ?_ ?_
               rotate_left
               ·intro hJ15_19_20_21_28_29_34
                refine join_ (σ := Value × Value × Value × Value) 13 #[true, true, true, true, true, true, true, true, true, true, true, true, true, true, true, true, true, true, true, true, true, true, true, true, true, true, true, true, true, true, false, true, true, true, false, false, false, false, false, false, false, false, false, false, false, false] (fun s_ => [(74, .string (strOfNums t388)), (78, s_.1), (79, s_.2.1), (80, .string (strOfNums t394)), (87, s_.2.2.1), (88, s_.2.2.2), (81, .bool false), (82, .bool false), (83, .bool false), (84, .slice A0 l0.length c0), (85, .slice A1 l1.length c1), (86, .slice A2 l2.length c2), (90, .slice Ao17 t376.length co17), (91, .slice A0 l0.length c0), (92, .slice A2 l2.length c2)]) (fun s_ w' => (Kd.V (Kd.int .u8) 5 w' w.heap.size (fun _ => True) (.slice Ao17 t376.length co17) t376) ∧ (Kd.V (Kd.int .u8) 5 w' w.heap.size (fun _ => True) v386 t385) ∧ (Kd.V (Kd.int .u8) 5 w' w.heap.size (fun _ => True) v389 t388) ∧ (Kd.V (Kd.int .u8) 5 w' w.heap.size (fun _ => True) s_.1 t391) ∧ (Kd.V (Kd.int .u8) 5 w' w.heap.size (fun _ => True) s_.2.1 t394) ∧ (Kd.V (Kd.int .u8) 5 w' w.heap.size (fun _ => True) s_.2.2.1 t397) ∧ (Kd.V (Kd.int .u8) 5 w' w.heap.size (fun _ => True) s_.2.2.2 t400) ∧ (Below w.heap.size w w')) ?_ ?_
                rotate_left
                ·intro hJ15_19_20_21_28_29
                 refine join_ (σ := Value × Value × Value) 14 #[true, true, true, true, true, true, true, true, true, true, true, true, true, true, true, true, true, true, true, true, true, true, true, true, true, true, true, true, true, false, false, true, true, true, false, false, false, false, false, false, false, false, false, false, false, false] (fun s_ => [(74, .string (strOfNums t388)), (78, s_.1), (79, s_.2.1), (80, .string (strOfNums t394)), (87, s_.2.2), (81, .bool false), (82, .bool false), (83, .bool false), (84, .slice A0 l0.length c0), (85, .slice A1 l1.length c1), (86, .slice A2 l2.length c2), (90, .slice Ao17 t376.length co17), (91, .slice A0 l0.length c0), (92, .slice A2 l2.length c2)]) (fun s_ w' => (Kd.V (Kd.int .u8) 5 w' w.heap.size (fun _ => True) (.slice Ao17 t376.length co17) t376) ∧ (Kd.V (Kd.int .u8) 5 w' w.heap.size (fun _ => True) v386 t385) ∧ (Kd.V (Kd.int .u8) 5 w' w.heap.size (fun _ => True) v389 t388) ∧ (Kd.V (Kd.int .u8) 5 w' w.heap.size (fun _ => True) s_.1 t391) ∧ (Kd.V (Kd.int .u8) 5 w' w.heap.size (fun _ => True) s_.2.1 t394) ∧ (Kd.V (Kd.int .u8) 5 w' w.heap.size (fun _ => True) s_.2.2 t397) ∧ (Below w.heap.size w w')) ?_ ?_
                 rotate_left
                 ·intro hJ15_19_20_21_28
                  refine join_ (σ := Value × Value) 15 #[true, true, true, true, true, true, true, true, true, true, true, true, true, true, true, true, true, true, true, true, true, true, true, true, true, true, true, true, false, false, false, true, true, true, false, false, false, false, false, false, false, false, false, false, false, false] (fun s_ => [(74, .string (strOfNums t388)), (78, s_.1), (79, s_.2), (80, .string (strOfNums t394)), (81, .bool false), (82, .bool false), (83, .bool false), (84, .slice A0 l0.length c0), (85, .slice A1 l1.length c1), (86, .slice A2 l2.length c2), (90, .slice Ao17 t376.length co17), (91, .slice A0 l0.length c0), (92, .slice A2 l2.length c2)]) (fun s_ w' => (Kd.V (Kd.int .u8) 5 w' w.heap.size (fun _ => True) (.slice Ao17 t376.length co17) t376) ∧ (Kd.V (Kd.int .u8) 5 w' w.heap.size (fun _ => True) v386 t385) ∧ (Kd.V (Kd.int .u8) 5 w' w.heap.size (fun _ => True) v389 t388) ∧ (Kd.V (Kd.int .u8) 5 w' w.heap.size (fun _ => True) s_.1 t391) ∧ (Kd.V (Kd.int .u8) 5 w' w.heap.size (fun _ => True) s_.2 t394) ∧ (Below w.heap.size w w')) ?_ ?_
                  rotate_left
                  ·intro hJ15_19_20_21
                   refine join_ (σ := Value × Value) 25 #[true, true, true, true, true, true, true, true, true, true, true, true, true, true, true, true, true, true, true, true, true, false, false, false, false, false, false, false, false, false, false, false, false, false, false, false, false, false, false, false, false, false, false, false, false, false] (fun s_ => [(74, .string (strOfNums t388)), (78, s_.1), (79, s_.2)]) (fun s_ w' => (Kd.V (Kd.int .u8) 5 w' w.heap.size (fun _ => True) (.slice Ao17 t376.length co17) t376) ∧ (Kd.V (Kd.int .u8) 5 w' w.heap.size (fun _ => True) v386 t385) ∧ (Kd.V (Kd.int .u8) 5 w' w.heap.size (fun _ => True) v389 t388) ∧ (Kd.V (Kd.int .u8) 5 w' w.heap.size (fun _ => True) s_.1 t391) ∧ (Kd.V (Kd.int .u8) 5 w' w.heap.size (fun _ => True) s_.2 t394) ∧ (Below w.heap.size w w')) ?_ ?_
                   rotate_left
                   ·intro hJ15_19_20
                    refine join_ (σ := Value × Value) 25 #[true, true, true, true, true, true, true, true, true, true, true, true, true, true, true, false, true, true, true, true, true, true, false, false, false, false, false, false, false, false, false, false, false, false, false, false, false, false, false, false, false, false, false, false, false, false] (fun s_ => [(78, s_.1), (79, s_.2), (80, .string (strOfNums t394))]) (fun s_ w' => (Kd.V (Kd.int .u8) 5 w' w.heap.size (fun _ => True) (.slice Ao17 t376.length co17) t376) ∧ (Kd.V (Kd.int .u8) 5 w' w.heap.size (fun _ => True) v386 t385) ∧ (Kd.V (Kd.int .u8) 5 w' w.heap.size (fun _ => True) v389 t388) ∧ (Kd.V (Kd.int .u8) 5 w' w.heap.size (fun _ => True) s_.1 t391) ∧ (Kd.V (Kd.int .u8) 5 w' w.heap.size (fun _ => True) s_.2 t394) ∧ (Below w.heap.size w w')) ?_ ?_
                    rotate_left
                    ·intro hJ19_20_21
                     refine join_ (σ := Value) 26 #[true, true, true, true, true, true, true, true, true, true, true, true, true, true, true, true, true, true, true, true, false, false, false, false, false, false, false, false, false, false, false, false, false, false, false, false, false, false, false, false, false, false, false, false, false, false] (fun s_ => [(74, .string (strOfNums t388)), (78, s_)]) (fun s_ w' => (Kd.V (Kd.int .u8) 5 w' w.heap.size (fun _ => True) (.slice Ao17 t376.length co17) t376) ∧ (Kd.V (Kd.int .u8) 5 w' w.heap.size (fun _ => True) v386 t385) ∧ (Kd.V (Kd.int .u8) 5 w' w.heap.size (fun _ => True) v389 t388) ∧ (Kd.V (Kd.int .u8) 5 w' w.heap.size (fun _ => True) s_ t391) ∧ (Below w.heap.size w w')) ?_ ?_
                     rotate_left
                     ·intro hJ15_19
                      refine join_ (σ := Value × Value) 26 #[true, true, true, true, true, true, true, true, true, true, true, true, true, true, true, false, true, true, true, true, true, false, false, false, false, false, false, false, false, false, false, false, false, false, false, false, false, false, false, false, false, false, false, false, false, false] (fun s_ => [(78, s_.1), (79, s_.2)]) (fun s_ w' => (Kd.V (Kd.int .u8) 5 w' w.heap.size (fun _ => True) (.slice Ao17 t376.length co17) t376) ∧ (Kd.V (Kd.int .u8) 5 w' w.heap.size (fun _ => True) v386 t385) ∧ (Kd.V (Kd.int .u8) 5 w' w.heap.size (fun _ => True) v389 t388) ∧ (Kd.V (Kd.int .u8) 5 w' w.heap.size (fun _ => True) s_.1 t391) ∧ (Kd.V (Kd.int .u8) 5 w' w.heap.size (fun _ => True) s_.2 t394) ∧ (Below w.heap.size w w')) ?_ ?_
                      rotate_left
                      ·intro hJ19_20
                       refine join_ (σ := Unit) 27 #[true, true, true, true, true, true, true, true, true, true, true, true, true, true, true, true, true, true, true, false, false, false, false, false, false, false, false, false, false, false, false, false, false, false, false, false, false, false, false, false, false, false, false, false, false, false] (fun s_ => [(74, .string (strOfNums t388))]) (fun s_ w' => (Kd.V (Kd.int .u8) 5 w' w.heap.size (fun _ => True) (.slice Ao17 t376.length co17) t376) ∧ (Kd.V (Kd.int .u8) 5 w' w.heap.size (fun _ => True) v386 t385) ∧ (Kd.V (Kd.int .u8) 5 w' w.heap.size (fun _ => True) v389 t388) ∧ (Below w.heap.size w w')) ?_ ?_
                       rotate_left
                       ·intro hJ15
                        refine join_ (σ := Value) 27 #[true, true, true, true, true, true, true, true, true, true, true, true, true, true, true, false, true, true, true, true, false, false, false, false, false, false, false, false, false, false, false, false, false, false, false, false, false, false, false, false, false, false, false, false, false, false] (fun s_ => [(78, s_)]) (fun s_ w' => (Kd.V (Kd.int .u8) 5 w' w.heap.size (fun _ => True) (.slice Ao17 t376.length co17) t376) ∧ (Kd.V (Kd.int .u8) 5 w' w.heap.size (fun _ => True) v386 t385) ∧ (Kd.V (Kd.int .u8) 5 w' w.heap.size (fun _ => True) v389 t388) ∧ (Kd.V (Kd.int .u8) 5 w' w.heap.size (fun _ => True) s_ t391) ∧ (Below w.heap.size w w')) ?_ ?_
                        rotate_left
                        ·intro hJ19
                         refine two_ (i := 15) (j := 19) (Ni := some 74) (Nj := some 78) #[true, true, true, true, true, true, true, true, true, true, true, true, true, true, true, true, true, true, true, false, false, false, false, false, false, false, false, false, false, false, false, false, false, false, false, false, false, false, false, false, false, false, false, false, false, false] #[true, true, true, true, true, true, true, true, true, true, true, true, true, true, true, false, true, true, true, true, false, false, false, false, false, false, false, false, false, false, false, false, false, false, false, false, false, false, false, false, false, false, false, false, false, false] rfl rfl rfl rfl (two_of HT_.out (by kernel_rfl)) (by decide) (by decide) (fun K hK => ?_) (fun K hK => ?_)
                         ·skip
                          have hcv36 := casematelaw04_BpolyLaws.strV Try.underlying22 Try.underlying5 Try.underlying9 HO390.out
                          refine value_ (w1 := ?_) (v := ?_) (by rfl) rfl ?_ ?_
                          rotate_left 2
                          ·go_simp
                           constructor
                           ·rfl
                           ·rfl
                          clear hcv36
                          refine hK.out _ _ (by first | exact casematelaw04_BpolyLaws.strV Try.underlying22 Try.underlying5 Try.underlying9 HO378.out | exact casematelaw04_BpolyLaws.strV Try.underlying22 Try.underlying5 Try.underlying9 (Kd.V_step HO378.out (fun _ _ _ => rfl))) (fun hHeld => ?_)
                          clear hK K
                          refine uN (some 74) _ ?_
                          exact norm_ (by first | (simp only [putAll, Act.put, List.setIfInBounds_toArray, List.set_cons_zero, List.set_cons_succ]; done) | (simp only [putAll, Act.put, List.setIfInBounds_toArray, List.set_cons_zero, List.set_cons_succ]; rfl)) (hJ15 () _ ⟨(uV HO378.out), (uV HO387.out), (uV HO390.out), (uB HB.out)⟩)
                         ·skip
                          refine goes_ Try.func21 (by kernel_rfl) rfl #[.slice A1 l1.length c1, .slice A2 l2.length c2] (by rfl) rfl rfl (by (try simp only [List.map_toArray, List.map_cons, List.map_nil]); first | done | rfl | (simp only [List.length_drop, List.length_take]; rfl)) ?_
                          with_reducible refine (bpoly_Mul.calls kj4 _ _ l1 _ _ l2 t391 _ ?side1 ?side2 ?side3 ?side4 A22.out).mono ?_
                          (case side1 => exact uC (Kd.C_below HR1.out HB.out))
                          (case side2 => exact HC1.out)
                          (case side3 => exact uC (Kd.C_below HR2.out HB.out))
                          (case side4 => exact HC2.out)
                          rintro e w36 ⟨v392, rfl, ho0, hb⟩
                          refine ⟨_, rfl, ?_⟩
                          replace HO378 := uVb HO378 hb; replace HO387 := uVb HO387 hb; replace HO390 := uVb HO390 hb; have HO393 := uA (Kd.V_lower (Kd.V_mono (ok' := fun k_ => True) ho0 (fun k_ hk_ => trivial)) (below_size (uB HB.out))); replace HB := uBb HB hb
                          refine hK.out _ _ (by first | exact casematelaw04_BpolyLaws.strV Try.underlying22 Try.underlying5 Try.underlying9 HO378.out | exact casematelaw04_BpolyLaws.strV Try.underlying22 Try.underlying5 Try.underlying9 (Kd.V_step HO378.out (fun _ _ _ => rfl))) (fun hHeld => ?_)
                          clear hK K
                          refine uN (some 78) _ ?_
                          exact norm_ (by first | (simp only [putAll, Act.put, List.setIfInBounds_toArray, List.set_cons_zero, List.set_cons_succ]; done) | (simp only [putAll, Act.put, List.setIfInBounds_toArray, List.set_cons_zero, List.set_cons_succ]; rfl)) (hJ19 (v392) _ ⟨(uV HO378.out), (uV HO387.out), (uV HO390.out), (uV HO393.out), (uB HB.out)⟩)
                        ·skip
                         rintro v392 w37 ⟨h0_, h1_, h2_, h3_, h4_⟩
                         have n0_ : Aside0 (Kd.V (Kd.int .u8) 5 w37 w.heap.size (fun _ => True) (.slice Ao17 t376.length co17) t376) := ⟨h0_⟩
                         have n1_ : Aside0 (Kd.V (Kd.int .u8) 5 w37 w.heap.size (fun _ => True) v386 t385) := ⟨h1_⟩
                         have n2_ : Aside0 (Kd.V (Kd.int .u8) 5 w37 w.heap.size (fun _ => True) v389 t388) := ⟨h2_⟩
                         have n3_ : Aside0 (Kd.V (Kd.int .u8) 5 w37 w.heap.size (fun _ => True) v392 t391) := ⟨h3_⟩
                         have n4_ : Aside0 (Below w.heap.size w w37) := ⟨h4_⟩
                         clear HO378
                         clear HB
                         clear h0_ h1_ h2_ h3_ h4_
                         have HO378 := n0_
                         have HO387 := n1_
                         have HO390 := n2_
                         have HO393 := n3_
                         have HB := n4_
                         clear n0_ n1_ n2_ n3_ n4_
                         have hHeld := (by first | exact casematelaw04_BpolyLaws.strV Try.underlying22 Try.underlying5 Try.underlying9 HO378.out | exact casematelaw04_BpolyLaws.strV Try.underlying22 Try.underlying5 Try.underlying9 (Kd.V_step HO378.out (fun _ _ _ => rfl)))
                         refine norm_ (a' := ?_) ?_ ?_
                         rotate_left; (simp only [putAll, Act.put, List.setIfInBounds_toArray, List.set_cons_zero, List.set_cons_succ]; rfl)
                         refine two_ (i := 15) (j := 20) (Ni := some 74) (Nj := some 79) #[true, true, true, true, true, true, true, true, true, true, true, true, true, true, true, true, true, true, true, true, false, false, false, false, false, false, false, false, false, false, false, false, false, false, false, false, false, false, false, false, false, false, false, false, false, false] #[true, true, true, true, true, true, true, true, true, true, true, true, true, true, true, false, true, true, true, true, true, false, false, false, false, false, false, false, false, false, false, false, false, false, false, false, false, false, false, false, false, false, false, false, false, false] rfl rfl rfl rfl (two_of HT_.out (by kernel_rfl)) (by decide) (by decide) (fun K hK => ?_) (fun K hK => ?_)
                         ·skip
                          have hcv38 := casematelaw04_BpolyLaws.strV Try.underlying22 Try.underlying5 Try.underlying9 HO390.out
                          refine value_ (w1 := ?_) (v := ?_) (by rfl) rfl ?_ ?_
                          rotate_left 2
                          ·go_simp
                           constructor
                           ·rfl
                           ·rfl
                          clear hcv38
                          refine hK.out _ _ (by first | exact casematelaw04_BpolyLaws.strV Try.underlying22 Try.underlying5 Try.underlying9 HO378.out | exact casematelaw04_BpolyLaws.strV Try.underlying22 Try.underlying5 Try.underlying9 (Kd.V_step HO378.out (fun _ _ _ => rfl))) (fun hHeld => ?_)
                          clear hK K
                          refine uN (some 74) _ ?_
                          exact norm_ (by first | (simp only [putAll, Act.put, List.setIfInBounds_toArray, List.set_cons_zero, List.set_cons_succ]; done) | (simp only [putAll, Act.put, List.setIfInBounds_toArray, List.set_cons_zero, List.set_cons_succ]; rfl)) (hJ15_19 (v392) _ ⟨(uV HO378.out), (uV HO387.out), (uV HO390.out), (uV HO393.out), (uB HB.out)⟩)
                         ·skip
                          obtain ⟨Ao38, co38, eo38⟩ := Kd.V_slice HO393.out
                          subst eo38
                          refine goes_ Try.func21 (by kernel_rfl) rfl #[.slice A0 l0.length c0, .slice Ao38 t391.length co38] (by rfl) rfl rfl (by (try simp only [List.map_toArray, List.map_cons, List.map_nil]); first | done | rfl | (simp only [List.length_drop, List.length_take]; rfl)) ?_
                          with_reducible refine (bpoly_Mul.calls kj4 _ _ l0 _ _ t391 t394 _ ?side1 ?side2 ?side3 ?side4 A23.out).mono ?_
                          (case side1 => exact uC (Kd.C_below HR0.out HB.out))
                          (case side2 => exact HC0.out)
                          (case side3 => exact uC (Kd.V_reads' HO393.out).2.2)
                          (case side4 => exact (Kd.V_reads' HO393.out).2.1)
                          rintro e w39 ⟨v395, rfl, ho0, hb⟩
                          refine ⟨_, rfl, ?_⟩
                          replace HO378 := uVb HO378 hb; replace HO387 := uVb HO387 hb; replace HO390 := uVb HO390 hb; replace HO393 := uVb HO393 hb; have HO396 := uA (Kd.V_lower (Kd.V_mono (ok' := fun k_ => True) ho0 (fun k_ hk_ => trivial)) (below_size (uB HB.out))); replace HB := uBb HB hb
                          refine hK.out _ _ (by first | exact casematelaw04_BpolyLaws.strV Try.underlying22 Try.underlying5 Try.underlying9 HO378.out | exact casematelaw04_BpolyLaws.strV Try.underlying22 Try.underlying5 Try.underlying9 (Kd.V_step HO378.out (fun _ _ _ => rfl))) (fun hHeld => ?_)
                          clear hK K
                          refine uN (some 79) _ ?_
                          exact norm_ (by first | (simp only [putAll, Act.put, List.setIfInBounds_toArray, List.set_cons_zero, List.set_cons_succ]; done) | (simp only [putAll, Act.put, List.setIfInBounds_toArray, List.set_cons_zero, List.set_cons_succ]; rfl)) (hJ19_20 (.slice Ao38 t391.length co38, v395) _ ⟨(uV HO378.out), (uV HO387.out), (uV HO390.out), (uV HO393.out), (uV HO396.out), (uB HB.out)⟩)
                       ·skip
                        rintro _ w37 ⟨h0_, h1_, h2_, h3_⟩
                        have n0_ : Aside0 (Kd.V (Kd.int .u8) 5 w37 w.heap.size (fun _ => True) (.slice Ao17 t376.length co17) t376) := ⟨h0_⟩
                        have n1_ : Aside0 (Kd.V (Kd.int .u8) 5 w37 w.heap.size (fun _ => True) v386 t385) := ⟨h1_⟩
                        have n2_ : Aside0 (Kd.V (Kd.int .u8) 5 w37 w.heap.size (fun _ => True) v389 t388) := ⟨h2_⟩
                        have n3_ : Aside0 (Below w.heap.size w w37) := ⟨h3_⟩
                        clear HO378
                        clear HB
                        clear h0_ h1_ h2_ h3_
                        have HO378 := n0_
                        have HO387 := n1_
                        have HO390 := n2_
                        have HB := n3_
                        clear n0_ n1_ n2_ n3_
                        have hHeld := (by first | exact casematelaw04_BpolyLaws.strV Try.underlying22 Try.underlying5 Try.underlying9 HO378.out | exact casematelaw04_BpolyLaws.strV Try.underlying22 Try.underlying5 Try.underlying9 (Kd.V_step HO378.out (fun _ _ _ => rfl)))
                        refine norm_ (a' := ?_) ?_ ?_
                        rotate_left; (simp only [putAll, Act.put, List.setIfInBounds_toArray, List.set_cons_zero, List.set_cons_succ]; rfl)
                        refine one_ (i := 19) (N := some 78) #[true, true, true, true, true, true, true, true, true, true, true, true, true, true, true, true, true, true, true, true, false, false, false, false, false, false, false, false, false, false, false, false, false, false, false, false, false, false, false, false, false, false, false, false, false, false] rfl rfl (one_of HT_.out (by kernel_rfl)) (by decide) (fun K hK => ?_)
                        refine goes_ Try.func21 (by kernel_rfl) rfl #[.slice A1 l1.length c1, .slice A2 l2.length c2] (by rfl) rfl rfl (by (try simp only [List.map_toArray, List.map_cons, List.map_nil]); first | done | rfl | (simp only [List.length_drop, List.length_take]; rfl)) ?_
                        with_reducible refine (bpoly_Mul.calls kj4 _ _ l1 _ _ l2 t391 _ ?side1 ?side2 ?side3 ?side4 A22.out).mono ?_
                        (case side1 => exact uC (Kd.C_below HR1.out HB.out))
                        (case side2 => exact HC1.out)
                        (case side3 => exact uC (Kd.C_below HR2.out HB.out))
                        (case side4 => exact HC2.out)
                        rintro e w38 ⟨v392, rfl, ho0, hb⟩
                        refine ⟨_, rfl, ?_⟩
                        replace HO378 := uVb HO378 hb; replace HO387 := uVb HO387 hb; replace HO390 := uVb HO390 hb; have HO393 := uA (Kd.V_lower (Kd.V_mono (ok' := fun k_ => True) ho0 (fun k_ hk_ => trivial)) (below_size (uB HB.out))); replace HB := uBb HB hb
                        refine hK.out _ _ (by first | exact casematelaw04_BpolyLaws.strV Try.underlying22 Try.underlying5 Try.underlying9 HO378.out | exact casematelaw04_BpolyLaws.strV Try.underlying22 Try.underlying5 Try.underlying9 (Kd.V_step HO378.out (fun _ _ _ => rfl))) (fun hHeld => ?_)
                        clear hK K
                        refine uN (some 78) _ ?_
                        exact norm_ (by first | (simp only [putAll, Act.put, List.setIfInBounds_toArray, List.set_cons_zero, List.set_cons_succ]; done) | (simp only [putAll, Act.put, List.setIfInBounds_toArray, List.set_cons_zero, List.set_cons_succ]; rfl)) (hJ15_19 (v392) _ ⟨(uV HO378.out), (uV HO387.out), (uV HO390.out), (uV HO393.out), (uB HB.out)⟩)
                      ·skip
                       rintro ⟨v392, v395⟩ w39 ⟨h0_, h1_, h2_, h3_, h4_, h5_⟩
                       have n0_ : Aside0 (Kd.V (Kd.int .u8) 5 w39 w.heap.size (fun _ => True) (.slice Ao17 t376.length co17) t376) := ⟨h0_⟩
                       have n1_ : Aside0 (Kd.V (Kd.int .u8) 5 w39 w.heap.size (fun _ => True) v386 t385) := ⟨h1_⟩
                       have n2_ : Aside0 (Kd.V (Kd.int .u8) 5 w39 w.heap.size (fun _ => True) v389 t388) := ⟨h2_⟩
                       have n3_ : Aside0 (Kd.V (Kd.int .u8) 5 w39 w.heap.size (fun _ => True) v392 t391) := ⟨h3_⟩
                       have n4_ : Aside0 (Kd.V (Kd.int .u8) 5 w39 w.heap.size (fun _ => True) v395 t394) := ⟨h4_⟩
                       have n5_ : Aside0 (Below w.heap.size w w39) := ⟨h5_⟩
                       clear HO378
                       clear HB
                       clear h0_ h1_ h2_ h3_ h4_ h5_
                       have HO378 := n0_
                       have HO387 := n1_
                       have HO390 := n2_
                       have HO393 := n3_
                       have HO396 := n4_
                       have HB := n5_
                       clear n0_ n1_ n2_ n3_ n4_ n5_
                       have hHeld := (by first | exact casematelaw04_BpolyLaws.strV Try.underlying22 Try.underlying5 Try.underlying9 HO378.out | exact casematelaw04_BpolyLaws.strV Try.underlying22 Try.underlying5 Try.underlying9 (Kd.V_step HO378.out (fun _ _ _ => rfl)))
                       refine norm_ (a' := ?_) ?_ ?_
                       rotate_left; (simp only [putAll, Act.put, List.setIfInBounds_toArray, List.set_cons_zero, List.set_cons_succ]; rfl)
                       refine two_ (i := 15) (j := 21) (Ni := some 74) (Nj := some 80) #[true, true, true, true, true, true, true, true, true, true, true, true, true, true, true, true, true, true, true, true, true, false, false, false, false, false, false, false, false, false, false, false, false, false, false, false, false, false, false, false, false, false, false, false, false, false] #[true, true, true, true, true, true, true, true, true, true, true, true, true, true, true, false, true, true, true, true, true, true, false, false, false, false, false, false, false, false, false, false, false, false, false, false, false, false, false, false, false, false, false, false, false, false] rfl rfl rfl rfl (two_of HT_.out (by kernel_rfl)) (by decide) (by decide) (fun K hK => ?_) (fun K hK => ?_)
                       ·skip
                        have hcv40 := casematelaw04_BpolyLaws.strV Try.underlying22 Try.underlying5 Try.underlying9 HO390.out
                        refine value_ (w1 := ?_) (v := ?_) (by rfl) rfl ?_ ?_
                        rotate_left 2
                        ·go_simp
                         constructor
                         ·rfl
                         ·rfl
                        clear hcv40
                        refine hK.out _ _ (by first | exact casematelaw04_BpolyLaws.strV Try.underlying22 Try.underlying5 Try.underlying9 HO378.out | exact casematelaw04_BpolyLaws.strV Try.underlying22 Try.underlying5 Try.underlying9 (Kd.V_step HO378.out (fun _ _ _ => rfl))) (fun hHeld => ?_)
                        clear hK K
                        refine uN (some 74) _ ?_
                        exact norm_ (by first | (simp only [putAll, Act.put, List.setIfInBounds_toArray, List.set_cons_zero, List.set_cons_succ]; done) | (simp only [putAll, Act.put, List.setIfInBounds_toArray, List.set_cons_zero, List.set_cons_succ]; rfl)) (hJ15_19_20 (v392, v395) _ ⟨(uV HO378.out), (uV HO387.out), (uV HO390.out), (uV HO393.out), (uV HO396.out), (uB HB.out)⟩)
                       ·skip
                        have hcv40 := casematelaw04_BpolyLaws.strV Try.underlying22 Try.underlying5 Try.underlying9 HO396.out
                        refine value_ (w1 := ?_) (v := ?_) (by rfl) rfl ?_ ?_
                        rotate_left 2
                        ·go_simp
                         constructor
                         ·rfl
                         ·rfl
                        clear hcv40
                        refine hK.out _ _ (by first | exact casematelaw04_BpolyLaws.strV Try.underlying22 Try.underlying5 Try.underlying9 HO378.out | exact casematelaw04_BpolyLaws.strV Try.underlying22 Try.underlying5 Try.underlying9 (Kd.V_step HO378.out (fun _ _ _ => rfl))) (fun hHeld => ?_)
                        clear hK K
                        refine uN (some 80) _ ?_
                        exact norm_ (by first | (simp only [putAll, Act.put, List.setIfInBounds_toArray, List.set_cons_zero, List.set_cons_succ]; done) | (simp only [putAll, Act.put, List.setIfInBounds_toArray, List.set_cons_zero, List.set_cons_succ]; rfl)) (hJ19_20_21 (v392, v395) _ ⟨(uV HO378.out), (uV HO387.out), (uV HO390.out), (uV HO393.out), (uV HO396.out), (uB HB.out)⟩)
                     ·skip
                      rintro v392 w38 ⟨h0_, h1_, h2_, h3_, h4_⟩
                      have n0_ : Aside0 (Kd.V (Kd.int .u8) 5 w38 w.heap.size (fun _ => True) (.slice Ao17 t376.length co17) t376) := ⟨h0_⟩
                      have n1_ : Aside0 (Kd.V (Kd.int .u8) 5 w38 w.heap.size (fun _ => True) v386 t385) := ⟨h1_⟩
                      have n2_ : Aside0 (Kd.V (Kd.int .u8) 5 w38 w.heap.size (fun _ => True) v389 t388) := ⟨h2_⟩
                      have n3_ : Aside0 (Kd.V (Kd.int .u8) 5 w38 w.heap.size (fun _ => True) v392 t391) := ⟨h3_⟩
                      have n4_ : Aside0 (Below w.heap.size w w38) := ⟨h4_⟩
                      clear HO378
                      clear HB
                      clear h0_ h1_ h2_ h3_ h4_
                      have HO378 := n0_
                      have HO387 := n1_
                      have HO390 := n2_
                      have HO393 := n3_
                      have HB := n4_
                      clear n0_ n1_ n2_ n3_ n4_
                      have hHeld := (by first | exact casematelaw04_BpolyLaws.strV Try.underlying22 Try.underlying5 Try.underlying9 HO378.out | exact casematelaw04_BpolyLaws.strV Try.underlying22 Try.underlying5 Try.underlying9 (Kd.V_step HO378.out (fun _ _ _ => rfl)))
                      obtain ⟨Ao39, co39, eo39⟩ := Kd.V_slice HO393.out
                      (first | subst eo39 | (injection eo39 with f1_ f2_ f3_; have f4_ := f1_.symm; have f5_ := f3_.symm; clear f1_ f2_ f3_; subst f4_; subst f5_))
                      refine norm_ (a' := ?_) ?_ ?_
                      rotate_left; (simp only [putAll, Act.put, List.setIfInBounds_toArray, List.set_cons_zero, List.set_cons_succ]; rfl)
                      refine one_ (i := 20) (N := some 79) #[true, true, true, true, true, true, true, true, true, true, true, true, true, true, true, true, true, true, true, true, true, false, false, false, false, false, false, false, false, false, false, false, false, false, false, false, false, false, false, false, false, false, false, false, false, false] rfl rfl (one_of HT_.out (by kernel_rfl)) (by decide) (fun K hK => ?_)
                      refine goes_ Try.func21 (by kernel_rfl) rfl #[.slice A0 l0.length c0, .slice Ao39 t391.length co39] (by rfl) rfl rfl (by (try simp only [List.map_toArray, List.map_cons, List.map_nil]); first | done | rfl | (simp only [List.length_drop, List.length_take]; rfl)) ?_
                      with_reducible refine (bpoly_Mul.calls kj4 _ _ l0 _ _ t391 t394 _ ?side1 ?side2 ?side3 ?side4 A23.out).mono ?_
                      (case side1 => exact uC (Kd.C_below HR0.out HB.out))
                      (case side2 => exact HC0.out)
                      (case side3 => exact uC (Kd.V_reads' HO393.out).2.2)
                      (case side4 => exact (Kd.V_reads' HO393.out).2.1)
                      rintro e w40 ⟨v395, rfl, ho0, hb⟩
                      refine ⟨_, rfl, ?_⟩
                      replace HO378 := uVb HO378 hb; replace HO387 := uVb HO387 hb; replace HO390 := uVb HO390 hb; replace HO393 := uVb HO393 hb; have HO396 := uA (Kd.V_lower (Kd.V_mono (ok' := fun k_ => True) ho0 (fun k_ hk_ => trivial)) (below_size (uB HB.out))); replace HB := uBb HB hb
                      refine hK.out _ _ (by first | exact casematelaw04_BpolyLaws.strV Try.underlying22 Try.underlying5 Try.underlying9 HO378.out | exact casematelaw04_BpolyLaws.strV Try.underlying22 Try.underlying5 Try.underlying9 (Kd.V_step HO378.out (fun _ _ _ => rfl))) (fun hHeld => ?_)
                      clear hK K
                      refine uN (some 79) _ ?_
                      exact norm_ (by first | (simp only [putAll, Act.put, List.setIfInBounds_toArray, List.set_cons_zero, List.set_cons_succ]; done) | (simp only [putAll, Act.put, List.setIfInBounds_toArray, List.set_cons_zero, List.set_cons_succ]; rfl)) (hJ15_19_20 (.slice Ao39 t391.length co39, v395) _ ⟨(uV HO378.out), (uV HO387.out), (uV HO390.out), (uV HO393.out), (uV HO396.out), (uB HB.out)⟩)
                    ·skip
                     rintro ⟨v392, v395⟩ w40 ⟨h0_, h1_, h2_, h3_, h4_, h5_⟩
                     have n0_ : Aside0 (Kd.V (Kd.int .u8) 5 w40 w.heap.size (fun _ => True) (.slice Ao17 t376.length co17) t376) := ⟨h0_⟩
                     have n1_ : Aside0 (Kd.V (Kd.int .u8) 5 w40 w.heap.size (fun _ => True) v386 t385) := ⟨h1_⟩
                     have n2_ : Aside0 (Kd.V (Kd.int .u8) 5 w40 w.heap.size (fun _ => True) v389 t388) := ⟨h2_⟩
                     have n3_ : Aside0 (Kd.V (Kd.int .u8) 5 w40 w.heap.size (fun _ => True) v392 t391) := ⟨h3_⟩
                     have n4_ : Aside0 (Kd.V (Kd.int .u8) 5 w40 w.heap.size (fun _ => True) v395 t394) := ⟨h4_⟩
                     have n5_ : Aside0 (Below w.heap.size w w40) := ⟨h5_⟩
                     clear HO378
                     clear HB
                     clear h0_ h1_ h2_ h3_ h4_ h5_
                     have HO378 := n0_
                     have HO387 := n1_
                     have HO390 := n2_
                     have HO393 := n3_
                     have HO396 := n4_
                     have HB := n5_
                     clear n0_ n1_ n2_ n3_ n4_ n5_
                     have hHeld := (by first | exact casematelaw04_BpolyLaws.strV Try.underlying22 Try.underlying5 Try.underlying9 HO378.out | exact casematelaw04_BpolyLaws.strV Try.underlying22 Try.underlying5 Try.underlying9 (Kd.V_step HO378.out (fun _ _ _ => rfl)))
                     refine norm_ (a' := ?_) ?_ ?_
                     rotate_left; (simp only [putAll, Act.put, List.setIfInBounds_toArray, List.set_cons_zero, List.set_cons_succ]; rfl)
                     refine one_ (i := 15) (N := some 74) #[true, true, true, true, true, true, true, true, true, true, true, true, true, true, true, true, true, true, true, true, true, true, false, false, false, false, false, false, false, false, false, false, false, false, false, false, false, false, false, false, false, false, false, false, false, false] rfl rfl (one_of HT_.out (by kernel_rfl)) (by decide) (fun K hK => ?_)
                     have hcv41 := casematelaw04_BpolyLaws.strV Try.underlying22 Try.underlying5 Try.underlying9 HO390.out
                     refine value_ (w1 := ?_) (v := ?_) (by rfl) rfl ?_ ?_
                     rotate_left 2
                     ·go_simp
                      constructor
                      ·rfl
                      ·rfl
                     clear hcv41
                     refine hK.out _ _ (by first | exact casematelaw04_BpolyLaws.strV Try.underlying22 Try.underlying5 Try.underlying9 HO378.out | exact casematelaw04_BpolyLaws.strV Try.underlying22 Try.underlying5 Try.underlying9 (Kd.V_step HO378.out (fun _ _ _ => rfl))) (fun hHeld => ?_)
                     clear hK K
                     refine uN (some 74) _ ?_
                     refine uP HT_ 22 (some 81) (lb 46 8388607) ?_
                     refine uP HT_ 23 (some 82) (lb 46 16777215) ?_
                     refine uP HT_ 24 (some 83) (lb 46 33554431) ?_
                     refine uP HT_ 25 (some 84) (lb 46 67108863) ?_
                     refine uP HT_ 26 (some 85) (lb 46 134217727) ?_
                     refine uP HT_ 27 (some 86) (lb 46 268435455) ?_
                     refine uP HT_ 31 (some 90) (lb 46 2415919103) ?_
                     refine uP HT_ 32 (some 91) (lb 46 6710886399) ?_
                     refine uP HT_ 33 (some 92) (lb 46 15300820991) ?_
                     exact norm_ (by first | (simp only [putAll, Act.put, List.setIfInBounds_toArray, List.set_cons_zero, List.set_cons_succ]; done) | (simp only [putAll, Act.put, List.setIfInBounds_toArray, List.set_cons_zero, List.set_cons_succ]; rfl)) (hJ15_19_20_21 (v392, v395) _ ⟨(uV HO378.out), (uV HO387.out), (uV HO390.out), (uV HO393.out), (uV HO396.out), (uB HB.out)⟩)
                   ·skip
                    rintro ⟨v392, v395⟩ w40 ⟨h0_, h1_, h2_, h3_, h4_, h5_⟩
                    have n0_ : Aside0 (Kd.V (Kd.int .u8) 5 w40 w.heap.size (fun _ => True) (.slice Ao17 t376.length co17) t376) := ⟨h0_⟩
                    have n1_ : Aside0 (Kd.V (Kd.int .u8) 5 w40 w.heap.size (fun _ => True) v386 t385) := ⟨h1_⟩
                    have n2_ : Aside0 (Kd.V (Kd.int .u8) 5 w40 w.heap.size (fun _ => True) v389 t388) := ⟨h2_⟩
                    have n3_ : Aside0 (Kd.V (Kd.int .u8) 5 w40 w.heap.size (fun _ => True) v392 t391) := ⟨h3_⟩
                    have n4_ : Aside0 (Kd.V (Kd.int .u8) 5 w40 w.heap.size (fun _ => True) v395 t394) := ⟨h4_⟩
                    have n5_ : Aside0 (Below w.heap.size w w40) := ⟨h5_⟩
                    clear HO378
                    clear HB
                    clear h0_ h1_ h2_ h3_ h4_ h5_
                    have HO378 := n0_
                    have HO387 := n1_
                    have HO390 := n2_
                    have HO393 := n3_
                    have HO396 := n4_
                    have HB := n5_
                    clear n0_ n1_ n2_ n3_ n4_ n5_
                    have hHeld := (by first | exact casematelaw04_BpolyLaws.strV Try.underlying22 Try.underlying5 Try.underlying9 HO378.out | exact casematelaw04_BpolyLaws.strV Try.underlying22 Try.underlying5 Try.underlying9 (Kd.V_step HO378.out (fun _ _ _ => rfl)))
                    refine norm_ (a' := ?_) ?_ ?_
                    rotate_left; (simp only [putAll, Act.put, List.setIfInBounds_toArray, List.set_cons_zero, List.set_cons_succ]; rfl)
                    refine one_ (i := 21) (N := some 80) #[true, true, true, true, true, true, true, true, true, true, true, true, true, true, true, true, true, true, true, true, true, true, false, false, false, false, false, false, false, false, false, false, false, false, false, false, false, false, false, false, false, false, false, false, false, false] rfl rfl (one_of HT_.out (by kernel_rfl)) (by decide) (fun K hK => ?_)
                    have hcv41 := casematelaw04_BpolyLaws.strV Try.underlying22 Try.underlying5 Try.underlying9 HO396.out
                    refine value_ (w1 := ?_) (v := ?_) (by rfl) rfl ?_ ?_
                    rotate_left 2
                    ·go_simp
                     constructor
                     ·rfl
                     ·rfl
                    clear hcv41
                    refine hK.out _ _ (by first | exact casematelaw04_BpolyLaws.strV Try.underlying22 Try.underlying5 Try.underlying9 HO378.out | exact casematelaw04_BpolyLaws.strV Try.underlying22 Try.underlying5 Try.underlying9 (Kd.V_step HO378.out (fun _ _ _ => rfl))) (fun hHeld => ?_)
                    clear hK K
                    refine uN (some 80) _ ?_
                    refine uP HT_ 22 (some 81) (lb 46 8388607) ?_
                    refine uP HT_ 23 (some 82) (lb 46 16777215) ?_
                    refine uP HT_ 24 (some 83) (lb 46 33554431) ?_
                    refine uP HT_ 25 (some 84) (lb 46 67108863) ?_
                    refine uP HT_ 26 (some 85) (lb 46 134217727) ?_
                    refine uP HT_ 27 (some 86) (lb 46 268435455) ?_
                    refine uP HT_ 31 (some 90) (lb 46 2415919103) ?_
                    refine uP HT_ 32 (some 91) (lb 46 6710886399) ?_
                    refine uP HT_ 33 (some 92) (lb 46 15300820991) ?_
                    exact norm_ (by first | (simp only [putAll, Act.put, List.setIfInBounds_toArray, List.set_cons_zero, List.set_cons_succ]; done) | (simp only [putAll, Act.put, List.setIfInBounds_toArray, List.set_cons_zero, List.set_cons_succ]; rfl)) (hJ15_19_20_21 (v392, v395) _ ⟨(uV HO378.out), (uV HO387.out), (uV HO390.out), (uV HO393.out), (uV HO396.out), (uB HB.out)⟩)
                  ·skip
                   rintro ⟨v392, v395⟩ w41 ⟨h0_, h1_, h2_, h3_, h4_, h5_⟩
                   have n0_ : Aside0 (Kd.V (Kd.int .u8) 5 w41 w.heap.size (fun _ => True) (.slice Ao17 t376.length co17) t376) := ⟨h0_⟩
                   have n1_ : Aside0 (Kd.V (Kd.int .u8) 5 w41 w.heap.size (fun _ => True) v386 t385) := ⟨h1_⟩
                   have n2_ : Aside0 (Kd.V (Kd.int .u8) 5 w41 w.heap.size (fun _ => True) v389 t388) := ⟨h2_⟩
                   have n3_ : Aside0 (Kd.V (Kd.int .u8) 5 w41 w.heap.size (fun _ => True) v392 t391) := ⟨h3_⟩
                   have n4_ : Aside0 (Kd.V (Kd.int .u8) 5 w41 w.heap.size (fun _ => True) v395 t394) := ⟨h4_⟩
                   have n5_ : Aside0 (Below w.heap.size w w41) := ⟨h5_⟩
                   clear HO378
                   clear HB
                   clear h0_ h1_ h2_ h3_ h4_ h5_
                   have HO378 := n0_
                   have HO387 := n1_
                   have HO390 := n2_
                   have HO393 := n3_
                   have HO396 := n4_
                   have HB := n5_
                   clear n0_ n1_ n2_ n3_ n4_ n5_
                   have hHeld := (by first | exact casematelaw04_BpolyLaws.strV Try.underlying22 Try.underlying5 Try.underlying9 HO378.out | exact casematelaw04_BpolyLaws.strV Try.underlying22 Try.underlying5 Try.underlying9 (Kd.V_step HO378.out (fun _ _ _ => rfl)))
                   refine norm_ (a' := ?_) ?_ ?_
                   rotate_left; (simp only [putAll, Act.put, List.setIfInBounds_toArray, List.set_cons_zero, List.set_cons_succ]; rfl)
                   refine one_ (i := 28) (N := some 87) #[true, true, true, true, true, true, true, true, true, true, true, true, true, true, true, true, true, true, true, true, true, true, true, true, true, true, true, true, true, false, false, true, true, true, false, false, false, false, false, false, false, false, false, false, false, false] rfl rfl (one_of HT_.out (by kernel_rfl)) (by decide) (fun K hK => ?_)
                   refine goes_ Try.func20 (by kernel_rfl) rfl #[.slice A1 l1.length c1, .slice A2 l2.length c2] (by rfl) rfl rfl (by (try simp only [List.map_toArray, List.map_cons, List.map_nil]); first | done | rfl | (simp only [List.length_drop, List.length_take]; rfl)) ?_
                   with_reducible refine (bpoly_Add.calls kj4 _ _ l1 _ _ l2 t397 _ ?side1 ?side2 ?side3 ?side4 A25.out).mono ?_
                   (case side1 => exact uC (Kd.C_below HR1.out HB.out))
                   (case side2 => exact HC1.out)
                   (case side3 => exact uC (Kd.C_below HR2.out HB.out))
                   (case side4 => exact HC2.out)
                   rintro e w42 ⟨v398, rfl, ho0, hb⟩
                   refine ⟨_, rfl, ?_⟩
                   replace HO378 := uVb HO378 hb; replace HO387 := uVb HO387 hb; replace HO390 := uVb HO390 hb; replace HO393 := uVb HO393 hb; replace HO396 := uVb HO396 hb; have HO399 := uA (Kd.V_lower (Kd.V_mono (ok' := fun k_ => True) ho0 (fun k_ hk_ => trivial)) (below_size (uB HB.out))); replace HB := uBb HB hb
                   refine hK.out _ _ (by first | exact casematelaw04_BpolyLaws.strV Try.underlying22 Try.underlying5 Try.underlying9 HO378.out | exact casematelaw04_BpolyLaws.strV Try.underlying22 Try.underlying5 Try.underlying9 (Kd.V_step HO378.out (fun _ _ _ => rfl))) (fun hHeld => ?_)
                   clear hK K
                   refine uN (some 87) _ ?_
                   exact norm_ (by first | (simp only [putAll, Act.put, List.setIfInBounds_toArray, List.set_cons_zero, List.set_cons_succ]; done) | (simp only [putAll, Act.put, List.setIfInBounds_toArray, List.set_cons_zero, List.set_cons_succ]; rfl)) (hJ15_19_20_21_28 (v392, v395, v398) _ ⟨(uV HO378.out), (uV HO387.out), (uV HO390.out), (uV HO393.out), (uV HO396.out), (uV HO399.out), (uB HB.out)⟩)
                 ·skip
                  rintro ⟨v392, v395, v398⟩ w42 ⟨h0_, h1_, h2_, h3_, h4_, h5_, h6_⟩
                  have n0_ : Aside0 (Kd.V (Kd.int .u8) 5 w42 w.heap.size (fun _ => True) (.slice Ao17 t376.length co17) t376) := ⟨h0_⟩
                  have n1_ : Aside0 (Kd.V (Kd.int .u8) 5 w42 w.heap.size (fun _ => True) v386 t385) := ⟨h1_⟩
                  have n2_ : Aside0 (Kd.V (Kd.int .u8) 5 w42 w.heap.size (fun _ => True) v389 t388) := ⟨h2_⟩
                  have n3_ : Aside0 (Kd.V (Kd.int .u8) 5 w42 w.heap.size (fun _ => True) v392 t391) := ⟨h3_⟩
                  have n4_ : Aside0 (Kd.V (Kd.int .u8) 5 w42 w.heap.size (fun _ => True) v395 t394) := ⟨h4_⟩
                  have n5_ : Aside0 (Kd.V (Kd.int .u8) 5 w42 w.heap.size (fun _ => True) v398 t397) := ⟨h5_⟩
                  have n6_ : Aside0 (Below w.heap.size w w42) := ⟨h6_⟩
                  clear HO378
                  clear HB
                  clear h0_ h1_ h2_ h3_ h4_ h5_ h6_
                  have HO378 := n0_
                  have HO387 := n1_
                  have HO390 := n2_
                  have HO393 := n3_
                  have HO396 := n4_
                  have HO399 := n5_
                  have HB := n6_
                  clear n0_ n1_ n2_ n3_ n4_ n5_ n6_
                  have hHeld := (by first | exact casematelaw04_BpolyLaws.strV Try.underlying22 Try.underlying5 Try.underlying9 HO378.out | exact casematelaw04_BpolyLaws.strV Try.underlying22 Try.underlying5 Try.underlying9 (Kd.V_step HO378.out (fun _ _ _ => rfl)))
                  obtain ⟨Ao43, co43, eo43⟩ := Kd.V_slice HO399.out
                  (first | subst eo43 | (injection eo43 with f1_ f2_ f3_; have f4_ := f1_.symm; have f5_ := f3_.symm; clear f1_ f2_ f3_; subst f4_; subst f5_))
                  refine norm_ (a' := ?_) ?_ ?_
                  rotate_left; (simp only [putAll, Act.put, List.setIfInBounds_toArray, List.set_cons_zero, List.set_cons_succ]; rfl)
                  refine one_ (i := 29) (N := some 88) #[true, true, true, true, true, true, true, true, true, true, true, true, true, true, true, true, true, true, true, true, true, true, true, true, true, true, true, true, true, true, false, true, true, true, false, false, false, false, false, false, false, false, false, false, false, false] rfl rfl (one_of HT_.out (by kernel_rfl)) (by decide) (fun K hK => ?_)
                  refine goes_ Try.func21 (by kernel_rfl) rfl #[.slice A0 l0.length c0, .slice Ao43 t397.length co43] (by rfl) rfl rfl (by (try simp only [List.map_toArray, List.map_cons, List.map_nil]); first | done | rfl | (simp only [List.length_drop, List.length_take]; rfl)) ?_
                  with_reducible refine (bpoly_Mul.calls kj4 _ _ l0 _ _ t397 t400 _ ?side1 ?side2 ?side3 ?side4 A26.out).mono ?_
                  (case side1 => exact uC (Kd.C_below HR0.out HB.out))
                  (case side2 => exact HC0.out)
                  (case side3 => exact uC (Kd.V_reads' HO399.out).2.2)
                  (case side4 => exact (Kd.V_reads' HO399.out).2.1)
                  rintro e w44 ⟨v401, rfl, ho0, hb⟩
                  refine ⟨_, rfl, ?_⟩
                  replace HO378 := uVb HO378 hb; replace HO387 := uVb HO387 hb; replace HO390 := uVb HO390 hb; replace HO393 := uVb HO393 hb; replace HO396 := uVb HO396 hb; replace HO399 := uVb HO399 hb; have HO402 := uA (Kd.V_lower (Kd.V_mono (ok' := fun k_ => True) ho0 (fun k_ hk_ => trivial)) (below_size (uB HB.out))); replace HB := uBb HB hb
                  refine hK.out _ _ (by first | exact casematelaw04_BpolyLaws.strV Try.underlying22 Try.underlying5 Try.underlying9 HO378.out | exact casematelaw04_BpolyLaws.strV Try.underlying22 Try.underlying5 Try.underlying9 (Kd.V_step HO378.out (fun _ _ _ => rfl))) (fun hHeld => ?_)
                  clear hK K
                  refine uN (some 88) _ ?_
                  exact norm_ (by first | (simp only [putAll, Act.put, List.setIfInBounds_toArray, List.set_cons_zero, List.set_cons_succ]; done) | (simp only [putAll, Act.put, List.setIfInBounds_toArray, List.set_cons_zero, List.set_cons_succ]; rfl)) (hJ15_19_20_21_28_29 (v392, v395, .slice Ao43 t397.length co43, v401) _ ⟨(uV HO378.out), (uV HO387.out), (uV HO390.out), (uV HO393.out), (uV HO396.out), (uV HO399.out), (uV HO402.out), (uB HB.out)⟩)
                ·skip
                 rintro ⟨v392, v395, v398, v401⟩ w44 ⟨h0_, h1_, h2_, h3_, h4_, h5_, h6_, h7_⟩
                 have n0_ : Aside0 (Kd.V (Kd.int .u8) 5 w44 w.heap.size (fun _ => True) (.slice Ao17 t376.length co17) t376) := ⟨h0_⟩
                 have n1_ : Aside0 (Kd.V (Kd.int .u8) 5 w44 w.heap.size (fun _ => True) v386 t385) := ⟨h1_⟩
                 have n2_ : Aside0 (Kd.V (Kd.int .u8) 5 w44 w.heap.size (fun _ => True) v389 t388) := ⟨h2_⟩
                 have n3_ : Aside0 (Kd.V (Kd.int .u8) 5 w44 w.heap.size (fun _ => True) v392 t391) := ⟨h3_⟩
                 have n4_ : Aside0 (Kd.V (Kd.int .u8) 5 w44 w.heap.size (fun _ => True) v395 t394) := ⟨h4_⟩
                 have n5_ : Aside0 (Kd.V (Kd.int .u8) 5 w44 w.heap.size (fun _ => True) v398 t397) := ⟨h5_⟩
                 have n6_ : Aside0 (Kd.V (Kd.int .u8) 5 w44 w.heap.size (fun _ => True) v401 t400) := ⟨h6_⟩
                 have n7_ : Aside0 (Below w.heap.size w w44) := ⟨h7_⟩
                 clear HO378
                 clear HB
                 clear h0_ h1_ h2_ h3_ h4_ h5_ h6_ h7_
                 have HO378 := n0_
                 have HO387 := n1_
                 have HO390 := n2_
                 have HO393 := n3_
                 have HO396 := n4_
                 have HO399 := n5_
                 have HO402 := n6_
                 have HB := n7_
                 clear n0_ n1_ n2_ n3_ n4_ n5_ n6_ n7_
                 have hHeld := (by first | exact casematelaw04_BpolyLaws.strV Try.underlying22 Try.underlying5 Try.underlying9 HO378.out | exact casematelaw04_BpolyLaws.strV Try.underlying22 Try.underlying5 Try.underlying9 (Kd.V_step HO378.out (fun _ _ _ => rfl)))
                 refine norm_ (a' := ?_) ?_ ?_
                 rotate_left; (simp only [putAll, Act.put, List.setIfInBounds_toArray, List.set_cons_zero, List.set_cons_succ]; rfl)
                 refine two_ (i := 30) (j := 34) (Ni := some 89) (Nj := some 93) #[true, true, true, true, true, true, true, true, true, true, true, true, true, true, true, true, true, true, true, true, true, true, true, true, true, true, true, true, true, true, true, true, true, true, false, false, false, false, false, false, false, false, false, false, false, false] #[true, true, true, true, true, true, true, true, true, true, true, true, true, true, true, true, true, true, true, true, true, true, true, true, true, true, true, true, true, true, false, true, true, true, true, false, false, false, false, false, false, false, false, false, false, false] rfl rfl rfl rfl (two_of HT_.out (by kernel_rfl)) (by decide) (by decide) (fun K hK => ?_) (fun K hK => ?_)
                 ·skip
                  have hcv45 := casematelaw04_BpolyLaws.strV Try.underlying22 Try.underlying5 Try.underlying9 HO402.out
                  refine value_ (w1 := ?_) (v := ?_) (by rfl) rfl ?_ ?_
                  rotate_left 2
                  ·go_simp
                   constructor
                   ·rfl
                   ·rfl
                  clear hcv45
                  refine hK.out _ _ (by first | exact casematelaw04_BpolyLaws.strV Try.underlying22 Try.underlying5 Try.underlying9 HO378.out | exact casematelaw04_BpolyLaws.strV Try.underlying22 Try.underlying5 Try.underlying9 (Kd.V_step HO378.out (fun _ _ _ => rfl))) (fun hHeld => ?_)
                  clear hK K
                  refine uN (some 89) _ ?_
                  exact norm_ (by first | (simp only [putAll, Act.put, List.setIfInBounds_toArray, List.set_cons_zero, List.set_cons_succ]; done) | (simp only [putAll, Act.put, List.setIfInBounds_toArray, List.set_cons_zero, List.set_cons_succ]; rfl)) (hJ15_19_20_21_28_29_30 (v392, v395, v398, v401) _ ⟨(uV HO378.out), (uV HO387.out), (uV HO390.out), (uV HO393.out), (uV HO396.out), (uV HO399.out), (uV HO402.out), (uB HB.out)⟩)
                 ·skip
                  refine goes_ Try.func21 (by kernel_rfl) rfl #[.slice A0 l0.length c0, .slice A2 l2.length c2] (by rfl) rfl rfl (by (try simp only [List.map_toArray, List.map_cons, List.map_nil]); first | done | rfl | (simp only [List.length_drop, List.length_take]; rfl)) ?_
                  with_reducible refine (bpoly_Mul.calls kj4 _ _ l0 _ _ l2 t403 _ ?side1 ?side2 ?side3 ?side4 A27.out).mono ?_
                  (case side1 => exact uC (Kd.C_below HR0.out HB.out))
                  (case side2 => exact HC0.out)
                  (case side3 => exact uC (Kd.C_below HR2.out HB.out))
                  (case side4 => exact HC2.out)
                  rintro e w45 ⟨v404, rfl, ho0, hb⟩
                  refine ⟨_, rfl, ?_⟩
                  replace HO378 := uVb HO378 hb; replace HO387 := uVb HO387 hb; replace HO390 := uVb HO390 hb; replace HO393 := uVb HO393 hb; replace HO396 := uVb HO396 hb; replace HO399 := uVb HO399 hb; replace HO402 := uVb HO402 hb; have HO405 := uA (Kd.V_lower (Kd.V_mono (ok' := fun k_ => True) ho0 (fun k_ hk_ => trivial)) (below_size (uB HB.out))); replace HB := uBb HB hb
                  refine hK.out _ _ (by first | exact casematelaw04_BpolyLaws.strV Try.underlying22 Try.underlying5 Try.underlying9 HO378.out | exact casematelaw04_BpolyLaws.strV Try.underlying22 Try.underlying5 Try.underlying9 (Kd.V_step HO378.out (fun _ _ _ => rfl))) (fun hHeld => ?_)
                  clear hK K
                  refine uN (some 93) _ ?_
                  exact norm_ (by first | (simp only [putAll, Act.put, List.setIfInBounds_toArray, List.set_cons_zero, List.set_cons_succ]; done) | (simp only [putAll, Act.put, List.setIfInBounds_toArray, List.set_cons_zero, List.set_cons_succ]; rfl)) (hJ15_19_20_21_28_29_34 (v392, v395, v398, v401, v404) _ ⟨(uV HO378.out), (uV HO387.out), (uV HO390.out), (uV HO393.out), (uV HO396.out), (uV HO399.out), (uV HO402.out), (uV HO405.out), (uB HB.out)⟩)
               ·skip
                rintro ⟨v392, v395, v398, v401, v404⟩ w45 ⟨h0_, h1_, h2_, h3_, h4_, h5_, h6_, h7_, h8_⟩
                have n0_ : Aside0 (Kd.V (Kd.int .u8) 5 w45 w.heap.size (fun _ => True) (.slice Ao17 t376.length co17) t376) := ⟨h0_⟩
                have n1_ : Aside0 (Kd.V (Kd.int .u8) 5 w45 w.heap.size (fun _ => True) v386 t385) := ⟨h1_⟩
                have n2_ : Aside0 (Kd.V (Kd.int .u8) 5 w45 w.heap.size (fun _ => True) v389 t388) := ⟨h2_⟩
                have n3_ : Aside0 (Kd.V (Kd.int .u8) 5 w45 w.heap.size (fun _ => True) v392 t391) := ⟨h3_⟩
                have n4_ : Aside0 (Kd.V (Kd.int .u8) 5 w45 w.heap.size (fun _ => True) v395 t394) := ⟨h4_⟩
                have n5_ : Aside0 (Kd.V (Kd.int .u8) 5 w45 w.heap.size (fun _ => True) v398 t397) := ⟨h5_⟩
                have n6_ : Aside0 (Kd.V (Kd.int .u8) 5 w45 w.heap.size (fun _ => True) v401 t400) := ⟨h6_⟩
                have n7_ : Aside0 (Kd.V (Kd.int .u8) 5 w45 w.heap.size (fun _ => True) v404 t403) := ⟨h7_⟩
                have n8_ : Aside0 (Below w.heap.size w w45) := ⟨h8_⟩
                clear HO378
                clear HB
                clear h0_ h1_ h2_ h3_ h4_ h5_ h6_ h7_ h8_
                have HO378 := n0_
                have HO387 := n1_
                have HO390 := n2_
                have HO393 := n3_
                have HO396 := n4_
                have HO399 := n5_
                have HO402 := n6_
                have HO405 := n7_
                have HB := n8_
                clear n0_ n1_ n2_ n3_ n4_ n5_ n6_ n7_ n8_
                have hHeld := (by first | exact casematelaw04_BpolyLaws.strV Try.underlying22 Try.underlying5 Try.underlying9 HO378.out | exact casematelaw04_BpolyLaws.strV Try.underlying22 Try.underlying5 Try.underlying9 (Kd.V_step HO378.out (fun _ _ _ => rfl)))
                refine norm_ (a' := ?_) ?_ ?_
                rotate_left; (simp only [putAll, Act.put, List.setIfInBounds_toArray, List.set_cons_zero, List.set_cons_succ]; rfl)
                refine two_ (i := 30) (j := 35) (Ni := some 89) (Nj := some 94) #[true, true, true, true, true, true, true, true, true, true, true, true, true, true, true, true, true, true, true, true, true, true, true, true, true, true, true, true, true, true, true, true, true, true, true, false, false, false, false, false, false, false, false, false, false, false] #[true, true, true, true, true, true, true, true, true, true, true, true, true, true, true, true, true, true, true, true, true, true, true, true, true, true, true, true, true, true, false, true, true, true, true, true, false, false, false, false, false, false, false, false, false, false] rfl rfl rfl rfl (two_of HT_.out (by kernel_rfl)) (by decide) (by decide) (fun K hK => ?_) (fun K hK => ?_)
                ·skip
                 have hcv46 := casematelaw04_BpolyLaws.strV Try.underlying22 Try.underlying5 Try.underlying9 HO402.out
                 refine value_ (w1 := ?_) (v := ?_) (by rfl) rfl ?_ ?_
                 rotate_left 2
                 ·go_simp
                  constructor
                  ·rfl
                  ·rfl
                 clear hcv46
                 refine hK.out _ _ (by first | exact casematelaw04_BpolyLaws.strV Try.underlying22 Try.underlying5 Try.underlying9 HO378.out | exact casematelaw04_BpolyLaws.strV Try.underlying22 Try.underlying5 Try.underlying9 (Kd.V_step HO378.out (fun _ _ _ => rfl))) (fun hHeld => ?_)
                 clear hK K
                 refine uN (some 89) _ ?_
                 exact norm_ (by first | (simp only [putAll, Act.put, List.setIfInBounds_toArray, List.set_cons_zero, List.set_cons_succ]; done) | (simp only [putAll, Act.put, List.setIfInBounds_toArray, List.set_cons_zero, List.set_cons_succ]; rfl)) (hJ15_19_20_21_28_29_30_34 (v392, v395, v398, v401, v404) _ ⟨(uV HO378.out), (uV HO387.out), (uV HO390.out), (uV HO393.out), (uV HO396.out), (uV HO399.out), (uV HO402.out), (uV HO405.out), (uB HB.out)⟩)
                ·skip
                 obtain ⟨Ao46, co46, eo46⟩ := Kd.V_slice HO405.out
                 subst eo46
                 refine goes_ Try.func20 (by kernel_rfl) rfl #[.slice Ao17 t376.length co17, .slice Ao46 t403.length co46] (by rfl) rfl rfl (by (try simp only [List.map_toArray, List.map_cons, List.map_nil]); first | done | rfl | (simp only [List.length_drop, List.length_take]; rfl)) ?_
                 with_reducible refine (bpoly_Add.calls kj4 _ _ t376 _ _ t403 t406 _ ?side1 ?side2 ?side3 ?side4 A28.out).mono ?_
                 (case side1 => exact uC (Kd.V_reads' HO378.out).2.2)
                 (case side2 => exact (Kd.V_reads' HO378.out).2.1)
                 (case side3 => exact uC (Kd.V_reads' HO405.out).2.2)
                 (case side4 => exact (Kd.V_reads' HO405.out).2.1)
                 rintro e w47 ⟨v407, rfl, ho0, hb⟩
                 refine ⟨_, rfl, ?_⟩
                 replace HO378 := uVb HO378 hb; replace HO387 := uVb HO387 hb; replace HO390 := uVb HO390 hb; replace HO393 := uVb HO393 hb; replace HO396 := uVb HO396 hb; replace HO399 := uVb HO399 hb; replace HO402 := uVb HO402 hb; replace HO405 := uVb HO405 hb; have HO408 := uA (Kd.V_lower (Kd.V_mono (ok' := fun k_ => True) ho0 (fun k_ hk_ => trivial)) (below_size (uB HB.out))); replace HB := uBb HB hb
                 refine hK.out _ _ (by first | exact casematelaw04_BpolyLaws.strV Try.underlying22 Try.underlying5 Try.underlying9 HO378.out | exact casematelaw04_BpolyLaws.strV Try.underlying22 Try.underlying5 Try.underlying9 (Kd.V_step HO378.out (fun _ _ _ => rfl))) (fun hHeld => ?_)
                 clear hK K
                 refine uN (some 94) _ ?_
                 exact norm_ (by first | (simp only [putAll, Act.put, List.setIfInBounds_toArray, List.set_cons_zero, List.set_cons_succ]; done) | (simp only [putAll, Act.put, List.setIfInBounds_toArray, List.set_cons_zero, List.set_cons_succ]; rfl)) (hJ15_19_20_21_28_29_34_35 (v392, v395, v398, v401, .slice Ao46 t403.length co46, v407) _ ⟨(uV HO378.out), (uV HO387.out), (uV HO390.out), (uV HO393.out), (uV HO396.out), (uV HO399.out), (uV HO402.out), (uV HO405.out), (uV HO408.out), (uB HB.out)⟩)
              ·skip
               rintro ⟨v392, v395, v398, v401⟩ w45 ⟨h0_, h1_, h2_, h3_, h4_, h5_, h6_, h7_⟩
               have n0_ : Aside0 (Kd.V (Kd.int .u8) 5 w45 w.heap.size (fun _ => True) (.slice Ao17 t376.length co17) t376) := ⟨h0_⟩
               have n1_ : Aside0 (Kd.V (Kd.int .u8) 5 w45 w.heap.size (fun _ => True) v386 t385) := ⟨h1_⟩
               have n2_ : Aside0 (Kd.V (Kd.int .u8) 5 w45 w.heap.size (fun _ => True) v389 t388) := ⟨h2_⟩
               have n3_ : Aside0 (Kd.V (Kd.int .u8) 5 w45 w.heap.size (fun _ => True) v392 t391) := ⟨h3_⟩
               have n4_ : Aside0 (Kd.V (Kd.int .u8) 5 w45 w.heap.size (fun _ => True) v395 t394) := ⟨h4_⟩
               have n5_ : Aside0 (Kd.V (Kd.int .u8) 5 w45 w.heap.size (fun _ => True) v398 t397) := ⟨h5_⟩
               have n6_ : Aside0 (Kd.V (Kd.int .u8) 5 w45 w.heap.size (fun _ => True) v401 t400) := ⟨h6_⟩
               have n7_ : Aside0 (Below w.heap.size w w45) := ⟨h7_⟩
               clear HO378
               clear HB
               clear h0_ h1_ h2_ h3_ h4_ h5_ h6_ h7_
               have HO378 := n0_
               have HO387 := n1_
               have HO390 := n2_
               have HO393 := n3_
               have HO396 := n4_
               have HO399 := n5_
               have HO402 := n6_
               have HB := n7_
               clear n0_ n1_ n2_ n3_ n4_ n5_ n6_ n7_
               have hHeld := (by first | exact casematelaw04_BpolyLaws.strV Try.underlying22 Try.underlying5 Try.underlying9 HO378.out | exact casematelaw04_BpolyLaws.strV Try.underlying22 Try.underlying5 Try.underlying9 (Kd.V_step HO378.out (fun _ _ _ => rfl)))
               refine norm_ (a' := ?_) ?_ ?_
               rotate_left; (simp only [putAll, Act.put, List.setIfInBounds_toArray, List.set_cons_zero, List.set_cons_succ]; rfl)
               refine one_ (i := 34) (N := some 93) #[true, true, true, true, true, true, true, true, true, true, true, true, true, true, true, true, true, true, true, true, true, true, true, true, true, true, true, true, true, true, true, true, true, true, true, false, false, false, false, false, false, false, false, false, false, false] rfl rfl (one_of HT_.out (by kernel_rfl)) (by decide) (fun K hK => ?_)
               refine goes_ Try.func21 (by kernel_rfl) rfl #[.slice A0 l0.length c0, .slice A2 l2.length c2] (by rfl) rfl rfl (by (try simp only [List.map_toArray, List.map_cons, List.map_nil]); first | done | rfl | (simp only [List.length_drop, List.length_take]; rfl)) ?_
               with_reducible refine (bpoly_Mul.calls kj4 _ _ l0 _ _ l2 t403 _ ?side1 ?side2 ?side3 ?side4 A27.out).mono ?_
               (case side1 => exact uC (Kd.C_below HR0.out HB.out))
               (case side2 => exact HC0.out)
               (case side3 => exact uC (Kd.C_below HR2.out HB.out))
               (case side4 => exact HC2.out)
               rintro e w46 ⟨v404, rfl, ho0, hb⟩
               refine ⟨_, rfl, ?_⟩
               replace HO378 := uVb HO378 hb; replace HO387 := uVb HO387 hb; replace HO390 := uVb HO390 hb; replace HO393 := uVb HO393 hb; replace HO396 := uVb HO396 hb; replace HO399 := uVb HO399 hb; replace HO402 := uVb HO402 hb; have HO405 := uA (Kd.V_lower (Kd.V_mono (ok' := fun k_ => True) ho0 (fun k_ hk_ => trivial)) (below_size (uB HB.out))); replace HB := uBb HB hb
               refine hK.out _ _ (by first | exact casematelaw04_BpolyLaws.strV Try.underlying22 Try.underlying5 Try.underlying9 HO378.out | exact casematelaw04_BpolyLaws.strV Try.underlying22 Try.underlying5 Try.underlying9 (Kd.V_step HO378.out (fun _ _ _ => rfl))) (fun hHeld => ?_)
               clear hK K
               refine uN (some 93) _ ?_
               exact norm_ (by first | (simp only [putAll, Act.put, List.setIfInBounds_toArray, List.set_cons_zero, List.set_cons_succ]; done) | (simp only [putAll, Act.put, List.setIfInBounds_toArray, List.set_cons_zero, List.set_cons_succ]; rfl)) (hJ15_19_20_21_28_29_30_34 (v392, v395, v398, v401, v404) _ ⟨(uV HO378.out), (uV HO387.out), (uV HO390.out), (uV HO393.out), (uV HO396.out), (uV HO399.out), (uV HO402.out), (uV HO405.out), (uB HB.out)⟩)
             ·skip
              rintro ⟨v392, v395, v398, v401, v404, v407⟩ w47 ⟨h0_, h1_, h2_, h3_, h4_, h5_, h6_, h7_, h8_, h9_⟩
              have n0_ : Aside0 (Kd.V (Kd.int .u8) 5 w47 w.heap.size (fun _ => True) (.slice Ao17 t376.length co17) t376) := ⟨h0_⟩
              have n1_ : Aside0 (Kd.V (Kd.int .u8) 5 w47 w.heap.size (fun _ => True) v386 t385) := ⟨h1_⟩
              have n2_ : Aside0 (Kd.V (Kd.int .u8) 5 w47 w.heap.size (fun _ => True) v389 t388) := ⟨h2_⟩
              have n3_ : Aside0 (Kd.V (Kd.int .u8) 5 w47 w.heap.size (fun _ => True) v392 t391) := ⟨h3_⟩
              have n4_ : Aside0 (Kd.V (Kd.int .u8) 5 w47 w.heap.size (fun _ => True) v395 t394) := ⟨h4_⟩
              have n5_ : Aside0 (Kd.V (Kd.int .u8) 5 w47 w.heap.size (fun _ => True) v398 t397) := ⟨h5_⟩
              have n6_ : Aside0 (Kd.V (Kd.int .u8) 5 w47 w.heap.size (fun _ => True) v401 t400) := ⟨h6_⟩
              have n7_ : Aside0 (Kd.V (Kd.int .u8) 5 w47 w.heap.size (fun _ => True) v404 t403) := ⟨h7_⟩
              have n8_ : Aside0 (Kd.V (Kd.int .u8) 5 w47 w.heap.size (fun _ => True) v407 t406) := ⟨h8_⟩
              have n9_ : Aside0 (Below w.heap.size w w47) := ⟨h9_⟩
              clear HO378
              clear HB
              clear h0_ h1_ h2_ h3_ h4_ h5_ h6_ h7_ h8_ h9_
              have HO378 := n0_
              have HO387 := n1_
              have HO390 := n2_
              have HO393 := n3_
              have HO396 := n4_
              have HO399 := n5_
              have HO402 := n6_
              have HO405 := n7_
              have HO408 := n8_
              have HB := n9_
              clear n0_ n1_ n2_ n3_ n4_ n5_ n6_ n7_ n8_ n9_
              have hHeld := (by first | exact casematelaw04_BpolyLaws.strV Try.underlying22 Try.underlying5 Try.underlying9 HO378.out | exact casematelaw04_BpolyLaws.strV Try.underlying22 Try.underlying5 Try.underlying9 (Kd.V_step HO378.out (fun _ _ _ => rfl)))
              refine norm_ (a' := ?_) ?_ ?_
              rotate_left; (simp only [putAll, Act.put, List.setIfInBounds_toArray, List.set_cons_zero, List.set_cons_succ]; rfl)
              refine two_ (i := 30) (j := 36) (Ni := some 89) (Nj := some 95) #[true, true, true, true, true, true, true, true, true, true, true, true, true, true, true, true, true, true, true, true, true, true, true, true, true, true, true, true, true, true, true, true, true, true, true, true, false, false, false, false, false, false, false, false, false, false] #[true, true, true, true, true, true, true, true, true, true, true, true, true, true, true, true, true, true, true, true, true, true, true, true, true, true, true, true, true, true, false, true, true, true, true, true, true, false, false, false, false, false, false, false, false, false] rfl rfl rfl rfl (two_of HT_.out (by kernel_rfl)) (by decide) (by decide) (fun K hK => ?_) (fun K hK => ?_)
              ·skip
               have hcv48 := casematelaw04_BpolyLaws.strV Try.underlying22 Try.underlying5 Try.underlying9 HO402.out
               refine value_ (w1 := ?_) (v := ?_) (by rfl) rfl ?_ ?_
               rotate_left 2
               ·go_simp
                constructor
                ·rfl
                ·rfl
               clear hcv48
               refine hK.out _ _ (by first | exact casematelaw04_BpolyLaws.strV Try.underlying22 Try.underlying5 Try.underlying9 HO378.out | exact casematelaw04_BpolyLaws.strV Try.underlying22 Try.underlying5 Try.underlying9 (Kd.V_step HO378.out (fun _ _ _ => rfl))) (fun hHeld => ?_)
               clear hK K
               refine uN (some 89) _ ?_
               exact norm_ (by first | (simp only [putAll, Act.put, List.setIfInBounds_toArray, List.set_cons_zero, List.set_cons_succ]; done) | (simp only [putAll, Act.put, List.setIfInBounds_toArray, List.set_cons_zero, List.set_cons_succ]; rfl)) (hJ15_19_20_21_28_29_30_34_35 (v392, v395, v398, v401, v404, v407) _ ⟨(uV HO378.out), (uV HO387.out), (uV HO390.out), (uV HO393.out), (uV HO396.out), (uV HO399.out), (uV HO402.out), (uV HO405.out), (uV HO408.out), (uB HB.out)⟩)
              ·skip
               have hcv48 := casematelaw04_BpolyLaws.strV Try.underlying22 Try.underlying5 Try.underlying9 HO408.out
               refine value_ (w1 := ?_) (v := ?_) (by rfl) rfl ?_ ?_
               rotate_left 2
               ·go_simp
                constructor
                ·rfl
                ·rfl
               clear hcv48
               refine hK.out _ _ (by first | exact casematelaw04_BpolyLaws.strV Try.underlying22 Try.underlying5 Try.underlying9 HO378.out | exact casematelaw04_BpolyLaws.strV Try.underlying22 Try.underlying5 Try.underlying9 (Kd.V_step HO378.out (fun _ _ _ => rfl))) (fun hHeld => ?_)
               clear hK K
               refine uN (some 95) _ ?_
               exact norm_ (by first | (simp only [putAll, Act.put, List.setIfInBounds_toArray, List.set_cons_zero, List.set_cons_succ]; done) | (simp only [putAll, Act.put, List.setIfInBounds_toArray, List.set_cons_zero, List.set_cons_succ]; rfl)) (hJ15_19_20_21_28_29_34_35_36 (v392, v395, v398, v401, v404, v407) _ ⟨(uV HO378.out), (uV HO387.out), (uV HO390.out), (uV HO393.out), (uV HO396.out), (uV HO399.out), (uV HO402.out), (uV HO405.out), (uV HO408.out), (uB HB.out)⟩)
            ·skip
             rintro ⟨v392, v395, v398, v401, v404⟩ w46 ⟨h0_, h1_, h2_, h3_, h4_, h5_, h6_, h7_, h8_⟩
             have n0_ : Aside0 (Kd.V (Kd.int .u8) 5 w46 w.heap.size (fun _ => True) (.slice Ao17 t376.length co17) t376) := ⟨h0_⟩
             have n1_ : Aside0 (Kd.V (Kd.int .u8) 5 w46 w.heap.size (fun _ => True) v386 t385) := ⟨h1_⟩
             have n2_ : Aside0 (Kd.V (Kd.int .u8) 5 w46 w.heap.size (fun _ => True) v389 t388) := ⟨h2_⟩
             have n3_ : Aside0 (Kd.V (Kd.int .u8) 5 w46 w.heap.size (fun _ => True) v392 t391) := ⟨h3_⟩
             have n4_ : Aside0 (Kd.V (Kd.int .u8) 5 w46 w.heap.size (fun _ => True) v395 t394) := ⟨h4_⟩
             have n5_ : Aside0 (Kd.V (Kd.int .u8) 5 w46 w.heap.size (fun _ => True) v398 t397) := ⟨h5_⟩
             have n6_ : Aside0 (Kd.V (Kd.int .u8) 5 w46 w.heap.size (fun _ => True) v401 t400) := ⟨h6_⟩
             have n7_ : Aside0 (Kd.V (Kd.int .u8) 5 w46 w.heap.size (fun _ => True) v404 t403) := ⟨h7_⟩
             have n8_ : Aside0 (Below w.heap.size w w46) := ⟨h8_⟩
             clear HO378
             clear HB
             clear h0_ h1_ h2_ h3_ h4_ h5_ h6_ h7_ h8_
             have HO378 := n0_
             have HO387 := n1_
             have HO390 := n2_
             have HO393 := n3_
             have HO396 := n4_
             have HO399 := n5_
             have HO402 := n6_
             have HO405 := n7_
             have HB := n8_
             clear n0_ n1_ n2_ n3_ n4_ n5_ n6_ n7_ n8_
             have hHeld := (by first | exact casematelaw04_BpolyLaws.strV Try.underlying22 Try.underlying5 Try.underlying9 HO378.out | exact casematelaw04_BpolyLaws.strV Try.underlying22 Try.underlying5 Try.underlying9 (Kd.V_step HO378.out (fun _ _ _ => rfl)))
             obtain ⟨Ao47, co47, eo47⟩ := Kd.V_slice HO405.out
             (first | subst eo47 | (injection eo47 with f1_ f2_ f3_; have f4_ := f1_.symm; have f5_ := f3_.symm; clear f1_ f2_ f3_; subst f4_; subst f5_))
             refine norm_ (a' := ?_) ?_ ?_
             rotate_left; (simp only [putAll, Act.put, List.setIfInBounds_toArray, List.set_cons_zero, List.set_cons_succ]; rfl)
             refine one_ (i := 35) (N := some 94) #[true, true, true, true, true, true, true, true, true, true, true, true, true, true, true, true, true, true, true, true, true, true, true, true, true, true, true, true, true, true, true, true, true, true, true, true, false, false, false, false, false, false, false, false, false, false] rfl rfl (one_of HT_.out (by kernel_rfl)) (by decide) (fun K hK => ?_)
             refine goes_ Try.func20 (by kernel_rfl) rfl #[.slice Ao17 t376.length co17, .slice Ao47 t403.length co47] (by rfl) rfl rfl (by (try simp only [List.map_toArray, List.map_cons, List.map_nil]); first | done | rfl | (simp only [List.length_drop, List.length_take]; rfl)) ?_
             with_reducible refine (bpoly_Add.calls kj4 _ _ t376 _ _ t403 t406 _ ?side1 ?side2 ?side3 ?side4 A28.out).mono ?_
             (case side1 => exact uC (Kd.V_reads' HO378.out).2.2)
             (case side2 => exact (Kd.V_reads' HO378.out).2.1)
             (case side3 => exact uC (Kd.V_reads' HO405.out).2.2)
             (case side4 => exact (Kd.V_reads' HO405.out).2.1)
             rintro e w48 ⟨v407, rfl, ho0, hb⟩
             refine ⟨_, rfl, ?_⟩
             replace HO378 := uVb HO378 hb; replace HO387 := uVb HO387 hb; replace HO390 := uVb HO390 hb; replace HO393 := uVb HO393 hb; replace HO396 := uVb HO396 hb; replace HO399 := uVb HO399 hb; replace HO402 := uVb HO402 hb; replace HO405 := uVb HO405 hb; have HO408 := uA (Kd.V_lower (Kd.V_mono (ok' := fun k_ => True) ho0 (fun k_ hk_ => trivial)) (below_size (uB HB.out))); replace HB := uBb HB hb
             refine hK.out _ _ (by first | exact casematelaw04_BpolyLaws.strV Try.underlying22 Try.underlying5 Try.underlying9 HO378.out | exact casematelaw04_BpolyLaws.strV Try.underlying22 Try.underlying5 Try.underlying9 (Kd.V_step HO378.out (fun _ _ _ => rfl))) (fun hHeld => ?_)
             clear hK K
             refine uN (some 94) _ ?_
             exact norm_ (by first | (simp only [putAll, Act.put, List.setIfInBounds_toArray, List.set_cons_zero, List.set_cons_succ]; done) | (simp only [putAll, Act.put, List.setIfInBounds_toArray, List.set_cons_zero, List.set_cons_succ]; rfl)) (hJ15_19_20_21_28_29_30_34_35 (v392, v395, v398, v401, .slice Ao47 t403.length co47, v407) _ ⟨(uV HO378.out), (uV HO387.out), (uV HO390.out), (uV HO393.out), (uV HO396.out), (uV HO399.out), (uV HO402.out), (uV HO405.out), (uV HO408.out), (uB HB.out)⟩)
           ·skip
            rintro ⟨v392, v395, v398, v401, v404, v407⟩ w48 ⟨h0_, h1_, h2_, h3_, h4_, h5_, h6_, h7_, h8_, h9_⟩
            have n0_ : Aside0 (Kd.V (Kd.int .u8) 5 w48 w.heap.size (fun _ => True) (.slice Ao17 t376.length co17) t376) := ⟨h0_⟩
            have n1_ : Aside0 (Kd.V (Kd.int .u8) 5 w48 w.heap.size (fun _ => True) v386 t385) := ⟨h1_⟩
            have n2_ : Aside0 (Kd.V (Kd.int .u8) 5 w48 w.heap.size (fun _ => True) v389 t388) := ⟨h2_⟩
            have n3_ : Aside0 (Kd.V (Kd.int .u8) 5 w48 w.heap.size (fun _ => True) v392 t391) := ⟨h3_⟩
            have n4_ : Aside0 (Kd.V (Kd.int .u8) 5 w48 w.heap.size (fun _ => True) v395 t394) := ⟨h4_⟩
            have n5_ : Aside0 (Kd.V (Kd.int .u8) 5 w48 w.heap.size (fun _ => True) v398 t397) := ⟨h5_⟩
            have n6_ : Aside0 (Kd.V (Kd.int .u8) 5 w48 w.heap.size (fun _ => True) v401 t400) := ⟨h6_⟩
            have n7_ : Aside0 (Kd.V (Kd.int .u8) 5 w48 w.heap.size (fun _ => True) v404 t403) := ⟨h7_⟩
            have n8_ : Aside0 (Kd.V (Kd.int .u8) 5 w48 w.heap.size (fun _ => True) v407 t406) := ⟨h8_⟩
            have n9_ : Aside0 (Below w.heap.size w w48) := ⟨h9_⟩
            clear HO378
            clear HB
            clear h0_ h1_ h2_ h3_ h4_ h5_ h6_ h7_ h8_ h9_
            have HO378 := n0_
            have HO387 := n1_
            have HO390 := n2_
            have HO393 := n3_
            have HO396 := n4_
            have HO399 := n5_
            have HO402 := n6_
            have HO405 := n7_
            have HO408 := n8_
            have HB := n9_
            clear n0_ n1_ n2_ n3_ n4_ n5_ n6_ n7_ n8_ n9_
            have hHeld := (by first | exact casematelaw04_BpolyLaws.strV Try.underlying22 Try.underlying5 Try.underlying9 HO378.out | exact casematelaw04_BpolyLaws.strV Try.underlying22 Try.underlying5 Try.underlying9 (Kd.V_step HO378.out (fun _ _ _ => rfl)))
            refine norm_ (a' := ?_) ?_ ?_
            rotate_left; (simp only [putAll, Act.put, List.setIfInBounds_toArray, List.set_cons_zero, List.set_cons_succ]; rfl)
            refine one_ (i := 30) (N := some 89) #[true, true, true, true, true, true, true, true, true, true, true, true, true, true, true, true, true, true, true, true, true, true, true, true, true, true, true, true, true, true, true, true, true, true, true, true, true, false, false, false, false, false, false, false, false, false] rfl rfl (one_of HT_.out (by kernel_rfl)) (by decide) (fun K hK => ?_)
            have hcv49 := casematelaw04_BpolyLaws.strV Try.underlying22 Try.underlying5 Try.underlying9 HO402.out
            refine value_ (w1 := ?_) (v := ?_) (by rfl) rfl ?_ ?_
            rotate_left 2
            ·go_simp
             constructor
             ·rfl
             ·rfl
            clear hcv49
            refine hK.out _ _ (by first | exact casematelaw04_BpolyLaws.strV Try.underlying22 Try.underlying5 Try.underlying9 HO378.out | exact casematelaw04_BpolyLaws.strV Try.underlying22 Try.underlying5 Try.underlying9 (Kd.V_step HO378.out (fun _ _ _ => rfl))) (fun hHeld => ?_)
            clear hK K
            refine uN (some 89) _ ?_
            exact norm_ (by first | (simp only [putAll, Act.put, List.setIfInBounds_toArray, List.set_cons_zero, List.set_cons_succ]; done) | (simp only [putAll, Act.put, List.setIfInBounds_toArray, List.set_cons_zero, List.set_cons_succ]; rfl)) (hJ15_19_20_21_28_29_30_34_35_36 (v392, v395, v398, v401, v404, v407) _ ⟨(uV HO378.out), (uV HO387.out), (uV HO390.out), (uV HO393.out), (uV HO396.out), (uV HO399.out), (uV HO402.out), (uV HO405.out), (uV HO408.out), (uB HB.out)⟩)
          ·skip
           rintro ⟨v392, v395, v398, v401, v404, v407⟩ w48 ⟨h0_, h1_, h2_, h3_, h4_, h5_, h6_, h7_, h8_, h9_⟩
           have n0_ : Aside0 (Kd.V (Kd.int .u8) 5 w48 w.heap.size (fun _ => True) (.slice Ao17 t376.length co17) t376) := ⟨h0_⟩
           have n1_ : Aside0 (Kd.V (Kd.int .u8) 5 w48 w.heap.size (fun _ => True) v386 t385) := ⟨h1_⟩
           have n2_ : Aside0 (Kd.V (Kd.int .u8) 5 w48 w.heap.size (fun _ => True) v389 t388) := ⟨h2_⟩
           have n3_ : Aside0 (Kd.V (Kd.int .u8) 5 w48 w.heap.size (fun _ => True) v392 t391) := ⟨h3_⟩
           have n4_ : Aside0 (Kd.V (Kd.int .u8) 5 w48 w.heap.size (fun _ => True) v395 t394) := ⟨h4_⟩
           have n5_ : Aside0 (Kd.V (Kd.int .u8) 5 w48 w.heap.size (fun _ => True) v398 t397) := ⟨h5_⟩
           have n6_ : Aside0 (Kd.V (Kd.int .u8) 5 w48 w.heap.size (fun _ => True) v401 t400) := ⟨h6_⟩
           have n7_ : Aside0 (Kd.V (Kd.int .u8) 5 w48 w.heap.size (fun _ => True) v404 t403) := ⟨h7_⟩
           have n8_ : Aside0 (Kd.V (Kd.int .u8) 5 w48 w.heap.size (fun _ => True) v407 t406) := ⟨h8_⟩
           have n9_ : Aside0 (Below w.heap.size w w48) := ⟨h9_⟩
           clear HO378
           clear HB
           clear h0_ h1_ h2_ h3_ h4_ h5_ h6_ h7_ h8_ h9_
           have HO378 := n0_
           have HO387 := n1_
           have HO390 := n2_
           have HO393 := n3_
           have HO396 := n4_
           have HO399 := n5_
           have HO402 := n6_
           have HO405 := n7_
           have HO408 := n8_
           have HB := n9_
           clear n0_ n1_ n2_ n3_ n4_ n5_ n6_ n7_ n8_ n9_
           have hHeld := (by first | exact casematelaw04_BpolyLaws.strV Try.underlying22 Try.underlying5 Try.underlying9 HO378.out | exact casematelaw04_BpolyLaws.strV Try.underlying22 Try.underlying5 Try.underlying9 (Kd.V_step HO378.out (fun _ _ _ => rfl)))
           refine norm_ (a' := ?_) ?_ ?_
           rotate_left; (simp only [putAll, Act.put, List.setIfInBounds_toArray, List.set_cons_zero, List.set_cons_succ]; rfl)
           refine one_ (i := 36) (N := some 95) #[true, true, true, true, true, true, true, true, true, true, true, true, true, true, true, true, true, true, true, true, true, true, true, true, true, true, true, true, true, true, true, true, true, true, true, true, true, false, false, false, false, false, false, false, false, false] rfl rfl (one_of HT_.out (by kernel_rfl)) (by decide) (fun K hK => ?_)
           have hcv49 := casematelaw04_BpolyLaws.strV Try.underlying22 Try.underlying5 Try.underlying9 HO408.out
           refine value_ (w1 := ?_) (v := ?_) (by rfl) rfl ?_ ?_
           rotate_left 2
           ·go_simp
            constructor
            ·rfl
            ·rfl
           clear hcv49
           refine hK.out _ _ (by first | exact casematelaw04_BpolyLaws.strV Try.underlying22 Try.underlying5 Try.underlying9 HO378.out | exact casematelaw04_BpolyLaws.strV Try.underlying22 Try.underlying5 Try.underlying9 (Kd.V_step HO378.out (fun _ _ _ => rfl))) (fun hHeld => ?_)
           clear hK K
           refine uN (some 95) _ ?_
           exact norm_ (by first | (simp only [putAll, Act.put, List.setIfInBounds_toArray, List.set_cons_zero, List.set_cons_succ]; done) | (simp only [putAll, Act.put, List.setIfInBounds_toArray, List.set_cons_zero, List.set_cons_succ]; rfl)) (hJ15_19_20_21_28_29_30_34_35_36 (v392, v395, v398, v401, v404, v407) _ ⟨(uV HO378.out), (uV HO387.out), (uV HO390.out), (uV HO393.out), (uV HO396.out), (uV HO399.out), (uV HO402.out), (uV HO405.out), (uV HO408.out), (uB HB.out)⟩)
         rintro ⟨v392, v395, v398, v401, v404, v407⟩ w49 ⟨h0_, h1_, h2_, h3_, h4_, h5_, h6_, h7_, h8_, h9_⟩
         have n0_ : Aside0 (Kd.V (Kd.int .u8) 5 w49 w.heap.size (fun _ => True) (.slice Ao17 t376.length co17) t376) := ⟨h0_⟩
         have n1_ : Aside0 (Kd.V (Kd.int .u8) 5 w49 w.heap.size (fun _ => True) v386 t385) := ⟨h1_⟩
         have n2_ : Aside0 (Kd.V (Kd.int .u8) 5 w49 w.heap.size (fun _ => True) v389 t388) := ⟨h2_⟩
         have n3_ : Aside0 (Kd.V (Kd.int .u8) 5 w49 w.heap.size (fun _ => True) v392 t391) := ⟨h3_⟩
         have n4_ : Aside0 (Kd.V (Kd.int .u8) 5 w49 w.heap.size (fun _ => True) v395 t394) := ⟨h4_⟩
         have n5_ : Aside0 (Kd.V (Kd.int .u8) 5 w49 w.heap.size (fun _ => True) v398 t397) := ⟨h5_⟩
         have n6_ : Aside0 (Kd.V (Kd.int .u8) 5 w49 w.heap.size (fun _ => True) v401 t400) := ⟨h6_⟩
         have n7_ : Aside0 (Kd.V (Kd.int .u8) 5 w49 w.heap.size (fun _ => True) v404 t403) := ⟨h7_⟩
         have n8_ : Aside0 (Kd.V (Kd.int .u8) 5 w49 w.heap.size (fun _ => True) v407 t406) := ⟨h8_⟩
         have n9_ : Aside0 (Below w.heap.size w w49) := ⟨h9_⟩
         clear HO378
         clear HB
         clear h0_ h1_ h2_ h3_ h4_ h5_ h6_ h7_ h8_ h9_
         have HO378 := n0_
         have HO387 := n1_
         have HO390 := n2_
         have HO393 := n3_
         have HO396 := n4_
         have HO399 := n5_
         have HO402 := n6_
         have HO405 := n7_
         have HO408 := n8_
         have HB := n9_
         clear n0_ n1_ n2_ n3_ n4_ n5_ n6_ n7_ n8_ n9_
         have hHeld := (by first | exact casematelaw04_BpolyLaws.strV Try.underlying22 Try.underlying5 Try.underlying9 HO378.out | exact casematelaw04_BpolyLaws.strV Try.underlying22 Try.underlying5 Try.underlying9 (Kd.V_step HO378.out (fun _ _ _ => rfl)))
         refine norm_ (a' := ?_) ?_ ?_
         rotate_left; (simp only [putAll, Act.put, List.setIfInBounds_toArray, List.set_cons_zero, List.set_cons_succ]; rfl)
         refine uP HT_ 37 (some 96) (lb 46 274877906943) ?_
         refine uP HT_ 38 (some 97) (lb 46 549755813887) ?_
         refine uP HT_ 39 (some 98) (lb 46 1099511627775) ?_
         refine uP HT_ 40 (some 99) (lb 46 2199023255551) ?_
         refine uP HT_ 41 (some 100) (lb 46 4398046511103) ?_
         refine uP HT_ 42 (some 101) (lb 46 8796093022207) ?_
         refine one_ (i := 43) (N := some 102) #[true, true, true, true, true, true, true, true, true, true, true, true, true, true, true, true, true, true, true, true, true, true, true, true, true, true, true, true, true, true, true, true, true, true, true, true, true, true, true, true, true, true, true, true, false, false] rfl rfl (one_of HT_.out (by kernel_rfl)) (by decide) (fun K hK => ?_)
         refine goes_ Try.func27 (by kernel_rfl) rfl #[.int .i64 t379, .int .i64 t381] (by rfl) rfl rfl (by (try simp only [List.map_toArray, List.map_cons, List.map_nil]); first | done | rfl | (simp only [List.length_drop, List.length_take]; rfl)) ?_
         with_reducible refine (casemateref02_Mul.calls kj4 t379 t381 t409 _ A30.out).mono ?_
         rintro e w' ⟨rfl, ⟨nd, rfl⟩⟩
         refine ⟨_, rfl, ?_⟩
         refine hK.out _ _ (by first | exact casematelaw04_BpolyLaws.strV Try.underlying22 Try.underlying5 Try.underlying9 HO378.out | exact casematelaw04_BpolyLaws.strV Try.underlying22 Try.underlying5 Try.underlying9 (Kd.V_step HO378.out (fun _ _ _ => rfl))) (fun hHeld => ?_)
         clear hK K
         refine uN (some 102) _ ?_
         refine uP HT_ 44 (some 103) (lb 46 35184372088831) ?_
         refine uP HT_ 45 (some 104) (lb 46 70368744177663) ?_
         refine done_ (done_of HT_.out (by kernel_rfl)) ?_
         try go_wp2
         go_meet
         case rel => exact ⟨_, ((t383 != t409)), rfl, H', ⟨by have := HJ4.out; omega⟩, ⟨uB HB.out⟩⟩
        ·rw [if_neg c29] at H
         (try rw [hr_.out] at H)
         exact absurd H (casematelaw04_BpolyLaws.j1_no _ _ _ _)
       ·rw [if_neg c24] at H
        (try rw [hr_.out] at H)
        exact absurd H (casematelaw04_BpolyLaws.j1_no _ _ _ _)
      ·rw [if_neg c20] at H
       (try rw [hr_.out] at H)
       exact absurd H (casematelaw04_BpolyLaws.j1_no _ _ _ _)
     ·rw [if_neg c18] at H
      (try rw [hr_.out] at H)
      exact absurd H (casematelaw04_BpolyLaws.j1_no _ _ _ _)
    case rest =>
     clear HC15
     obtain ⟨kq, x104_14, rfl, HA, HJ14, HB⟩ := hcut
     cases kq with
     | zero => exact absurd HA.out (by simp [casematelaw04_BpolyLaws.j1])
     | succ kj14 =>
      have H := HA.out
      clear HA
      simp only [casematelaw04_BpolyLaws.j1] at H
      by_cases c85 : x104_14 = true
      ·subst c85
       have H1 : (some false) = some r := by rw [if_pos rfl] at H; exact H
       rw [hr_.out] at H1
       exact absurd H1 (by simp)
      ·replace c85 := Bool.eq_false_iff.mpr c85
       subst c85
       replace H := uJ uN0 H
       obtain ⟨t410, A86, H⟩ := uO H
       by_cases c87 : t410 < 0
       ·rw [if_pos c87] at H
        have c87b0 : decide (t410 < 0) = true := decide_eq_true c87
        clear c87
        obtain ⟨t411, A88, H⟩ := uO H
        obtain rfl := Option.some.inj H
        go_wp2_with (first | ((with_reducible refine gate_callee (f := 23) rfl ?_); refine uG (some 106) Try.func23 #[.slice A2 l2.length c2] ?_; (with_reducible refine (bpoly_Degree.calls kj14 _ _ l2 t410 _ ?side1 ?side2 A86.out).mono ?_); (case side1 => exact uC (Kd.C_below HR2.out HB.out)); (case side2 => exact HC2.out); rintro e w89 ⟨rfl, hb⟩; refine ⟨_, rfl, ?_⟩; replace HB := uBb HB hb) | ((with_reducible refine gate_callee (f := 11) rfl ?_); refine uG (some 108) Try.func11 #[] ?_; (with_reducible refine (casematelaw04_awake.calls kj14  t411 _ A88.out).mono ?_); rintro e w90 ⟨rfl, hb⟩; refine ⟨_, rfl, ?_⟩; replace HB := uBb HB hb))
        go_ret
        exact ⟨rfl, uB HB.out⟩
       ·rw [if_neg c87] at H
        have c87b0 : decide (t410 < 0) = false := decide_eq_false c87
        clear c87
        obtain ⟨⟨t412, t415⟩, A91, H⟩ := uO H
        dsimp only at H
        obtain ⟨⟨t416, t419⟩, A92, H⟩ := uO H
        dsimp only at H
        obtain ⟨t420, A93, H⟩ := uO H
        obtain ⟨⟨t423, t426⟩, A94, H⟩ := uO H
        dsimp only at H
        obtain ⟨t427, A95, H⟩ := uO H
        obtain ⟨⟨t430, t433⟩, A96, H⟩ := uO H
        dsimp only at H
        obtain ⟨t434, A97, H⟩ := uO H
        by_cases c98 : t434 = true
        ·subst c98
         replace H := uI rfl H
         by_cases c99 : t415 = 0
         ·rw [if_pos c99] at H
          have c99b0 : (t415 == 0) = true := beq_iff_eq.mpr c99
          have c99b1 : (t415 != 0) = false := bne_eq_false_iff_eq.mpr c99
          clear c99
          by_cases c100 : t419 = t415
          ·rw [if_pos c100] at H
           have c100b0 : (t419 == t415) = true := beq_iff_eq.mpr c100
           have c100b1 : (t419 != t415) = false := bne_eq_false_iff_eq.mpr c100
           clear c100
           by_cases c101 : t426 = t415
           ·rw [if_pos c101] at H
            have c101b0 : (t426 == t415) = true := beq_iff_eq.mpr c101
            have c101b1 : (t426 != t415) = false := bne_eq_false_iff_eq.mpr c101
            clear c101
            by_cases c102 : t433 = t415
            ·rw [if_pos c102] at H
             have c102b0 : (t433 == t415) = true := beq_iff_eq.mpr c102
             have c102b1 : (t433 != t415) = false := bne_eq_false_iff_eq.mpr c102
             clear c102
             obtain ⟨t435, A103, H⟩ := uO H
             by_cases c104 : (strOfNums t423).toList = (strOfNums t435).toList
             ·rw [if_pos c104] at H
              have c104b0 : ((strOfNums t423).toList == (strOfNums t435).toList) = true := beq_iff_eq.mpr c104
              have c104b1 : ((strOfNums t423).toList != (strOfNums t435).toList) = false := bne_eq_false_iff_eq.mpr c104
              clear c104
              by_cases c105 : (t430.length : Int) = 0
              ·rw [if_pos c105] at H
               have c105b0 : ((t430.length : Int) == 0) = true := beq_iff_eq.mpr c105
               have c105b1 : ((t430.length : Int) != 0) = false := bne_eq_false_iff_eq.mpr c105
               clear c105
               obtain ⟨t438, A106, H⟩ := uO H
               obtain ⟨t439, A107, H⟩ := uO H
               obtain rfl := Option.some.inj H
               try go_wp2_with (first | ((with_reducible refine gate_callee (f := 23) rfl ?_); refine uG (some 106) Try.func23 #[.slice A2 l2.length c2] ?_; (with_reducible refine (bpoly_Degree.calls kj14 _ _ l2 t410 _ ?side1 ?side2 A86.out).mono ?_); (case side1 => exact uC (Kd.C_below HR2.out HB.out)); (case side2 => exact HC2.out); rintro e w108 ⟨rfl, hb⟩; refine ⟨_, rfl, ?_⟩; replace HB := uBb HB hb) | ((with_reducible refine gate_callee (f := 22) rfl ?_); refine uG (some 112) Try.func22 #[.slice A0 l0.length c0, .slice A2 l2.length c2] ?_; (with_reducible refine (bpoly_Mod.calls kj14 _ _ l0 (fun k_ => k_ < w.heap.size) _ _ l2 t412 t415 _ ?side1 ?side2 ?side3 A91.out).mono ?_); (case side1 => exact uC (Kd.C_below HR0.out HB.out)); (case side2 => exact HC0.out); (case side3 => exact Kd.V_mk HC2.out (Kd.F_below (Kd.C_F (Kd.heap_int .u8) HR2.out) (uB HB.out))); rintro e w109 ⟨v413, rfl, ho0, hb⟩; refine ⟨_, rfl, ?_⟩; have HO414 := uA (Kd.V_lower (Kd.V_mono (ok' := fun k_ => True) ho0 (fun k_ hk_ => trivial)) (below_size (uB HB.out))); replace HB := uBb HB hb) | ((with_reducible refine gate_callee (f := 22) rfl ?_); refine uG (some 118) Try.func22 #[.slice A1 l1.length c1, .slice A2 l2.length c2] ?_; (with_reducible refine (bpoly_Mod.calls kj14 _ _ l1 (fun k_ => k_ < w.heap.size) _ _ l2 t416 t419 _ ?side1 ?side2 ?side3 A92.out).mono ?_); (case side1 => exact uC (Kd.C_below HR1.out HB.out)); (case side2 => exact HC1.out); (case side3 => exact Kd.V_mk HC2.out (Kd.F_below (Kd.C_F (Kd.heap_int .u8) HR2.out) (uB HB.out))); rintro e w110 ⟨v417, rfl, ho0, hb⟩; refine ⟨_, rfl, ?_⟩; replace HO414 := uVb HO414 hb; have HO418 := uA (Kd.V_lower (Kd.V_mono (ok' := fun k_ => True) ho0 (fun k_ hk_ => trivial)) (below_size (uB HB.out))); replace HB := uBb HB hb) | ((with_reducible refine gate_callee (f := 20) rfl ?_); refine uG (some 124) Try.func20 #[.slice A0 l0.length c0, .slice A1 l1.length c1] ?_; (with_reducible refine (bpoly_Add.calls kj14 _ _ l0 _ _ l1 t420 _ ?side1 ?side2 ?side3 ?side4 A93.out).mono ?_); (case side1 => exact uC (Kd.C_below HR0.out HB.out)); (case side2 => exact HC0.out); (case side3 => exact uC (Kd.C_below HR1.out HB.out)); (case side4 => exact HC1.out); rintro e w111 ⟨v421, rfl, ho0, hb⟩; refine ⟨_, rfl, ?_⟩; replace HO414 := uVb HO414 hb; replace HO418 := uVb HO418 hb; have HO422 := uA (Kd.V_lower (Kd.V_mono (ok' := fun k_ => True) ho0 (fun k_ hk_ => trivial)) (below_size (uB HB.out))); replace HB := uBb HB hb; obtain ⟨Ao112, co112, eo112⟩ := Kd.V_slice HO422.out; subst eo112) | ((with_reducible refine gate_callee (f := 22) rfl ?_); refine uG (some 126) Try.func22 #[.slice Ao112 t420.length co112, .slice A2 l2.length c2] ?_; (with_reducible refine (bpoly_Mod.calls kj14 _ _ t420 (fun k_ => k_ < w.heap.size) _ _ l2 t423 t426 _ ?side1 ?side2 ?side3 A94.out).mono ?_); (case side1 => exact uC (Kd.V_reads' HO422.out).2.2); (case side2 => exact (Kd.V_reads' HO422.out).2.1); (case side3 => exact Kd.V_mk HC2.out (Kd.F_below (Kd.C_F (Kd.heap_int .u8) HR2.out) (uB HB.out))); rintro e w113 ⟨v424, rfl, ho0, hb⟩; refine ⟨_, rfl, ?_⟩; replace HO414 := uVb HO414 hb; replace HO418 := uVb HO418 hb; replace HO422 := uVb HO422 hb; have HO425 := uA (Kd.V_lower (Kd.V_mono (ok' := fun k_ => True) ho0 (fun k_ hk_ => trivial)) (below_size (uB HB.out))); replace HB := uBb HB hb) | ((with_reducible refine gate_callee (f := 21) rfl ?_); refine uG (some 132) Try.func21 #[.slice A0 l0.length c0, .slice A2 l2.length c2] ?_; (with_reducible refine (bpoly_Mul.calls kj14 _ _ l0 _ _ l2 t427 _ ?side1 ?side2 ?side3 ?side4 A95.out).mono ?_); (case side1 => exact uC (Kd.C_below HR0.out HB.out)); (case side2 => exact HC0.out); (case side3 => exact uC (Kd.C_below HR2.out HB.out)); (case side4 => exact HC2.out); rintro e w114 ⟨v428, rfl, ho0, hb⟩; refine ⟨_, rfl, ?_⟩; replace HO414 := uVb HO414 hb; replace HO418 := uVb HO418 hb; replace HO422 := uVb HO422 hb; replace HO425 := uVb HO425 hb; have HO429 := uA (Kd.V_lower (Kd.V_mono (ok' := fun k_ => True) ho0 (fun k_ hk_ => trivial)) (below_size (uB HB.out))); replace HB := uBb HB hb; obtain ⟨Ao115, co115, eo115⟩ := Kd.V_slice HO429.out; subst eo115) | ((with_reducible refine gate_callee (f := 22) rfl ?_); refine uG (some 134) Try.func22 #[.slice Ao115 t427.length co115, .slice A2 l2.length c2] ?_; (with_reducible refine (bpoly_Mod.calls kj14 _ _ t427 (fun k_ => k_ < w.heap.size) _ _ l2 t430 t433 _ ?side1 ?side2 ?side3 A96.out).mono ?_); (case side1 => exact uC (Kd.V_reads' HO429.out).2.2); (case side2 => exact (Kd.V_reads' HO429.out).2.1); (case side3 => exact Kd.V_mk HC2.out (Kd.F_below (Kd.C_F (Kd.heap_int .u8) HR2.out) (uB HB.out))); rintro e w116 ⟨v431, rfl, ho0, hb⟩; refine ⟨_, rfl, ?_⟩; replace HO414 := uVb HO414 hb; replace HO418 := uVb HO418 hb; replace HO422 := uVb HO422 hb; replace HO425 := uVb HO425 hb; replace HO429 := uVb HO429 hb; have HO432 := uA (Kd.V_lower (Kd.V_mono (ok' := fun k_ => True) ho0 (fun k_ hk_ => trivial)) (below_size (uB HB.out))); replace HB := uBb HB hb; obtain ⟨Ao117, co117, eo117⟩ := Kd.V_slice HO414.out; subst eo117; obtain ⟨Ao118, co118, eo118⟩ := Kd.V_slice HO418.out; subst eo118))
               replace HO414 := uA (Kd.V_drew HO414.out); replace HO418 := uA (Kd.V_drew HO418.out); replace HO422 := uA (Kd.V_drew HO422.out); replace HO425 := uA (Kd.V_drew HO425.out); replace HO429 := uA (Kd.V_drew HO429.out); replace HO432 := uA (Kd.V_drew HO432.out); replace HB := uA (below_drew1 HB.out)
               refine start_ (n := 42) (S := fun w' => Sem.run Try.prog (convert 22 9 (v424)) w' = .ok (.string (strOfNums t423)) w') (ds := []) #[false, false, false, false, false, false, false, false, false, false, false, false, false, false, false, false, false, false, false, false, false, false, false, false, false, false, false, false, false, false, false, false, false, false, false, false, false, false, false, false, false, false] (by kernel_rfl) rfl rfl (by first | exact casematelaw04_BpolyLaws.strV Try.underlying22 Try.underlying5 Try.underlying9 HO425.out | exact casematelaw04_BpolyLaws.strV Try.underlying22 Try.underlying5 Try.underlying9 (Kd.V_step HO425.out (fun _ _ _ => rfl))) (fun hHeld => ?_); refine with_tabW casematelaw04_BpolyLaws.tab15 casematelaw04_BpolyLaws.bits15 (fun HT_ HW_ => ?_)
               generalize w116.drew = w119 at HO414 HO418 HO422 HO425 HO429 HO432 HB hHeld ⊢
               refine one_ (i := 0) (N := some 137) #[true, false, false, false, false, false, false, false, false, false, false, false, false, false, false, false, false, false, false, false, false, false, false, false, false, false, false, false, false, false, false, false, false, false, false, false, false, false, false, false, false, false] rfl rfl (one_of HT_.out (by kernel_rfl)) (by decide) (fun K hK => ?_)
               refine goes_ Try.func11 (by kernel_rfl) rfl #[] (by rfl) rfl rfl (by (try simp only [List.map_toArray, List.map_cons, List.map_nil]); first | done | rfl | (simp only [List.length_drop, List.length_take]; rfl)) ?_
               with_reducible refine (casematelaw04_awake.calls kj14  true _ A97.out).mono ?_
               rintro e w120 ⟨rfl, hb⟩
               refine ⟨_, rfl, ?_⟩
               replace HO414 := uVb HO414 hb; replace HO418 := uVb HO418 hb; replace HO422 := uVb HO422 hb; replace HO425 := uVb HO425 hb; replace HO429 := uVb HO429 hb; replace HO432 := uVb HO432 hb; replace HB := uBb HB hb
               have hcv121 := casematelaw04_BpolyLaws.strV Try.underlying22 Try.underlying5 Try.underlying9 HO425.out
               refine hK.out _ _ (by first | exact casematelaw04_BpolyLaws.strV Try.underlying22 Try.underlying5 Try.underlying9 HO425.out | exact casematelaw04_BpolyLaws.strV Try.underlying22 Try.underlying5 Try.underlying9 (Kd.V_step HO425.out (fun _ _ _ => rfl))) (fun hHeld => ?_)
               clear hK K
               refine uN (some 137) _ ?_
               refine uP HT_ 1 (some 138) (lb 42 3) ?_
               refine uP HT_ 2 (some 139) (lb 42 7) ?_
               refine uP HT_ 3 (some 140) (lb 42 15) ?_
               refine uP HT_ 4 (some 141) (lb 42 31) ?_
               refine uP HT_ 5 (some 142) (lb 42 63) ?_
               refine uP HT_ 6 (some 143) (lb 42 127) ?_
               refine uP HT_ 7 (some 144) (lb 42 255) ?_
               refine uP HT_ 8 (some 145) (lb 42 511) ?_
               refine uP HT_ 9 (some 146) (lb 42 1023) ?_
               refine uP HT_ 10 (some 147) (lb 42 2047) ?_
               refine uP HT_ 11 (some 148) (lb 42 4095) ?_
               refine uP HT_ 12 (some 149) (lb 42 8191) ?_
               refine uP HT_ 13 (some 150) (lb 42 16383) ?_
               refine uP HT_ 14 (some 151) (lb 42 32767) ?_
               refine uP HT_ 15 (some 152) (lb 42 65535) ?_
               refine uP HT_ 16 (some 153) (lb 42 131071) ?_
               refine uP HT_ 17 (some 154) (lb 42 262143) ?_
               refine uP HT_ 18 (some 155) (lb 42 524287) ?_
               refine uP HT_ 19 (some 156) (lb 42 1048575) ?_
               refine uP HT_ 20 (some 157) (lb 42 2097151) ?_
               refine uP HT_ 21 (some 158) (lb 42 4194303) ?_
               refine uT HT_ HW_ 22 (some 159) (lb 42 8388607) rfl hHeld ?_ (by rintro w' s0; go_simp; with_reducible rfl)
               refine uP HT_ 23 (some 160) (lb 42 16777215) ?_
               refine uP HT_ 24 (some 161) (lb 42 33554431) ?_
               refine one_ (i := 25) (N := some 162) #[true, true, true, true, true, true, true, true, true, true, true, true, true, true, true, true, true, true, true, true, true, true, true, true, true, true, false, false, false, false, false, false, false, false, false, false, false, false, false, false, false, false] rfl rfl (one_of HT_.out (by kernel_rfl)) (by decide) (fun K hK => ?_)
               refine goes_ Try.func20 (by kernel_rfl) rfl #[.slice Ao117 t412.length co117, .slice Ao118 t416.length co118] (by rfl) rfl rfl (by (try simp only [List.map_toArray, List.map_cons, List.map_nil]); first | done | rfl | (simp only [List.length_drop, List.length_take]; rfl)) ?_
               with_reducible refine (bpoly_Add.calls kj14 _ _ t412 _ _ t416 t435 _ ?side1 ?side2 ?side3 ?side4 A103.out).mono ?_
               (case side1 => exact uC (Kd.V_reads' HO414.out).2.2)
               (case side2 => exact (Kd.V_reads' HO414.out).2.1)
               (case side3 => exact uC (Kd.V_reads' HO418.out).2.2)
               (case side4 => exact (Kd.V_reads' HO418.out).2.1)
               rintro e w122 ⟨v436, rfl, ho0, hb⟩
               refine ⟨_, rfl, ?_⟩
               replace HO414 := uVb HO414 hb; replace HO418 := uVb HO418 hb; replace HO422 := uVb HO422 hb; replace HO425 := uVb HO425 hb; replace HO429 := uVb HO429 hb; replace HO432 := uVb HO432 hb; have HO437 := uA (Kd.V_lower (Kd.V_mono (ok' := fun k_ => True) ho0 (fun k_ hk_ => trivial)) (below_size (uB HB.out))); replace HB := uBb HB hb
               obtain ⟨Ao124, co124, eo124⟩ := Kd.V_slice HO432.out
               (first | subst eo124 | (injection eo124 with f1_ f2_ f3_; have f4_ := f1_.symm; have f5_ := f3_.symm; clear f1_ f2_ f3_; subst f4_; subst f5_))
               refine hK.out _ _ (by first | exact casematelaw04_BpolyLaws.strV Try.underlying22 Try.underlying5 Try.underlying9 HO425.out | exact casematelaw04_BpolyLaws.strV Try.underlying22 Try.underlying5 Try.underlying9 (Kd.V_step HO425.out (fun _ _ _ => rfl))) (fun hHeld => ?_)
               clear hK K
               refine uN (some 162) _ ?_
               refine one_ (i := 26) (N := some 163) #[true, true, true, true, true, true, true, true, true, true, true, true, true, true, true, true, true, true, true, true, true, true, true, true, true, true, true, false, false, false, false, false, false, false, false, false, false, false, false, false, false, false] rfl rfl (one_of HT_.out (by kernel_rfl)) (by decide) (fun K hK => ?_)
               have hcv123 := casematelaw04_BpolyLaws.strV Try.underlying22 Try.underlying5 Try.underlying9 HO437.out
               refine value_ (w1 := ?_) (v := ?_) (by rfl) rfl ?_ ?_
               rotate_left 2
               ·go_simp
                constructor
                ·rfl
                ·rfl
               clear hcv123
               refine hK.out _ _ (by first | exact casematelaw04_BpolyLaws.strV Try.underlying22 Try.underlying5 Try.underlying9 HO425.out | exact casematelaw04_BpolyLaws.strV Try.underlying22 Try.underlying5 Try.underlying9 (Kd.V_step HO425.out (fun _ _ _ => rfl))) (fun hHeld => ?_)
               clear hK K
               refine uN (some 163) _ ?_
               refine uP HT_ 27 (some 164) (lb 42 268435455) ?_
               refine uP HT_ 28 (some 165) (lb 42 536870911) ?_
               refine uP HT_ 29 (some 166) (lb 42 1073741823) ?_
               refine uP HT_ 30 (some 167) (lb 42 2147483647) ?_
               refine uP HT_ 31 (some 168) (lb 42 4294967295) ?_
               refine uP HT_ 32 (some 169) (lb 42 8589934591) ?_
               refine uP HT_ 33 (some 170) (lb 42 17179869183) ?_
               refine uP HT_ 34 (some 171) (lb 42 34359738367) ?_
               refine uP HT_ 35 (some 172) (lb 42 68719476735) ?_
               refine uP HT_ 37 (some 174) (lb 42 206158430207) ?_
               refine one_ (i := 36) (N := some 173) #[true, true, true, true, true, true, true, true, true, true, true, true, true, true, true, true, true, true, true, true, true, true, true, true, true, true, true, true, true, true, true, true, true, true, true, true, true, true, false, false, false, false] rfl rfl (one_of HT_.out (by kernel_rfl)) (by decide) (fun K hK => ?_)
               refine goes_ Try.func23 (by kernel_rfl) rfl #[.slice Ao117 t412.length co117] (by rfl) rfl rfl (by (try simp only [List.map_toArray, List.map_cons, List.map_nil]); first | done | rfl | (simp only [List.length_drop, List.length_take]; rfl)) ?_
               with_reducible refine (bpoly_Degree.calls kj14 _ _ t412 t438 _ ?side1 ?side2 A106.out).mono ?_
               (case side1 => exact uC (Kd.V_reads' HO414.out).2.2)
               (case side2 => exact (Kd.V_reads' HO414.out).2.1)
               rintro e w126 ⟨rfl, hb⟩
               refine ⟨_, rfl, ?_⟩
               replace HO414 := uVb HO414 hb; replace HO418 := uVb HO418 hb; replace HO422 := uVb HO422 hb; replace HO425 := uVb HO425 hb; replace HO429 := uVb HO429 hb; replace HO432 := uVb HO432 hb; replace HO437 := uVb HO437 hb; replace HB := uBb HB hb
               refine hK.out _ _ (by first | exact casematelaw04_BpolyLaws.strV Try.underlying22 Try.underlying5 Try.underlying9 HO425.out | exact casematelaw04_BpolyLaws.strV Try.underlying22 Try.underlying5 Try.underlying9 (Kd.V_step HO425.out (fun _ _ _ => rfl))) (fun hHeld => ?_)
               clear hK K
               refine uN (some 173) _ ?_
               refine one_ (i := 38) (N := some 175) #[true, true, true, true, true, true, true, true, true, true, true, true, true, true, true, true, true, true, true, true, true, true, true, true, true, true, true, true, true, true, true, true, true, true, true, true, true, true, true, false, false, false] rfl rfl (one_of HT_.out (by kernel_rfl)) (by decide) (fun K hK => ?_)
               refine goes_ Try.func23 (by kernel_rfl) rfl #[.slice A2 l2.length c2] (by rfl) rfl rfl (by (try simp only [List.map_toArray, List.map_cons, List.map_nil]); first | done | rfl | (simp only [List.length_drop, List.length_take]; rfl)) ?_
               with_reducible refine (bpoly_Degree.calls kj14 _ _ l2 t439 _ ?side1 ?side2 A107.out).mono ?_
               (case side1 => exact uC (Kd.C_below HR2.out HB.out))
               (case side2 => exact HC2.out)
               rintro e w127 ⟨rfl, hb⟩
               refine ⟨_, rfl, ?_⟩
               replace HO414 := uVb HO414 hb; replace HO418 := uVb HO418 hb; replace HO422 := uVb HO422 hb; replace HO425 := uVb HO425 hb; replace HO429 := uVb HO429 hb; replace HO432 := uVb HO432 hb; replace HO437 := uVb HO437 hb; replace HB := uBb HB hb
               refine hK.out _ _ (by first | exact casematelaw04_BpolyLaws.strV Try.underlying22 Try.underlying5 Try.underlying9 HO425.out | exact casematelaw04_BpolyLaws.strV Try.underlying22 Try.underlying5 Try.underlying9 (Kd.V_step HO425.out (fun _ _ _ => rfl))) (fun hHeld => ?_)
               clear hK K
               refine uN (some 175) _ ?_
               refine uP HT_ 39 (some 176) (lb 42 1099511627775) ?_
               refine uP HT_ 40 (some 177) (lb 42 2199023255551) ?_
               refine uP HT_ 41 (some 8) (lb 42 4398046511103) ?_
               refine done_ (done_of HT_.out (by kernel_rfl)) ?_
               try go_wp2
               go_ret
               exact ⟨by first | rfl | (simp [errW_none, errW_some] <;> rfl) | (simp [*, errW_none, errW_some] <;> rfl), uB HB.out⟩
              ·rw [if_neg c105] at H
               (try rw [hr_.out] at H)
               cases H
             ·rw [if_neg c104] at H
              (try rw [hr_.out] at H)
              cases H
            ·rw [if_neg c102] at H
             (try rw [hr_.out] at H)
             cases H
           ·rw [if_neg c101] at H
            (try rw [hr_.out] at H)
            cases H
          ·rw [if_neg c100] at H
           (try rw [hr_.out] at H)
           cases H
         ·rw [if_neg c99] at H
          (try rw [hr_.out] at H)
          cases H
        ·replace c98 := Bool.eq_false_iff.mpr c98
         subst c98
         have H1 : (some false) = some r := by rw [if_neg (show ¬ (false = true) by decide)] at H; exact H
         rw [hr_.out] at H1
         exact absurd H1 (by simp)
/-- THE ONE PURE STATEMENT of casematelaw04_BpolyLaws: yours. -/
def casematelaw04_BpolyLaws.Pure : Prop := ∀ (l0 : List Int) (l1 : List Int) (l2 : List Int) (a3 : Int), l0.length ≤ maxLen → l0.length * 1 ≤ 140737488351232 → (∀ x ∈ l0, (Lit.int .u8 x).wf = true) → l1.length ≤ maxLen → l1.length * 1 ≤ 140737488351232 → (∀ x ∈ l1, (Lit.int .u8 x).wf = true) → l2.length ≤ maxLen → l2.length * 1 ≤ 140737488351232 → (∀ x ∈ l2, (Lit.int .u8 x).wf = true) → (Lit.int .i64 a3).wf = true → ∃ k, casematelaw04_BpolyLaws.f k l0 l1 l2 a3 = some true
theorem casematelaw04_BpolyLaws.walk (P : casematelaw04_BpolyLaws.Pure) (a0 : Option Addr) (len0 cap0 : Nat) (z0 : List Int) (a1 : Option Addr) (len1 cap1 : Nat) (z1 : List Int) (a2 : Option Addr) (len2 cap2 : Nat) (z2 : List Int) (a3 : Int) (w : World) (w0 : (a0 = none ∧ len0 = 0 ∧ cap0 = 0 ∧ z0 = []) ∨ ∃ x, a0 = some x ∧ len0 ≤ cap0 ∧ cap0 ≤ maxLen ∧ z0.length = cap0 ∧ (∀ i, i < z0.length → w.cell? (x.add i) = some (.int .u8 (z0.getD i 0))) ∧ ∀ n ∈ z0, (Lit.int .u8 n).wf = true) (y0 : len0 * 1 ≤ 140737488351232) (w1 : (a1 = none ∧ len1 = 0 ∧ cap1 = 0 ∧ z1 = []) ∨ ∃ x, a1 = some x ∧ len1 ≤ cap1 ∧ cap1 ≤ maxLen ∧ z1.length = cap1 ∧ (∀ i, i < z1.length → w.cell? (x.add i) = some (.int .u8 (z1.getD i 0))) ∧ ∀ n ∈ z1, (Lit.int .u8 n).wf = true) (y1 : len1 * 1 ≤ 140737488351232) (w2 : (a2 = none ∧ len2 = 0 ∧ cap2 = 0 ∧ z2 = []) ∨ ∃ x, a2 = some x ∧ len2 ≤ cap2 ∧ cap2 ≤ maxLen ∧ z2.length = cap2 ∧ (∀ i, i < z2.length → w.cell? (x.add i) = some (.int .u8 (z2.getD i 0))) ∧ ∀ n ∈ z2, (Lit.int .u8 n).wf = true) (y2 : len2 * 1 ≤ 140737488351232) (w3 : (Lit.int .i64 a3).wf = true) :
  Calls Try.prog 7 #[.slice a0 len0 cap0, .slice a1 len1 cap1, .slice a2 len2 cap2, .int .i64 a3] w fun e w' => e = .returned (.bool true) ∧ Below w.heap.size w w' := by
 obtain ⟨l0, rfl, hr0, hm0, hw0, hc0⟩ := ReadsInt.ofRowC w0
 obtain ⟨l1, rfl, hr1, hm1, hw1, hc1⟩ := ReadsInt.ofRowC w1
 obtain ⟨l2, rfl, hr2, hm2, hw2, hc2⟩ := ReadsInt.ofRowC w2
 obtain ⟨k, h⟩ := P l0 l1 l2 a3 hm0 y0 hw0 hm1 y1 hw1 hm2 y2 hw2 w3
 refine (casematelaw04_BpolyLaws.calls k _ _ l0 _ _ l1 _ _ l2 a3 true rfl w (Kd.C_of_reads (d := (0 : Int)) (h1 := fun _ => rfl) hr0) hc0 (Kd.C_of_reads (d := (0 : Int)) (h1 := fun _ => rfl) hr1) hc1 (Kd.C_of_reads (d := (0 : Int)) (h1 := fun _ => rfl) hr2) hc2 h).mono ?_
 rintro e w' ⟨rfl, hd⟩
 exact ⟨rfl, hd⟩
mutual
def casemateref04_Mul.l0 : Nat → List Int → List Int → List Int → Int → Option (List Int)
  | 0, _, _, _, _ => none
  | k + 1, x0, x1, x5, x6 => if x6 < (x0.length : Int) then (casemateref04_Mul.l1 k x0 x1 x5 x6 0) else (some x5)
def casemateref04_Mul.l1 : Nat → List Int → List Int → List Int → Int → Int → Option (List Int)
  | 0, _, _, _, _, _ => none
  | k + 1, x0, x1, x5, x6, x7 => if x7 < (x1.length : Int) then (if 0 ≤ (wrap64 (x6 + x7)) then (if (wrap64 (x6 + x7)) < (x5.length : Int) then (if 0 ≤ x6 then (if x6 < (x0.length : Int) then (if 0 ≤ x7 then (casemateref04_Mul.l1 k x0 x1 (x5.set ((wrap64 (x6 + x7)) : Int).toNat (Int.tmod (wrap64 ((rd x5 (wrap64 (x6 + x7))) + (wrap64 ((rd x0 x6) * (rd x1 x7))))) 2)) x6 (wrap64 (x7 + 1))) else (none)) else (none)) else (none)) else (none)) else (none)) else (casemateref04_Mul.l0 k x0 x1 x5 (wrap64 (x6 + 1)))
end
def casemateref04_Mul.f (k : Nat) (l0 : List Int) (l1 : List Int) : Option (List Int) := if 0 ≤ (wrap64 ((l0.length : Int) + (l1.length : Int))) then (if (wrap64 ((l0.length : Int) + (l1.length : Int)) : Int).toNat ≤ 35184372088832 then (casemateref04_Mul.l0 k l0 l1 (List.replicate (wrap64 ((l0.length : Int) + (l1.length : Int)) : Int).toNat 0) 0) else (none)) else (none)
def casemateref04_Mul.T8 : Bool × List (List Nat × List Nat) := (true, [([], []), ([], []), ([], []), ([1, 2], [1, 2]), ([], []), ([], []), ([], []), ([5, 6], [5, 6]), ([4, 7], [4, 7]), ([8], [8]), ([], []), ([], []), ([10, 11], [10, 11]), ([12], [12]), ([], []), ([], []), ([14, 15], [14, 15]), ([16], [16]), ([13, 17], [13, 17]), ([9, 18], [9, 18]), ([19], [19]), ([0, 3, 0, 1, 2, 3, 4, 5, 6, 7, 8, 9, 10, 11, 12, 13, 14, 15, 16, 17, 18, 19, 20], [0, 3]), ([21, 20, 0, 1, 2, 3, 4, 5, 6, 7, 8, 9, 10, 11, 12, 13, 14, 15, 16, 17, 18, 19, 20], [20, 21])])
def casemateref04_Mul.B8 : List Nat := [0, 0, 0, 6, 0, 0, 0, 96, 240, 496, 0, 0, 3072, 7168, 0, 0, 49152, 114688, 261120, 524272, 1048560, 2097151, 4194303]
mutual
def casemateref01_Put.l0 : Nat → List Int → List Int → Int → Option (List Int)
  | 0, _, _, _ => none
  | k + 1, x0, x3, x4 => if x4 < (x0.length : Int) then (casemateref01_Put.l1 k x0 x3 x4 1 0) else (some x3)
def casemateref01_Put.l1 : Nat → List Int → List Int → Int → Int → Int → Option (List Int)
  | 0, _, _, _, _, _ => none
  | k + 1, x0, x3, x4, x5, x6 => if x6 < (Int.tmod x4 8) then (casemateref01_Put.l1 k x0 x3 x4 (wrap64 (2 * x5)) (wrap64 (x6 + 1))) else (if 0 ≤ (wrap64 (Int.tdiv x4 8)) then (if (wrap64 (Int.tdiv x4 8)) < (x3.length : Int) then (if 0 ≤ x4 then (if x4 < (x0.length : Int) then (casemateref01_Put.l0 k x0 (x3.set ((wrap64 (Int.tdiv x4 8)) : Int).toNat (((rd x3 (wrap64 (Int.tdiv x4 8))) + ((wrap64 (x5 * (rd x0 x4))) % 256)) % 256)) (wrap64 (x4 + 1))) else (none)) else (none)) else (none)) else (none))
end
def casemateref01_Put.f (k : Nat) (l0 : List Int) : Option (List Int) := if 0 ≤ (wrap64 (Int.tdiv (wrap64 ((l0.length : Int) + 7)) 8)) then (if (wrap64 (Int.tdiv (wrap64 ((l0.length : Int) + 7)) 8) : Int).toNat ≤ 281474976710656 then (casemateref01_Put.l0 k l0 (List.replicate (wrap64 (Int.tdiv (wrap64 ((l0.length : Int) + 7)) 8) : Int).toNat 0) 0) else (none)) else (none)
def casemateref01_Put.T10 : Bool × List (List Nat × List Nat) := (true, [([], []), ([], []), ([1], [1]), ([], []), ([], []), ([4], [4]), ([3, 5], [3, 5]), ([6], [6]), ([], []), ([], []), ([], []), ([9, 10], [9, 10]), ([11], [11]), ([8, 12], [8, 12]), ([13], [13]), ([7, 14], [7, 14]), ([0, 2, 0, 1, 2, 3, 4, 5, 6, 7, 8, 9, 10, 11, 12, 13, 14, 15], [0, 2]), ([16, 15, 0, 1, 2, 3, 4, 5, 6, 7, 8, 9, 10, 11, 12, 13, 14, 15], [15, 16])])
def casemateref01_Put.B10 : List Nat := [0, 0, 2, 0, 0, 16, 56, 120, 0, 0, 0, 1536, 3584, 7936, 16128, 32760, 65535, 131071]
def casemateref04_Bytes.f (k : Nat) (l0 : List Int) : Option (List Int) := (casemateref04_Degree.f k l0).bind fun t248 => (if 0 ≤ (wrap64 (t248 + 1)) then (if (wrap64 (t248 + 1)) ≤ (l0.length : Int) then ((casemateref01_Put.f k (l0.take ((wrap64 (t248 + 1)) : Int).toNat)).bind fun t250 => (some t250)) else (none)) else (none))
end Go.Proofs.Ytfclloehamgplaa.P

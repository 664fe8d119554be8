/- What Go functions of the translation come to, as plain functions, and that their calls come to just that. No condition but that the plain function answers. (Written by a program of this session.) -/
import Derived.Test.YtfjmbmlmbchglaaPx0
import Derived.Test.YtfjmbmlmbchglaaPx1
import Derived.Test.YtfjmbmlmbchglaaPx2
import Derived.Test.YtfjmbmlmbchglaaPx3
import Derived.Test.YtfjmbmlmbchglaaPx5
import Derived.Test.YtfjmbmlmbchglaaPx7
import Derived.Test.YtfjmbmlmbchglaaPx9
namespace Go.Proofs.Ytfjmbmlmbchglaa.P
open Go.RowKit Go.Proofs.YtfjmbmlmbchglaaW.PrintWords Go.Proofs.YtfjmbmlmbchglaaW.PrintLast Go.Proofs.YtfjmbmlmbchglaaW.PrintMore
attribute [local go_sem] max2_int min2_int max_two min_two max_three min_three max_four min_four   -- for this text's walks alone
set_option linter.unusedVariables false
set_option linter.unusedSimpArgs false

/-! ### casematelaw03_PolyValues: function 7 -/
mutual
def casematelaw03_PolyValues.j0 : Nat → List Int → List Int → Int → Bool → Option (Bool)
  | 0, _, _, _, _ => none
  | k + 1, x0, x1, x2, x44 => if x44 = true then (some true) else ((poly_Eval.f k x0 x2).bind fun bt349 => ((poly_Eval.f k x1 x2).bind fun bt351 => ((casematelaw03_add.f k x0 x1).bind fun t353 => ((poly_Eval.f k t353 x2).bind fun bt356 => ((casematelaw03_mul.f k x0 x1).bind fun t358 => ((poly_Eval.f k t358 x2).bind fun bt361 => ((poly_Div.f k x0 (([x2, 1] : List Int))).bind fun bt366 => ((poly_Eval.f k bt366.2.1 0).bind fun bt373 => ((casematelaw03_mul.f k x0 x1).bind fun t375 => ((poly_Derive.f k t375).bind fun bt378 => ((poly_Derive.f k x0).bind fun bt382 => ((poly_Derive.f k x1).bind fun bt386 => (if bt349.2 = 0 then (if bt351.2 = bt349.2 then (if bt356.2 = bt349.2 then (if bt361.2 = bt349.2 then (if bt366.2.2 = bt349.2 then (if bt373.2 = bt349.2 then (casematelaw03_PolyValues.j1 k x0 x1 bt349.1 bt351.1 bt356.1 bt361.1 bt373.1 bt378.1 bt382.1 bt386.1 (bt378.2 != bt349.2)) else (casematelaw03_PolyValues.j1 k x0 x1 bt349.1 bt351.1 bt356.1 bt361.1 bt373.1 bt378.1 bt382.1 bt386.1 true)) else (casematelaw03_PolyValues.j1 k x0 x1 bt349.1 bt351.1 bt356.1 bt361.1 bt373.1 bt378.1 bt382.1 bt386.1 true)) else (casematelaw03_PolyValues.j1 k x0 x1 bt349.1 bt351.1 bt356.1 bt361.1 bt373.1 bt378.1 bt382.1 bt386.1 true)) else (casematelaw03_PolyValues.j1 k x0 x1 bt349.1 bt351.1 bt356.1 bt361.1 bt373.1 bt378.1 bt382.1 bt386.1 true)) else (casematelaw03_PolyValues.j1 k x0 x1 bt349.1 bt351.1 bt356.1 bt361.1 bt373.1 bt378.1 bt382.1 bt386.1 true)) else (casematelaw03_PolyValues.j1 k x0 x1 bt349.1 bt351.1 bt356.1 bt361.1 bt373.1 bt378.1 bt382.1 bt386.1 true))))))))))))))
def casematelaw03_PolyValues.j1 : Nat → List Int → List Int → Int → Int → Int → Int → Int → List Int → List Int → List Int → Bool → Option (Bool)
  | 0, _, _, _, _, _, _, _, _, _, _, _ => none
  | k + 1, x0, x1, x7, x9, x11, x13, x18, x20, x22, x24, x134 => if x134 = true then (some false) else ((casematelaw03_awake.f k).bind fun t390 => (if t390 = true then ((casemateref02_Sum.f k x7 x9).bind fun t391 => (if x11 = t391 then ((casemateref02_Mul.f k x7 x9).bind fun t392 => (if x13 = t392 then (if x18 = x7 then ((casematelaw03_mul.f k x22 x1).bind fun t393 => ((casematelaw03_mul.f k x0 x24).bind fun t396 => ((casematelaw03_add.f k t393 t396).bind fun t399 => ((casemateref01_Ints.f k x20 t399).bind fun t402 => (some t402))))) else (some false)) else (some false))) else (some false))) else (some false)))
end
def casematelaw03_PolyValues.f (k : Nat) (l0 : List Int) (l1 : List Int) (a2 : Int) : Option (Bool) := (casematelaw03_small.f l0 l1).bind fun t345 => (if t345 = true then ((casemateref03_Is.f k l0).bind fun t346 => (if t346 = true then ((casemateref03_Is.f k l1).bind fun t347 => (if t347 = true then ((casemateref02_Is.f a2).bind fun t348 => (casematelaw03_PolyValues.j0 k l0 l1 a2 (!t348))) else (casematelaw03_PolyValues.j0 k l0 l1 a2 true))) else (casematelaw03_PolyValues.j0 k l0 l1 a2 true))) else (casematelaw03_PolyValues.j0 k l0 l1 a2 true))
theorem casematelaw03_PolyValues.mono_l : ∀ k, (∀ y0 y1 y2 y3, LeO (casematelaw03_PolyValues.j0 k y0 y1 y2 y3) (casematelaw03_PolyValues.j0 (k + 1) y0 y1 y2 y3)) ∧ (∀ y0 y1 y2 y3 y4 y5 y6 y7 y8 y9 y10, LeO (casematelaw03_PolyValues.j1 k y0 y1 y2 y3 y4 y5 y6 y7 y8 y9 y10) (casematelaw03_PolyValues.j1 (k + 1) y0 y1 y2 y3 y4 y5 y6 y7 y8 y9 y10))
  | 0 => ⟨fun _ _ _ _ r h => by simp [casematelaw03_PolyValues.j0] at h, fun _ _ _ _ _ _ _ _ _ _ _ r h => by simp [casematelaw03_PolyValues.j1] at h⟩
  | k + 1 => by
    obtain ⟨ih0, ih1⟩ := casematelaw03_PolyValues.mono_l k
    refine ⟨?_, ?_⟩
    · intro y0 y1 y2 y3
      unfold casematelaw03_PolyValues.j0
      repeat' first
      | (with_reducible exact ih0 _ _ _ _)
      | (with_reducible exact ih1 _ _ _ _ _ _ _ _ _ _ _)
      | (with_reducible exact casematelaw03_add.mono _ _ _)
      | (with_reducible exact casematelaw03_awake.mono _)
      | (with_reducible exact casematelaw03_mul.mono _ _ _)
      | (with_reducible exact casemateref01_Ints.mono _ _ _)
      | (with_reducible exact casemateref02_Mul.mono _ _ _)
      | (with_reducible exact casemateref02_Sum.mono _ _ _)
      | (with_reducible exact casemateref03_Is.mono _ _)
      | (with_reducible exact poly_Derive.mono _ _)
      | (with_reducible exact poly_Div.mono _ _ _)
      | (with_reducible exact poly_Eval.mono _ _ _)
      | (with_reducible exact LeO.refl _)
      | (with_reducible exact LeO.none _)
      | (with_reducible refine LeO.ite ?_ ?_)
      | (with_reducible refine LeO.bind ?_ (fun _ => ?_))
      | exact ih0 _ _ _ _
      | exact ih1 _ _ _ _ _ _ _ _ _ _ _
      | exact casematelaw03_add.mono _ _ _
      | exact casematelaw03_awake.mono _
      | exact casematelaw03_mul.mono _ _ _
      | exact casemateref01_Ints.mono _ _ _
      | exact casemateref02_Mul.mono _ _ _
      | exact casemateref02_Sum.mono _ _ _
      | exact casemateref03_Is.mono _ _
      | exact poly_Derive.mono _ _
      | exact poly_Div.mono _ _ _
      | exact poly_Eval.mono _ _ _
      | exact LeO.none _
      | refine LeO.ite ?_ ?_
      | refine LeO.bind ?_ (fun _ => ?_)
    · intro y0 y1 y2 y3 y4 y5 y6 y7 y8 y9 y10
      unfold casematelaw03_PolyValues.j1
      repeat' first
      | (with_reducible exact ih0 _ _ _ _)
      | (with_reducible exact ih1 _ _ _ _ _ _ _ _ _ _ _)
      | (with_reducible exact casematelaw03_add.mono _ _ _)
      | (with_reducible exact casematelaw03_awake.mono _)
      | (with_reducible exact casematelaw03_mul.mono _ _ _)
      | (with_reducible exact casemateref01_Ints.mono _ _ _)
      | (with_reducible exact casemateref02_Mul.mono _ _ _)
      | (with_reducible exact casemateref02_Sum.mono _ _ _)
      | (with_reducible exact casemateref03_Is.mono _ _)
      | (with_reducible exact poly_Derive.mono _ _)
      | (with_reducible exact poly_Div.mono _ _ _)
      | (with_reducible exact poly_Eval.mono _ _ _)
      | (with_reducible exact LeO.refl _)
      | (with_reducible exact LeO.none _)
      | (with_reducible refine LeO.ite ?_ ?_)
      | (with_reducible refine LeO.bind ?_ (fun _ => ?_))
      | exact ih0 _ _ _ _
      | exact ih1 _ _ _ _ _ _ _ _ _ _ _
      | exact casematelaw03_add.mono _ _ _
      | exact casematelaw03_awake.mono _
      | exact casematelaw03_mul.mono _ _ _
      | exact casemateref01_Ints.mono _ _ _
      | exact casemateref02_Mul.mono _ _ _
      | exact casemateref02_Sum.mono _ _ _
      | exact casemateref03_Is.mono _ _
      | exact poly_Derive.mono _ _
      | exact poly_Div.mono _ _ _
      | exact poly_Eval.mono _ _ _
      | exact LeO.none _
      | refine LeO.ite ?_ ?_
      | refine LeO.bind ?_ (fun _ => ?_)
theorem casematelaw03_PolyValues.mono : ∀ a0 a1 a2 k, LeO (casematelaw03_PolyValues.f k a0 a1 a2) (casematelaw03_PolyValues.f (k + 1) a0 a1 a2) := by
  intro a0 a1 a2 k
  obtain ⟨ih0, ih1⟩ := casematelaw03_PolyValues.mono_l k
  unfold casematelaw03_PolyValues.f
  repeat' first
      | (with_reducible exact ih0 _ _ _ _)
      | (with_reducible exact ih1 _ _ _ _ _ _ _ _ _ _ _)
      | (with_reducible exact casematelaw03_add.mono _ _ _)
      | (with_reducible exact casematelaw03_awake.mono _)
      | (with_reducible exact casematelaw03_mul.mono _ _ _)
      | (with_reducible exact casemateref01_Ints.mono _ _ _)
      | (with_reducible exact casemateref02_Mul.mono _ _ _)
      | (with_reducible exact casemateref02_Sum.mono _ _ _)
      | (with_reducible exact casemateref03_Is.mono _ _)
      | (with_reducible exact poly_Derive.mono _ _)
      | (with_reducible exact poly_Div.mono _ _ _)
      | (with_reducible exact poly_Eval.mono _ _ _)
      | (with_reducible exact LeO.refl _)
      | (with_reducible exact LeO.none _)
      | (with_reducible refine LeO.ite ?_ ?_)
      | (with_reducible refine LeO.bind ?_ (fun _ => ?_))
      | exact ih0 _ _ _ _
      | exact ih1 _ _ _ _ _ _ _ _ _ _ _
      | exact casematelaw03_add.mono _ _ _
      | exact casematelaw03_awake.mono _
      | exact casematelaw03_mul.mono _ _ _
      | exact casemateref01_Ints.mono _ _ _
      | exact casemateref02_Mul.mono _ _ _
      | exact casemateref02_Sum.mono _ _ _
      | exact casemateref03_Is.mono _ _
      | exact poly_Derive.mono _ _
      | exact poly_Div.mono _ _ _
      | exact poly_Eval.mono _ _ _
      | exact LeO.none _
      | refine LeO.ite ?_ ?_
      | refine LeO.bind ?_ (fun _ => ?_)
set_option maxHeartbeats 8000000 in
set_option maxRecDepth 100000 in
theorem casematelaw03_PolyValues.calls (k : Nat) (A0 : Option Addr) (c0 : Nat) (l0 : List Int) (A1 : Option Addr) (c1 : Nat) (l1 : List Int) (a2 : Int) (r : Bool) (w : World) (hr0 : Kd.C (Kd.int .i64) w A0 l0.length l0) (hc0 : l0.length ≤ c0) (hr1 : Kd.C (Kd.int .i64) w A1 l1.length l1) (hc1 : l1.length ≤ c1) (h : casematelaw03_PolyValues.f k l0 l1 a2 = some r) :
    Calls Try.prog 7 #[.slice A0 l0.length c0, .slice A1 l1.length c1, .int .i64 a2] w fun e w' => e = .returned (.bool r) ∧ Below w.heap.size w w' := by
  have HR0 := Aside0.mk hr0
  have HC0 := Aside0.mk hc0
  clear hr0 hc0
  have HR1 := Aside0.mk hr1
  have HC1 := Aside0.mk hc1
  clear hr1 hc1
  have HB := Aside0.mk (Below.refl w.heap.size w)
  have H : ((casematelaw03_small.f l0 l1).bind fun t345 => (if t345 = true then ((casemateref03_Is.f k l0).bind fun t346 => (if t346 = true then ((casemateref03_Is.f k l1).bind fun t347 => (if t347 = true then ((casemateref02_Is.f a2).bind fun t348 => (casematelaw03_PolyValues.j0 k l0 l1 a2 (!t348))) else (casematelaw03_PolyValues.j0 k l0 l1 a2 true))) else (casematelaw03_PolyValues.j0 k l0 l1 a2 true))) else (casematelaw03_PolyValues.j0 k l0 l1 a2 true))) = some r := h
  clear h
  have HC4 := Aside0.mk H
  clear H
  go_enter Try.func7, Try.ntmps7
  go_upto_region 1 with (fail)
  go_cut [44] (fun v44 wc => ∃ (kq : Nat) (x44_3 : Bool), v44 = .bool x44_3 ∧ Aside0 (casematelaw03_PolyValues.j0 kq l0 l1 a2 x44_3 = some r) ∧ Aside0 (kq ≤ k) ∧ Aside0 (Below w.heap.size w wc))
  case first =>
    have H := HC4.out
    clear HC4
    replace H := Option.bind_eq_some_iff.mp H
    obtain ⟨t345, A50, H⟩ := H
    replace H : (if t345 = true then ((casemateref03_Is.f k l0).bind fun t346 => (if t346 = true then ((casemateref03_Is.f k l1).bind fun t347 => (if t347 = true then ((casemateref02_Is.f a2).bind fun t348 => (casematelaw03_PolyValues.j0 k l0 l1 a2 (!t348))) else (casematelaw03_PolyValues.j0 k l0 l1 a2 true))) else (casematelaw03_PolyValues.j0 k l0 l1 a2 true))) else (casematelaw03_PolyValues.j0 k l0 l1 a2 true)) = some r := H
    have A5 := Aside0.mk A50
    clear A50
    by_cases c6 : t345 = true
    · subst c6
      have H1 : ((casemateref03_Is.f k l0).bind fun t346 => (if t346 = true then ((casemateref03_Is.f k l1).bind fun t347 => (if t347 = true then ((casemateref02_Is.f a2).bind fun t348 => (casematelaw03_PolyValues.j0 k l0 l1 a2 (!t348))) else (casematelaw03_PolyValues.j0 k l0 l1 a2 true))) else (casematelaw03_PolyValues.j0 k l0 l1 a2 true))) = some r := by rw [if_pos rfl] at H; exact H
      clear H
      have H := H1
      clear H1
      replace H := Option.bind_eq_some_iff.mp H
      obtain ⟨t346, A70, H⟩ := H
      replace H : (if t346 = true then ((casemateref03_Is.f k l1).bind fun t347 => (if t347 = true then ((casemateref02_Is.f a2).bind fun t348 => (casematelaw03_PolyValues.j0 k l0 l1 a2 (!t348))) else (casematelaw03_PolyValues.j0 k l0 l1 a2 true))) else (casematelaw03_PolyValues.j0 k l0 l1 a2 true)) = some r := H
      have A7 := Aside0.mk A70
      clear A70
      by_cases c8 : t346 = true
      · subst c8
        have H1 : ((casemateref03_Is.f k l1).bind fun t347 => (if t347 = true then ((casemateref02_Is.f a2).bind fun t348 => (casematelaw03_PolyValues.j0 k l0 l1 a2 (!t348))) else (casematelaw03_PolyValues.j0 k l0 l1 a2 true))) = some r := by rw [if_pos rfl] at H; exact H
        clear H
        have H := H1
        clear H1
        replace H := Option.bind_eq_some_iff.mp H
        obtain ⟨t347, A90, H⟩ := H
        replace H : (if t347 = true then ((casemateref02_Is.f a2).bind fun t348 => (casematelaw03_PolyValues.j0 k l0 l1 a2 (!t348))) else (casematelaw03_PolyValues.j0 k l0 l1 a2 true)) = some r := H
        have A9 := Aside0.mk A90
        clear A90
        by_cases c10 : t347 = true
        · subst c10
          have H1 : ((casemateref02_Is.f a2).bind fun t348 => (casematelaw03_PolyValues.j0 k l0 l1 a2 (!t348))) = some r := by rw [if_pos rfl] at H; exact H
          clear H
          have H := H1
          clear H1
          replace H := Option.bind_eq_some_iff.mp H
          obtain ⟨t348, A110, H⟩ := H
          replace H : (casematelaw03_PolyValues.j0 k l0 l1 a2 (!t348)) = some r := H
          have A11 := Aside0.mk A110
          clear A110
          have H' := Aside0.mk H
          clear H
          go_wp2_with (first | ((with_reducible refine gate_callee (f := 14) rfl ?_); refine goesL_ (some 28) rfl rfl Try.func14 (by kernel_rfl) rfl #[.slice A0 l0.length c0, .slice A1 l1.length c1] rfl (by (try simp only [List.map_toArray, List.map_cons, List.map_nil]); first | done | rfl | (simp only [List.length_drop, List.length_take]; rfl)) ?_; (with_reducible refine (casematelaw03_small.calls _ _ l0 _ _ l1 true _ ?side1 ?side2 ?side3 ?side4 A5.out).mono ?_); (case side1 => repeat (first | exact (Kd.C_below HR0.out HB.out) | (with_reducible refine Kd.C_alloc ?_ _) | (with_reducible refine Kd.C_drewN ?_ _) | (with_reducible refine Kd.C_drew ?_))); (case side2 => exact HC0.out); (case side3 => repeat (first | exact (Kd.C_below HR1.out HB.out) | (with_reducible refine Kd.C_alloc ?_ _) | (with_reducible refine Kd.C_drewN ?_ _) | (with_reducible refine Kd.C_drew ?_))); (case side4 => exact HC1.out); rintro e w' ⟨rfl, ⟨nd, rfl⟩⟩; refine ⟨_, rfl, ?_⟩) | (go_at_call 9; (with_reducible refine (casemateref03_Is.calls k _ _ l0 true _ ?side1 ?side2 A7.out).mono ?_); (case side1 => repeat (first | exact (Kd.C_below HR0.out (by repeat (first | (with_reducible first | exact HB.out | apply below_alloc | apply pw_below_drewN | apply below_drew1) | exact HB.out))) | (with_reducible refine Kd.C_alloc ?_ _) | (with_reducible refine Kd.C_drewN ?_ _) | (with_reducible refine Kd.C_drew ?_))); (case side2 => exact HC0.out); rintro e w' ⟨rfl, ⟨nd, rfl⟩⟩) | (go_at_call 9; (with_reducible refine (casemateref03_Is.calls k _ _ l1 true _ ?side1 ?side2 A9.out).mono ?_); (case side1 => repeat (first | exact (Kd.C_below HR1.out (by repeat (first | (with_reducible first | exact HB.out | apply below_alloc | apply pw_below_drewN | apply below_drew1) | exact HB.out))) | (with_reducible refine Kd.C_alloc ?_ _) | (with_reducible refine Kd.C_drewN ?_ _) | (with_reducible refine Kd.C_drew ?_))); (case side2 => exact HC1.out); rintro e w' ⟨rfl, ⟨nd, rfl⟩⟩) | (go_at_call 10; (with_reducible refine (casemateref02_Is.calls a2 t348 _ A11.out).mono ?_); rintro e w' ⟨rfl, ⟨nd, rfl⟩⟩))
          go_meet
          case rel => exact ⟨_, (!t348), (by first | rfl | (simp; done) | (simp [*]; done)), H', ⟨by first | omega | exact Nat.le_refl _⟩, ⟨by repeat (first | (with_reducible first | exact HB.out | apply below_alloc | apply pw_below_drewN | apply below_drew1) | exact HB.out)⟩⟩
        · replace c10 := Bool.eq_false_iff.mpr c10
          subst c10
          have H1 : (casematelaw03_PolyValues.j0 k l0 l1 a2 true) = some r := by rw [if_neg (show ¬ (false = true) by decide)] at H; exact H
          clear H
          have H := H1
          clear H1
          have H' := Aside0.mk H
          clear H
          go_wp2_with (first | ((with_reducible refine gate_callee (f := 14) rfl ?_); refine goesL_ (some 28) rfl rfl Try.func14 (by kernel_rfl) rfl #[.slice A0 l0.length c0, .slice A1 l1.length c1] rfl (by (try simp only [List.map_toArray, List.map_cons, List.map_nil]); first | done | rfl | (simp only [List.length_drop, List.length_take]; rfl)) ?_; (with_reducible refine (casematelaw03_small.calls _ _ l0 _ _ l1 true _ ?side1 ?side2 ?side3 ?side4 A5.out).mono ?_); (case side1 => repeat (first | exact (Kd.C_below HR0.out HB.out) | (with_reducible refine Kd.C_alloc ?_ _) | (with_reducible refine Kd.C_drewN ?_ _) | (with_reducible refine Kd.C_drew ?_))); (case side2 => exact HC0.out); (case side3 => repeat (first | exact (Kd.C_below HR1.out HB.out) | (with_reducible refine Kd.C_alloc ?_ _) | (with_reducible refine Kd.C_drewN ?_ _) | (with_reducible refine Kd.C_drew ?_))); (case side4 => exact HC1.out); rintro e w' ⟨rfl, ⟨nd, rfl⟩⟩; refine ⟨_, rfl, ?_⟩) | (go_at_call 9; (with_reducible refine (casemateref03_Is.calls k _ _ l0 true _ ?side1 ?side2 A7.out).mono ?_); (case side1 => repeat (first | exact (Kd.C_below HR0.out (by repeat (first | (with_reducible first | exact HB.out | apply below_alloc | apply pw_below_drewN | apply below_drew1) | exact HB.out))) | (with_reducible refine Kd.C_alloc ?_ _) | (with_reducible refine Kd.C_drewN ?_ _) | (with_reducible refine Kd.C_drew ?_))); (case side2 => exact HC0.out); rintro e w' ⟨rfl, ⟨nd, rfl⟩⟩) | (go_at_call 9; (with_reducible refine (casemateref03_Is.calls k _ _ l1 false _ ?side1 ?side2 A9.out).mono ?_); (case side1 => repeat (first | exact (Kd.C_below HR1.out (by repeat (first | (with_reducible first | exact HB.out | apply below_alloc | apply pw_below_drewN | apply below_drew1) | exact HB.out))) | (with_reducible refine Kd.C_alloc ?_ _) | (with_reducible refine Kd.C_drewN ?_ _) | (with_reducible refine Kd.C_drew ?_))); (case side2 => exact HC1.out); rintro e w' ⟨rfl, ⟨nd, rfl⟩⟩))
          go_meet
          case rel => exact ⟨_, (true), (by first | rfl | (simp; done) | (simp [*]; done)), H', ⟨by first | omega | exact Nat.le_refl _⟩, ⟨by repeat (first | (with_reducible first | exact HB.out | apply below_alloc | apply pw_below_drewN | apply below_drew1) | exact HB.out)⟩⟩
      · replace c8 := Bool.eq_false_iff.mpr c8
        subst c8
        have H1 : (casematelaw03_PolyValues.j0 k l0 l1 a2 true) = some r := by rw [if_neg (show ¬ (false = true) by decide)] at H; exact H
        clear H
        have H := H1
        clear H1
        have H' := Aside0.mk H
        clear H
        go_wp2_with (first | ((with_reducible refine gate_callee (f := 14) rfl ?_); refine goesL_ (some 28) rfl rfl Try.func14 (by kernel_rfl) rfl #[.slice A0 l0.length c0, .slice A1 l1.length c1] rfl (by (try simp only [List.map_toArray, List.map_cons, List.map_nil]); first | done | rfl | (simp only [List.length_drop, List.length_take]; rfl)) ?_; (with_reducible refine (casematelaw03_small.calls _ _ l0 _ _ l1 true _ ?side1 ?side2 ?side3 ?side4 A5.out).mono ?_); (case side1 => repeat (first | exact (Kd.C_below HR0.out HB.out) | (with_reducible refine Kd.C_alloc ?_ _) | (with_reducible refine Kd.C_drewN ?_ _) | (with_reducible refine Kd.C_drew ?_))); (case side2 => exact HC0.out); (case side3 => repeat (first | exact (Kd.C_below HR1.out HB.out) | (with_reducible refine Kd.C_alloc ?_ _) | (with_reducible refine Kd.C_drewN ?_ _) | (with_reducible refine Kd.C_drew ?_))); (case side4 => exact HC1.out); rintro e w' ⟨rfl, ⟨nd, rfl⟩⟩; refine ⟨_, rfl, ?_⟩) | (go_at_call 9; (with_reducible refine (casemateref03_Is.calls k _ _ l0 false _ ?side1 ?side2 A7.out).mono ?_); (case side1 => repeat (first | exact (Kd.C_below HR0.out (by repeat (first | (with_reducible first | exact HB.out | apply below_alloc | apply pw_below_drewN | apply below_drew1) | exact HB.out))) | (with_reducible refine Kd.C_alloc ?_ _) | (with_reducible refine Kd.C_drewN ?_ _) | (with_reducible refine Kd.C_drew ?_))); (case side2 => exact HC0.out); rintro e w' ⟨rfl, ⟨nd, rfl⟩⟩))
        go_meet
        case rel => exact ⟨_, (true), (by first | rfl | (simp; done) | (simp [*]; done)), H', ⟨by first | omega | exact Nat.le_refl _⟩, ⟨by repeat (first | (with_reducible first | exact HB.out | apply below_alloc | apply pw_below_drewN | apply below_drew1) | exact HB.out)⟩⟩
    · replace c6 := Bool.eq_false_iff.mpr c6
      subst c6
      have H1 : (casematelaw03_PolyValues.j0 k l0 l1 a2 true) = some r := by rw [if_neg (show ¬ (false = true) by decide)] at H; exact H
      clear H
      have H := H1
      clear H1
      have H' := Aside0.mk H
      clear H
      go_wp2_with (first | ((with_reducible refine gate_callee (f := 14) rfl ?_); refine goesL_ (some 28) rfl rfl Try.func14 (by kernel_rfl) rfl #[.slice A0 l0.length c0, .slice A1 l1.length c1] rfl (by (try simp only [List.map_toArray, List.map_cons, List.map_nil]); first | done | rfl | (simp only [List.length_drop, List.length_take]; rfl)) ?_; (with_reducible refine (casematelaw03_small.calls _ _ l0 _ _ l1 false _ ?side1 ?side2 ?side3 ?side4 A5.out).mono ?_); (case side1 => repeat (first | exact (Kd.C_below HR0.out HB.out) | (with_reducible refine Kd.C_alloc ?_ _) | (with_reducible refine Kd.C_drewN ?_ _) | (with_reducible refine Kd.C_drew ?_))); (case side2 => exact HC0.out); (case side3 => repeat (first | exact (Kd.C_below HR1.out HB.out) | (with_reducible refine Kd.C_alloc ?_ _) | (with_reducible refine Kd.C_drewN ?_ _) | (with_reducible refine Kd.C_drew ?_))); (case side4 => exact HC1.out); rintro e w' ⟨rfl, ⟨nd, rfl⟩⟩; refine ⟨_, rfl, ?_⟩))
      go_meet
      case rel => exact ⟨_, (true), (by first | rfl | (simp; done) | (simp [*]; done)), H', ⟨by first | omega | exact Nat.le_refl _⟩, ⟨by repeat (first | (with_reducible first | exact HB.out | apply below_alloc | apply pw_below_drewN | apply below_drew1) | exact HB.out)⟩⟩
  case rest =>
    clear HC4
    try clear c1
    try clear p2
    try clear c6
    try clear c7
    try clear c8
    try clear c10
    obtain ⟨kq, x44_3, rfl, HA, HJ3, HB⟩ := hcut
    cases kq with
    | zero => exact absurd HA.out (by simp [casematelaw03_PolyValues.j0])
    | succ kj3 =>
      have H := HA.out
      clear HA
      simp only [casematelaw03_PolyValues.j0] at H
      by_cases c12 : x44_3 = true
      · subst c12
        have H1 : (some true) = some r := by rw [if_pos rfl] at H; exact H
        clear H
        have H := H1
        clear H1
        obtain rfl := Option.some.inj H
        go_wp2
        go_ret
        exact ⟨by first | rfl | (simp [errW_none, errW_some] <;> rfl) | (simp [*, errW_none, errW_some] <;> rfl), by repeat (first | (with_reducible first | exact HB.out | apply below_alloc | apply pw_below_drewN | apply below_drew1) | exact HB.out)⟩
      · replace c12 := Bool.eq_false_iff.mpr c12
        subst c12
        have H1 : ((poly_Eval.f kj3 l0 a2).bind fun bt349 => ((poly_Eval.f kj3 l1 a2).bind fun bt351 => ((casematelaw03_add.f kj3 l0 l1).bind fun t353 => ((poly_Eval.f kj3 t353 a2).bind fun bt356 => ((casematelaw03_mul.f kj3 l0 l1).bind fun t358 => ((poly_Eval.f kj3 t358 a2).bind fun bt361 => ((poly_Div.f kj3 l0 (([a2, 1] : List Int))).bind fun bt366 => ((poly_Eval.f kj3 bt366.2.1 0).bind fun bt373 => ((casematelaw03_mul.f kj3 l0 l1).bind fun t375 => ((poly_Derive.f kj3 t375).bind fun bt378 => ((poly_Derive.f kj3 l0).bind fun bt382 => ((poly_Derive.f kj3 l1).bind fun bt386 => (if bt349.2 = 0 then (if bt351.2 = bt349.2 then (if bt356.2 = bt349.2 then (if bt361.2 = bt349.2 then (if bt366.2.2 = bt349.2 then (if bt373.2 = bt349.2 then (casematelaw03_PolyValues.j1 kj3 l0 l1 bt349.1 bt351.1 bt356.1 bt361.1 bt373.1 bt378.1 bt382.1 bt386.1 (bt378.2 != bt349.2)) else (casematelaw03_PolyValues.j1 kj3 l0 l1 bt349.1 bt351.1 bt356.1 bt361.1 bt373.1 bt378.1 bt382.1 bt386.1 true)) else (casematelaw03_PolyValues.j1 kj3 l0 l1 bt349.1 bt351.1 bt356.1 bt361.1 bt373.1 bt378.1 bt382.1 bt386.1 true)) else (casematelaw03_PolyValues.j1 kj3 l0 l1 bt349.1 bt351.1 bt356.1 bt361.1 bt373.1 bt378.1 bt382.1 bt386.1 true)) else (casematelaw03_PolyValues.j1 kj3 l0 l1 bt349.1 bt351.1 bt356.1 bt361.1 bt373.1 bt378.1 bt382.1 bt386.1 true)) else (casematelaw03_PolyValues.j1 kj3 l0 l1 bt349.1 bt351.1 bt356.1 bt361.1 bt373.1 bt378.1 bt382.1 bt386.1 true)) else (casematelaw03_PolyValues.j1 kj3 l0 l1 bt349.1 bt351.1 bt356.1 bt361.1 bt373.1 bt378.1 bt382.1 bt386.1 true)))))))))))))) = some r := by rw [if_neg (show ¬ (false = true) by decide)] at H; exact H
        clear H
        have H := H1
        clear H1
        replace H := Option.bind_eq_some_iff.mp H
        obtain ⟨⟨t349, t350⟩, A130, H⟩ := H
        replace H : ((poly_Eval.f kj3 l1 a2).bind fun bt351 => ((casematelaw03_add.f kj3 l0 l1).bind fun t353 => ((poly_Eval.f kj3 t353 a2).bind fun bt356 => ((casematelaw03_mul.f kj3 l0 l1).bind fun t358 => ((poly_Eval.f kj3 t358 a2).bind fun bt361 => ((poly_Div.f kj3 l0 (([a2, 1] : List Int))).bind fun bt366 => ((poly_Eval.f kj3 bt366.2.1 0).bind fun bt373 => ((casematelaw03_mul.f kj3 l0 l1).bind fun t375 => ((poly_Derive.f kj3 t375).bind fun bt378 => ((poly_Derive.f kj3 l0).bind fun bt382 => ((poly_Derive.f kj3 l1).bind fun bt386 => (if t350 = 0 then (if bt351.2 = t350 then (if bt356.2 = t350 then (if bt361.2 = t350 then (if bt366.2.2 = t350 then (if bt373.2 = t350 then (casematelaw03_PolyValues.j1 kj3 l0 l1 t349 bt351.1 bt356.1 bt361.1 bt373.1 bt378.1 bt382.1 bt386.1 (bt378.2 != t350)) else (casematelaw03_PolyValues.j1 kj3 l0 l1 t349 bt351.1 bt356.1 bt361.1 bt373.1 bt378.1 bt382.1 bt386.1 true)) else (casematelaw03_PolyValues.j1 kj3 l0 l1 t349 bt351.1 bt356.1 bt361.1 bt373.1 bt378.1 bt382.1 bt386.1 true)) else (casematelaw03_PolyValues.j1 kj3 l0 l1 t349 bt351.1 bt356.1 bt361.1 bt373.1 bt378.1 bt382.1 bt386.1 true)) else (casematelaw03_PolyValues.j1 kj3 l0 l1 t349 bt351.1 bt356.1 bt361.1 bt373.1 bt378.1 bt382.1 bt386.1 true)) else (casematelaw03_PolyValues.j1 kj3 l0 l1 t349 bt351.1 bt356.1 bt361.1 bt373.1 bt378.1 bt382.1 bt386.1 true)) else (casematelaw03_PolyValues.j1 kj3 l0 l1 t349 bt351.1 bt356.1 bt361.1 bt373.1 bt378.1 bt382.1 bt386.1 true))))))))))))) = some r := H
        have A13 := Aside0.mk A130
        clear A130
        replace H := Option.bind_eq_some_iff.mp H
        obtain ⟨⟨t351, t352⟩, A140, H⟩ := H
        replace H : ((casematelaw03_add.f kj3 l0 l1).bind fun t353 => ((poly_Eval.f kj3 t353 a2).bind fun bt356 => ((casematelaw03_mul.f kj3 l0 l1).bind fun t358 => ((poly_Eval.f kj3 t358 a2).bind fun bt361 => ((poly_Div.f kj3 l0 (([a2, 1] : List Int))).bind fun bt366 => ((poly_Eval.f kj3 bt366.2.1 0).bind fun bt373 => ((casematelaw03_mul.f kj3 l0 l1).bind fun t375 => ((poly_Derive.f kj3 t375).bind fun bt378 => ((poly_Derive.f kj3 l0).bind fun bt382 => ((poly_Derive.f kj3 l1).bind fun bt386 => (if t350 = 0 then (if t352 = t350 then (if bt356.2 = t350 then (if bt361.2 = t350 then (if bt366.2.2 = t350 then (if bt373.2 = t350 then (casematelaw03_PolyValues.j1 kj3 l0 l1 t349 t351 bt356.1 bt361.1 bt373.1 bt378.1 bt382.1 bt386.1 (bt378.2 != t350)) else (casematelaw03_PolyValues.j1 kj3 l0 l1 t349 t351 bt356.1 bt361.1 bt373.1 bt378.1 bt382.1 bt386.1 true)) else (casematelaw03_PolyValues.j1 kj3 l0 l1 t349 t351 bt356.1 bt361.1 bt373.1 bt378.1 bt382.1 bt386.1 true)) else (casematelaw03_PolyValues.j1 kj3 l0 l1 t349 t351 bt356.1 bt361.1 bt373.1 bt378.1 bt382.1 bt386.1 true)) else (casematelaw03_PolyValues.j1 kj3 l0 l1 t349 t351 bt356.1 bt361.1 bt373.1 bt378.1 bt382.1 bt386.1 true)) else (casematelaw03_PolyValues.j1 kj3 l0 l1 t349 t351 bt356.1 bt361.1 bt373.1 bt378.1 bt382.1 bt386.1 true)) else (casematelaw03_PolyValues.j1 kj3 l0 l1 t349 t351 bt356.1 bt361.1 bt373.1 bt378.1 bt382.1 bt386.1 true)))))))))))) = some r := H
        have A14 := Aside0.mk A140
        clear A140
        replace H := Option.bind_eq_some_iff.mp H
        obtain ⟨t353, A150, H⟩ := H
        replace H : ((poly_Eval.f kj3 t353 a2).bind fun bt356 => ((casematelaw03_mul.f kj3 l0 l1).bind fun t358 => ((poly_Eval.f kj3 t358 a2).bind fun bt361 => ((poly_Div.f kj3 l0 (([a2, 1] : List Int))).bind fun bt366 => ((poly_Eval.f kj3 bt366.2.1 0).bind fun bt373 => ((casematelaw03_mul.f kj3 l0 l1).bind fun t375 => ((poly_Derive.f kj3 t375).bind fun bt378 => ((poly_Derive.f kj3 l0).bind fun bt382 => ((poly_Derive.f kj3 l1).bind fun bt386 => (if t350 = 0 then (if t352 = t350 then (if bt356.2 = t350 then (if bt361.2 = t350 then (if bt366.2.2 = t350 then (if bt373.2 = t350 then (casematelaw03_PolyValues.j1 kj3 l0 l1 t349 t351 bt356.1 bt361.1 bt373.1 bt378.1 bt382.1 bt386.1 (bt378.2 != t350)) else (casematelaw03_PolyValues.j1 kj3 l0 l1 t349 t351 bt356.1 bt361.1 bt373.1 bt378.1 bt382.1 bt386.1 true)) else (casematelaw03_PolyValues.j1 kj3 l0 l1 t349 t351 bt356.1 bt361.1 bt373.1 bt378.1 bt382.1 bt386.1 true)) else (casematelaw03_PolyValues.j1 kj3 l0 l1 t349 t351 bt356.1 bt361.1 bt373.1 bt378.1 bt382.1 bt386.1 true)) else (casematelaw03_PolyValues.j1 kj3 l0 l1 t349 t351 bt356.1 bt361.1 bt373.1 bt378.1 bt382.1 bt386.1 true)) else (casematelaw03_PolyValues.j1 kj3 l0 l1 t349 t351 bt356.1 bt361.1 bt373.1 bt378.1 bt382.1 bt386.1 true)) else (casematelaw03_PolyValues.j1 kj3 l0 l1 t349 t351 bt356.1 bt361.1 bt373.1 bt378.1 bt382.1 bt386.1 true))))))))))) = some r := H
        have A15 := Aside0.mk A150
        clear A150
        replace H := Option.bind_eq_some_iff.mp H
        obtain ⟨⟨t356, t357⟩, A160, H⟩ := H
        replace H : ((casematelaw03_mul.f kj3 l0 l1).bind fun t358 => ((poly_Eval.f kj3 t358 a2).bind fun bt361 => ((poly_Div.f kj3 l0 (([a2, 1] : List Int))).bind fun bt366 => ((poly_Eval.f kj3 bt366.2.1 0).bind fun bt373 => ((casematelaw03_mul.f kj3 l0 l1).bind fun t375 => ((poly_Derive.f kj3 t375).bind fun bt378 => ((poly_Derive.f kj3 l0).bind fun bt382 => ((poly_Derive.f kj3 l1).bind fun bt386 => (if t350 = 0 then (if t352 = t350 then (if t357 = t350 then (if bt361.2 = t350 then (if bt366.2.2 = t350 then (if bt373.2 = t350 then (casematelaw03_PolyValues.j1 kj3 l0 l1 t349 t351 t356 bt361.1 bt373.1 bt378.1 bt382.1 bt386.1 (bt378.2 != t350)) else (casematelaw03_PolyValues.j1 kj3 l0 l1 t349 t351 t356 bt361.1 bt373.1 bt378.1 bt382.1 bt386.1 true)) else (casematelaw03_PolyValues.j1 kj3 l0 l1 t349 t351 t356 bt361.1 bt373.1 bt378.1 bt382.1 bt386.1 true)) else (casematelaw03_PolyValues.j1 kj3 l0 l1 t349 t351 t356 bt361.1 bt373.1 bt378.1 bt382.1 bt386.1 true)) else (casematelaw03_PolyValues.j1 kj3 l0 l1 t349 t351 t356 bt361.1 bt373.1 bt378.1 bt382.1 bt386.1 true)) else (casematelaw03_PolyValues.j1 kj3 l0 l1 t349 t351 t356 bt361.1 bt373.1 bt378.1 bt382.1 bt386.1 true)) else (casematelaw03_PolyValues.j1 kj3 l0 l1 t349 t351 t356 bt361.1 bt373.1 bt378.1 bt382.1 bt386.1 true)))))))))) = some r := H
        have A16 := Aside0.mk A160
        clear A160
        replace H := Option.bind_eq_some_iff.mp H
        obtain ⟨t358, A170, H⟩ := H
        replace H : ((poly_Eval.f kj3 t358 a2).bind fun bt361 => ((poly_Div.f kj3 l0 (([a2, 1] : List Int))).bind fun bt366 => ((poly_Eval.f kj3 bt366.2.1 0).bind fun bt373 => ((casematelaw03_mul.f kj3 l0 l1).bind fun t375 => ((poly_Derive.f kj3 t375).bind fun bt378 => ((poly_Derive.f kj3 l0).bind fun bt382 => ((poly_Derive.f kj3 l1).bind fun bt386 => (if t350 = 0 then (if t352 = t350 then (if t357 = t350 then (if bt361.2 = t350 then (if bt366.2.2 = t350 then (if bt373.2 = t350 then (casematelaw03_PolyValues.j1 kj3 l0 l1 t349 t351 t356 bt361.1 bt373.1 bt378.1 bt382.1 bt386.1 (bt378.2 != t350)) else (casematelaw03_PolyValues.j1 kj3 l0 l1 t349 t351 t356 bt361.1 bt373.1 bt378.1 bt382.1 bt386.1 true)) else (casematelaw03_PolyValues.j1 kj3 l0 l1 t349 t351 t356 bt361.1 bt373.1 bt378.1 bt382.1 bt386.1 true)) else (casematelaw03_PolyValues.j1 kj3 l0 l1 t349 t351 t356 bt361.1 bt373.1 bt378.1 bt382.1 bt386.1 true)) else (casematelaw03_PolyValues.j1 kj3 l0 l1 t349 t351 t356 bt361.1 bt373.1 bt378.1 bt382.1 bt386.1 true)) else (casematelaw03_PolyValues.j1 kj3 l0 l1 t349 t351 t356 bt361.1 bt373.1 bt378.1 bt382.1 bt386.1 true)) else (casematelaw03_PolyValues.j1 kj3 l0 l1 t349 t351 t356 bt361.1 bt373.1 bt378.1 bt382.1 bt386.1 true))))))))) = some r := H
        have A17 := Aside0.mk A170
        clear A170
        replace H := Option.bind_eq_some_iff.mp H
        obtain ⟨⟨t361, t362⟩, A180, H⟩ := H
        replace H : ((poly_Div.f kj3 l0 (([a2, 1] : List Int))).bind fun bt366 => ((poly_Eval.f kj3 bt366.2.1 0).bind fun bt373 => ((casematelaw03_mul.f kj3 l0 l1).bind fun t375 => ((poly_Derive.f kj3 t375).bind fun bt378 => ((poly_Derive.f kj3 l0).bind fun bt382 => ((poly_Derive.f kj3 l1).bind fun bt386 => (if t350 = 0 then (if t352 = t350 then (if t357 = t350 then (if t362 = t350 then (if bt366.2.2 = t350 then (if bt373.2 = t350 then (casematelaw03_PolyValues.j1 kj3 l0 l1 t349 t351 t356 t361 bt373.1 bt378.1 bt382.1 bt386.1 (bt378.2 != t350)) else (casematelaw03_PolyValues.j1 kj3 l0 l1 t349 t351 t356 t361 bt373.1 bt378.1 bt382.1 bt386.1 true)) else (casematelaw03_PolyValues.j1 kj3 l0 l1 t349 t351 t356 t361 bt373.1 bt378.1 bt382.1 bt386.1 true)) else (casematelaw03_PolyValues.j1 kj3 l0 l1 t349 t351 t356 t361 bt373.1 bt378.1 bt382.1 bt386.1 true)) else (casematelaw03_PolyValues.j1 kj3 l0 l1 t349 t351 t356 t361 bt373.1 bt378.1 bt382.1 bt386.1 true)) else (casematelaw03_PolyValues.j1 kj3 l0 l1 t349 t351 t356 t361 bt373.1 bt378.1 bt382.1 bt386.1 true)) else (casematelaw03_PolyValues.j1 kj3 l0 l1 t349 t351 t356 t361 bt373.1 bt378.1 bt382.1 bt386.1 true)))))))) = some r := H
        have A18 := Aside0.mk A180
        clear A180
        obtain ⟨y363, hy363⟩ : ∃ y_ : List Int, y_ = (([a2, 1] : List Int)) := ⟨_, rfl⟩
        replace H : ((poly_Div.f kj3 l0 y363).bind fun bt366 => ((poly_Eval.f kj3 bt366.2.1 0).bind fun bt373 => ((casematelaw03_mul.f kj3 l0 l1).bind fun t375 => ((poly_Derive.f kj3 t375).bind fun bt378 => ((poly_Derive.f kj3 l0).bind fun bt382 => ((poly_Derive.f kj3 l1).bind fun bt386 => (if t350 = 0 then (if t352 = t350 then (if t357 = t350 then (if t362 = t350 then (if bt366.2.2 = t350 then (if bt373.2 = t350 then (casematelaw03_PolyValues.j1 kj3 l0 l1 t349 t351 t356 t361 bt373.1 bt378.1 bt382.1 bt386.1 (bt378.2 != t350)) else (casematelaw03_PolyValues.j1 kj3 l0 l1 t349 t351 t356 t361 bt373.1 bt378.1 bt382.1 bt386.1 true)) else (casematelaw03_PolyValues.j1 kj3 l0 l1 t349 t351 t356 t361 bt373.1 bt378.1 bt382.1 bt386.1 true)) else (casematelaw03_PolyValues.j1 kj3 l0 l1 t349 t351 t356 t361 bt373.1 bt378.1 bt382.1 bt386.1 true)) else (casematelaw03_PolyValues.j1 kj3 l0 l1 t349 t351 t356 t361 bt373.1 bt378.1 bt382.1 bt386.1 true)) else (casematelaw03_PolyValues.j1 kj3 l0 l1 t349 t351 t356 t361 bt373.1 bt378.1 bt382.1 bt386.1 true)) else (casematelaw03_PolyValues.j1 kj3 l0 l1 t349 t351 t356 t361 bt373.1 bt378.1 bt382.1 bt386.1 true)))))))) = some r := by first | (rw [hy363]; with_reducible exact H) | (have H2_ := (Option.bind_some _ _).symm.trans H; rw [hy363]; with_reducible exact H2_) | (have H2_ := (Option.bind_some _ _).symm.trans H; with_reducible exact H2_) | with_reducible exact H | (rw [hy363]; exact H) | exact H
        have Ny363 := Aside0.mk hy363
        clear hy363
        replace H := Option.bind_eq_some_iff.mp H
        obtain ⟨⟨t366, t367, t368⟩, A190, H⟩ := H
        replace H : ((poly_Eval.f kj3 t367 0).bind fun bt373 => ((casematelaw03_mul.f kj3 l0 l1).bind fun t375 => ((poly_Derive.f kj3 t375).bind fun bt378 => ((poly_Derive.f kj3 l0).bind fun bt382 => ((poly_Derive.f kj3 l1).bind fun bt386 => (if t350 = 0 then (if t352 = t350 then (if t357 = t350 then (if t362 = t350 then (if t368 = t350 then (if bt373.2 = t350 then (casematelaw03_PolyValues.j1 kj3 l0 l1 t349 t351 t356 t361 bt373.1 bt378.1 bt382.1 bt386.1 (bt378.2 != t350)) else (casematelaw03_PolyValues.j1 kj3 l0 l1 t349 t351 t356 t361 bt373.1 bt378.1 bt382.1 bt386.1 true)) else (casematelaw03_PolyValues.j1 kj3 l0 l1 t349 t351 t356 t361 bt373.1 bt378.1 bt382.1 bt386.1 true)) else (casematelaw03_PolyValues.j1 kj3 l0 l1 t349 t351 t356 t361 bt373.1 bt378.1 bt382.1 bt386.1 true)) else (casematelaw03_PolyValues.j1 kj3 l0 l1 t349 t351 t356 t361 bt373.1 bt378.1 bt382.1 bt386.1 true)) else (casematelaw03_PolyValues.j1 kj3 l0 l1 t349 t351 t356 t361 bt373.1 bt378.1 bt382.1 bt386.1 true)) else (casematelaw03_PolyValues.j1 kj3 l0 l1 t349 t351 t356 t361 bt373.1 bt378.1 bt382.1 bt386.1 true))))))) = some r := H
        have A19 := Aside0.mk A190
        clear A190
        replace H := Option.bind_eq_some_iff.mp H
        obtain ⟨⟨t373, t374⟩, A200, H⟩ := H
        replace H : ((casematelaw03_mul.f kj3 l0 l1).bind fun t375 => ((poly_Derive.f kj3 t375).bind fun bt378 => ((poly_Derive.f kj3 l0).bind fun bt382 => ((poly_Derive.f kj3 l1).bind fun bt386 => (if t350 = 0 then (if t352 = t350 then (if t357 = t350 then (if t362 = t350 then (if t368 = t350 then (if t374 = t350 then (casematelaw03_PolyValues.j1 kj3 l0 l1 t349 t351 t356 t361 t373 bt378.1 bt382.1 bt386.1 (bt378.2 != t350)) else (casematelaw03_PolyValues.j1 kj3 l0 l1 t349 t351 t356 t361 t373 bt378.1 bt382.1 bt386.1 true)) else (casematelaw03_PolyValues.j1 kj3 l0 l1 t349 t351 t356 t361 t373 bt378.1 bt382.1 bt386.1 true)) else (casematelaw03_PolyValues.j1 kj3 l0 l1 t349 t351 t356 t361 t373 bt378.1 bt382.1 bt386.1 true)) else (casematelaw03_PolyValues.j1 kj3 l0 l1 t349 t351 t356 t361 t373 bt378.1 bt382.1 bt386.1 true)) else (casematelaw03_PolyValues.j1 kj3 l0 l1 t349 t351 t356 t361 t373 bt378.1 bt382.1 bt386.1 true)) else (casematelaw03_PolyValues.j1 kj3 l0 l1 t349 t351 t356 t361 t373 bt378.1 bt382.1 bt386.1 true)))))) = some r := H
        have A20 := Aside0.mk A200
        clear A200
        replace H := Option.bind_eq_some_iff.mp H
        obtain ⟨t375, A210, H⟩ := H
        replace H : ((poly_Derive.f kj3 t375).bind fun bt378 => ((poly_Derive.f kj3 l0).bind fun bt382 => ((poly_Derive.f kj3 l1).bind fun bt386 => (if t350 = 0 then (if t352 = t350 then (if t357 = t350 then (if t362 = t350 then (if t368 = t350 then (if t374 = t350 then (casematelaw03_PolyValues.j1 kj3 l0 l1 t349 t351 t356 t361 t373 bt378.1 bt382.1 bt386.1 (bt378.2 != t350)) else (casematelaw03_PolyValues.j1 kj3 l0 l1 t349 t351 t356 t361 t373 bt378.1 bt382.1 bt386.1 true)) else (casematelaw03_PolyValues.j1 kj3 l0 l1 t349 t351 t356 t361 t373 bt378.1 bt382.1 bt386.1 true)) else (casematelaw03_PolyValues.j1 kj3 l0 l1 t349 t351 t356 t361 t373 bt378.1 bt382.1 bt386.1 true)) else (casematelaw03_PolyValues.j1 kj3 l0 l1 t349 t351 t356 t361 t373 bt378.1 bt382.1 bt386.1 true)) else (casematelaw03_PolyValues.j1 kj3 l0 l1 t349 t351 t356 t361 t373 bt378.1 bt382.1 bt386.1 true)) else (casematelaw03_PolyValues.j1 kj3 l0 l1 t349 t351 t356 t361 t373 bt378.1 bt382.1 bt386.1 true))))) = some r := H
        have A21 := Aside0.mk A210
        clear A210
        replace H := Option.bind_eq_some_iff.mp H
        obtain ⟨⟨t378, t379⟩, A220, H⟩ := H
        replace H : ((poly_Derive.f kj3 l0).bind fun bt382 => ((poly_Derive.f kj3 l1).bind fun bt386 => (if t350 = 0 then (if t352 = t350 then (if t357 = t350 then (if t362 = t350 then (if t368 = t350 then (if t374 = t350 then (casematelaw03_PolyValues.j1 kj3 l0 l1 t349 t351 t356 t361 t373 t378 bt382.1 bt386.1 (t379 != t350)) else (casematelaw03_PolyValues.j1 kj3 l0 l1 t349 t351 t356 t361 t373 t378 bt382.1 bt386.1 true)) else (casematelaw03_PolyValues.j1 kj3 l0 l1 t349 t351 t356 t361 t373 t378 bt382.1 bt386.1 true)) else (casematelaw03_PolyValues.j1 kj3 l0 l1 t349 t351 t356 t361 t373 t378 bt382.1 bt386.1 true)) else (casematelaw03_PolyValues.j1 kj3 l0 l1 t349 t351 t356 t361 t373 t378 bt382.1 bt386.1 true)) else (casematelaw03_PolyValues.j1 kj3 l0 l1 t349 t351 t356 t361 t373 t378 bt382.1 bt386.1 true)) else (casematelaw03_PolyValues.j1 kj3 l0 l1 t349 t351 t356 t361 t373 t378 bt382.1 bt386.1 true)))) = some r := H
        have A22 := Aside0.mk A220
        clear A220
        replace H := Option.bind_eq_some_iff.mp H
        obtain ⟨⟨t382, t383⟩, A230, H⟩ := H
        replace H : ((poly_Derive.f kj3 l1).bind fun bt386 => (if t350 = 0 then (if t352 = t350 then (if t357 = t350 then (if t362 = t350 then (if t368 = t350 then (if t374 = t350 then (casematelaw03_PolyValues.j1 kj3 l0 l1 t349 t351 t356 t361 t373 t378 t382 bt386.1 (t379 != t350)) else (casematelaw03_PolyValues.j1 kj3 l0 l1 t349 t351 t356 t361 t373 t378 t382 bt386.1 true)) else (casematelaw03_PolyValues.j1 kj3 l0 l1 t349 t351 t356 t361 t373 t378 t382 bt386.1 true)) else (casematelaw03_PolyValues.j1 kj3 l0 l1 t349 t351 t356 t361 t373 t378 t382 bt386.1 true)) else (casematelaw03_PolyValues.j1 kj3 l0 l1 t349 t351 t356 t361 t373 t378 t382 bt386.1 true)) else (casematelaw03_PolyValues.j1 kj3 l0 l1 t349 t351 t356 t361 t373 t378 t382 bt386.1 true)) else (casematelaw03_PolyValues.j1 kj3 l0 l1 t349 t351 t356 t361 t373 t378 t382 bt386.1 true))) = some r := H
        have A23 := Aside0.mk A230
        clear A230
        replace H := Option.bind_eq_some_iff.mp H
        obtain ⟨⟨t386, t387⟩, A240, H⟩ := H
        replace H : (if t350 = 0 then (if t352 = t350 then (if t357 = t350 then (if t362 = t350 then (if t368 = t350 then (if t374 = t350 then (casematelaw03_PolyValues.j1 kj3 l0 l1 t349 t351 t356 t361 t373 t378 t382 t386 (t379 != t350)) else (casematelaw03_PolyValues.j1 kj3 l0 l1 t349 t351 t356 t361 t373 t378 t382 t386 true)) else (casematelaw03_PolyValues.j1 kj3 l0 l1 t349 t351 t356 t361 t373 t378 t382 t386 true)) else (casematelaw03_PolyValues.j1 kj3 l0 l1 t349 t351 t356 t361 t373 t378 t382 t386 true)) else (casematelaw03_PolyValues.j1 kj3 l0 l1 t349 t351 t356 t361 t373 t378 t382 t386 true)) else (casematelaw03_PolyValues.j1 kj3 l0 l1 t349 t351 t356 t361 t373 t378 t382 t386 true)) else (casematelaw03_PolyValues.j1 kj3 l0 l1 t349 t351 t356 t361 t373 t378 t382 t386 true)) = some r := H
        have A24 := Aside0.mk A240
        clear A240
        have HC25 := Aside0.mk H
        clear H
        go_upto_region 12 with (first | ((with_reducible refine gate_callee (f := 12) rfl ?_); refine goesL_ (some 48) rfl rfl Try.func12 (by kernel_rfl) rfl #[.slice A0 l0.length c0, .int .i64 a2] rfl (by (try simp only [List.map_toArray, List.map_cons, List.map_nil]); first | done | rfl | (simp only [List.length_drop, List.length_take]; rfl)) ?_; (with_reducible refine (poly_Eval.calls kj3 (fun k_ => k_ < w.heap.size) _ _ l0 a2 t349 t350 _ ?side1 A13.out).mono ?_); (case side1 => exact Kd.V_mk HC0.out (Kd.F_below (Kd.C_F (Kd.heap_int .i64) HR0.out) (by repeat (first | (with_reducible first | exact HB.out | apply below_alloc | apply pw_below_drewN | apply below_drew1) | exact HB.out)))); rintro e w26 ⟨rfl, hb⟩; refine ⟨_, rfl, ?_⟩; have n0_ := Aside0.mk (below_step (by repeat (first | (with_reducible first | exact HB.out | apply below_alloc | apply pw_below_drewN | apply below_drew1) | exact HB.out)) hb); clear HB; have HB := n0_; clear n0_; (try clear hb); (try clear hb2); (try clear hk); (try clear hi)) | ((with_reducible refine gate_callee (f := 12) rfl ?_); refine goesL_ (some 54) rfl rfl Try.func12 (by kernel_rfl) rfl #[.slice A1 l1.length c1, .int .i64 a2] rfl (by (try simp only [List.map_toArray, List.map_cons, List.map_nil]); first | done | rfl | (simp only [List.length_drop, List.length_take]; rfl)) ?_; (with_reducible refine (poly_Eval.calls kj3 (fun k_ => k_ < w.heap.size) _ _ l1 a2 t351 t352 _ ?side1 A14.out).mono ?_); (case side1 => exact Kd.V_mk HC1.out (Kd.F_below (Kd.C_F (Kd.heap_int .i64) HR1.out) (by repeat (first | (with_reducible first | exact HB.out | apply below_alloc | apply pw_below_drewN | apply below_drew1) | exact HB.out)))); rintro e w27 ⟨rfl, hb⟩; refine ⟨_, rfl, ?_⟩; have n0_ := Aside0.mk (below_step (by repeat (first | (with_reducible first | exact HB.out | apply below_alloc | apply pw_below_drewN | apply below_drew1) | exact HB.out)) hb); clear HB; have HB := n0_; clear n0_; (try clear hb); (try clear hb2); (try clear hk); (try clear hi)) | ((with_reducible refine gate_callee (f := 18) rfl ?_); refine goesL_ (some 60) rfl rfl Try.func18 (by kernel_rfl) rfl #[.slice A0 l0.length c0, .slice A1 l1.length c1] rfl (by (try simp only [List.map_toArray, List.map_cons, List.map_nil]); first | done | rfl | (simp only [List.length_drop, List.length_take]; rfl)) ?_; (with_reducible refine (casematelaw03_add.calls kj3 _ _ l0 _ _ l1 t353 _ ?side1 ?side2 ?side3 ?side4 A15.out).mono ?_); (case side1 => repeat (first | exact (Kd.C_below HR0.out HB.out) | (with_reducible refine Kd.C_alloc ?_ _) | (with_reducible refine Kd.C_drewN ?_ _) | (with_reducible refine Kd.C_drew ?_))); (case side2 => exact HC0.out); (case side3 => repeat (first | exact (Kd.C_below HR1.out HB.out) | (with_reducible refine Kd.C_alloc ?_ _) | (with_reducible refine Kd.C_drewN ?_ _) | (with_reducible refine Kd.C_drew ?_))); (case side4 => exact HC1.out); rintro e w28 ⟨v354, rfl, ho0, hb⟩; refine ⟨_, rfl, ?_⟩; have n0_ := Aside0.mk (Kd.R_lower ho0 (below_size (by repeat (first | (with_reducible first | exact HB.out | apply below_alloc | apply pw_below_drewN | apply below_drew1) | exact HB.out)))); have n1_ := Aside0.mk (below_step (by repeat (first | (with_reducible first | exact HB.out | apply below_alloc | apply pw_below_drewN | apply below_drew1) | exact HB.out)) hb); clear HB; have HO355 := n0_; have HB := n1_; clear n0_ n1_; (try clear hb); (try clear hb2); (try clear hk); (try clear hi); (try clear ho0); obtain ⟨Ao29, co29, eo29⟩ := Kd.R_slice HO355.out; subst eo29) | ((with_reducible refine gate_callee (f := 12) rfl ?_); refine goesL_ (some 62) rfl rfl Try.func12 (by kernel_rfl) rfl #[.slice Ao29 t353.length co29, .int .i64 a2] rfl (by (try simp only [List.map_toArray, List.map_cons, List.map_nil]); first | done | rfl | (simp only [List.length_drop, List.length_take]; rfl)) ?_; (with_reducible refine (poly_Eval.calls kj3 (fun k_ => some k_ = (.slice Ao29 t353.length co29 : Value).ownBlock) _ _ t353 a2 t356 t357 _ ?side1 A16.out).mono ?_); (case side1 => exact Kd.R_V (Kd.R_tight rfl (HO355.out))); rintro e w30 ⟨rfl, hb⟩; refine ⟨_, rfl, ?_⟩; have n0_ := Aside0.mk (Kd.R_below (by (with_reducible repeat (first | apply Kd.R_alloc | apply Kd.R_drewN | apply Kd.R_drew)); exact HO355.out) hb); have n1_ := Aside0.mk (below_step (by repeat (first | (with_reducible first | exact HB.out | apply below_alloc | apply pw_below_drewN | apply below_drew1) | exact HB.out)) hb); clear HO355; clear HB; have HO355 := n0_; have HB := n1_; clear n0_ n1_; (try clear hb); (try clear hb2); (try clear hk); (try clear hi)) | ((with_reducible refine gate_callee (f := 11) rfl ?_); refine goesL_ (some 68) rfl rfl Try.func11 (by kernel_rfl) rfl #[.slice A0 l0.length c0, .slice A1 l1.length c1] rfl (by (try simp only [List.map_toArray, List.map_cons, List.map_nil]); first | done | rfl | (simp only [List.length_drop, List.length_take]; rfl)) ?_; (with_reducible refine (casematelaw03_mul.calls kj3 _ _ l0 _ _ l1 t358 _ ?side1 ?side2 ?side3 ?side4 A17.out).mono ?_); (case side1 => repeat (first | exact (Kd.C_below HR0.out HB.out) | (with_reducible refine Kd.C_alloc ?_ _) | (with_reducible refine Kd.C_drewN ?_ _) | (with_reducible refine Kd.C_drew ?_))); (case side2 => exact HC0.out); (case side3 => repeat (first | exact (Kd.C_below HR1.out HB.out) | (with_reducible refine Kd.C_alloc ?_ _) | (with_reducible refine Kd.C_drewN ?_ _) | (with_reducible refine Kd.C_drew ?_))); (case side4 => exact HC1.out); rintro e w31 ⟨v359, rfl, ho0, hb⟩; refine ⟨_, rfl, ?_⟩; have n0_ := Aside0.mk (Kd.R_elder' (by (with_reducible repeat (first | apply Kd.R_alloc | apply Kd.R_drewN | apply Kd.R_drew)); exact HO355.out) (Kd.R_base ho0) hb); have n1_ := Aside0.mk (Kd.R_lower (Kd.R_new' ho0 (Kd.R_lt (by (with_reducible repeat (first | apply Kd.R_alloc | apply Kd.R_drewN | apply Kd.R_drew)); exact HO355.out))) (below_size (by repeat (first | (with_reducible first | exact HB.out | apply below_alloc | apply pw_below_drewN | apply below_drew1) | exact HB.out)))); have n2_ := Aside0.mk (below_step (by repeat (first | (with_reducible first | exact HB.out | apply below_alloc | apply pw_below_drewN | apply below_drew1) | exact HB.out)) hb); clear HO355; clear HB; have HO355 := n0_; have HO360 := n1_; have HB := n2_; clear n0_ n1_ n2_; (try clear hb); (try clear hb2); (try clear hk); (try clear hi); (try clear ho0); obtain ⟨Ao32, co32, eo32⟩ := Kd.R_slice HO360.out; subst eo32) | ((with_reducible refine gate_callee (f := 12) rfl ?_); refine goesL_ (some 70) rfl rfl Try.func12 (by kernel_rfl) rfl #[.slice Ao32 t358.length co32, .int .i64 a2] rfl (by (try simp only [List.map_toArray, List.map_cons, List.map_nil]); first | done | rfl | (simp only [List.length_drop, List.length_take]; rfl)) ?_; (with_reducible refine (poly_Eval.calls kj3 (fun k_ => some k_ = (.slice Ao32 t358.length co32 : Value).ownBlock) _ _ t358 a2 t361 t362 _ ?side1 A18.out).mono ?_); (case side1 => exact Kd.R_V (Kd.R_tight rfl (HO360.out))); rintro e w33 ⟨rfl, hb⟩; refine ⟨_, rfl, ?_⟩; have n0_ := Aside0.mk (Kd.R_below (by (with_reducible repeat (first | apply Kd.R_alloc | apply Kd.R_drewN | apply Kd.R_drew)); exact HO355.out) hb); have n1_ := Aside0.mk (Kd.R_below (by (with_reducible repeat (first | apply Kd.R_alloc | apply Kd.R_drewN | apply Kd.R_drew)); exact HO360.out) hb); have n2_ := Aside0.mk (below_step (by repeat (first | (with_reducible first | exact HB.out | apply below_alloc | apply pw_below_drewN | apply below_drew1) | exact HB.out)) hb); clear HO355; clear HO360; clear HB; have HO355 := n0_; have HO360 := n1_; have HB := n2_; clear n0_ n1_ n2_; (try clear hb); (try clear hb2); (try clear hk); (try clear hi)) | ((with_reducible refine gate_dst (N := 76) rfl ?_); refine Kd.R_lit (Kd.int .i64) _ 3 ?hg (N := 76) ?hd (xs := ([a2, 1] : List Int)) (inner := [.int .i64 a2, .int .i64 1]) (ok := fun _ => True) (okp := fun _ => True) ?hr ?hp (fun _ hk => hk) trivial (Below.refl _ _) (Nat.le_refl _) (by simp) ?_; (case hd => rfl); (case hg => rfl); (case hr => first | (go_simp; done) | (go_simp; rfl)); (case hp => exact (Reps.one (show Kd.M (Kd.int .i64) _ _ _ a2 [.int .i64 a2] from rfl) (Reps.one (show Kd.M (Kd.int .i64) _ _ _ 1 [.int .i64 1] from rfl) (Reps.none _ _)))); intro v364 w34 ho35 hb hg_ hnew_; clear hg_ hnew_; (first | rw [← Ny363.out] at ho35 | (simp only [Int.reduceToNat] at ho35; rw [← Ny363.out] at ho35)); have n0_ := Aside0.mk (Kd.R_elder' (by (with_reducible repeat (first | apply Kd.R_alloc | apply Kd.R_drewN | apply Kd.R_drew)); exact HO355.out) (Kd.R_base ho35) hb); have n1_ := Aside0.mk (Kd.R_elder' (by (with_reducible repeat (first | apply Kd.R_alloc | apply Kd.R_drewN | apply Kd.R_drew)); exact HO360.out) (Kd.R_base ho35) hb); have n2_ := Aside0.mk (Kd.R_lower (Kd.R_new' (Kd.R_new' ho35 (Kd.R_lt (by (with_reducible repeat (first | apply Kd.R_alloc | apply Kd.R_drewN | apply Kd.R_drew)); exact HO355.out))) (Kd.R_lt (by (with_reducible repeat (first | apply Kd.R_alloc | apply Kd.R_drewN | apply Kd.R_drew)); exact HO360.out))) (below_size (by repeat (first | (with_reducible first | exact HB.out | apply below_alloc | apply pw_below_drewN | apply below_drew1) | exact HB.out)))); have n3_ := Aside0.mk (below_step (by repeat (first | (with_reducible first | exact HB.out | apply below_alloc | apply pw_below_drewN | apply below_drew1) | exact HB.out)) hb); clear HO355; clear HO360; clear HB; have HO355 := n0_; have HO360 := n1_; have HO365 := n2_; have HB := n3_; clear n0_ n1_ n2_ n3_; clear hb ho35; obtain ⟨Ao36, co36, eo36⟩ := Kd.R_slice HO365.out; subst eo36) | ((with_reducible refine gate_callee (f := 16) rfl ?_); refine goesL_ (some 77) rfl rfl Try.func16 (by kernel_rfl) rfl #[.slice A0 l0.length c0, .slice Ao36 y363.length co36] rfl (by (try simp only [List.map_toArray, List.map_cons, List.map_nil]); first | done | rfl | (simp only [List.length_drop, List.length_take]; rfl)) ?_; (with_reducible refine (poly_Div.calls kj3 _ _ l0 _ _ y363 t366 t367 t368 _ ?side1 ?side2 ?side3 ?side4 A19.out).mono ?_); (case side1 => repeat (first | exact (Kd.C_below HR0.out HB.out) | (with_reducible refine Kd.C_alloc ?_ _) | (with_reducible refine Kd.C_drewN ?_ _) | (with_reducible refine Kd.C_drew ?_))); (case side2 => exact HC0.out); (case side3 => repeat (first | exact (Kd.R_reads' HO365.out).2.2 | (with_reducible refine Kd.C_alloc ?_ _) | (with_reducible refine Kd.C_drewN ?_ _) | (with_reducible refine Kd.C_drew ?_))); (case side4 => exact (Kd.R_reads' HO365.out).2.1); rintro e w37 ⟨v369, v371, rfl, ho0, ho1, hb⟩; refine ⟨_, rfl, ?_⟩; have n0_ := Aside0.mk (Kd.R_mono (Kd.R_told (Kd.R_told (Kd.R_old (by (with_reducible repeat (first | apply Kd.R_alloc | apply Kd.R_drewN | apply Kd.R_drew)); exact HO355.out) hb) (Kd.R_base ho0)) (Kd.R_base ho1)) (fun _ h_ => h_.1)); have n1_ := Aside0.mk (Kd.R_mono (Kd.R_told (Kd.R_told (Kd.R_old (by (with_reducible repeat (first | apply Kd.R_alloc | apply Kd.R_drewN | apply Kd.R_drew)); exact HO360.out) hb) (Kd.R_base ho0)) (Kd.R_base ho1)) (fun _ h_ => h_.1)); have n2_ := Aside0.mk (Kd.R_mono (Kd.R_told (Kd.R_told (Kd.R_old (by (with_reducible repeat (first | apply Kd.R_alloc | apply Kd.R_drewN | apply Kd.R_drew)); exact HO365.out) hb) (Kd.R_base ho0)) (Kd.R_base ho1)) (fun _ h_ => h_.1)); have n3_ := Aside0.mk (Kd.R_lower (Kd.R_new' (Kd.R_new' (Kd.R_new' ho0 (Kd.R_lt (by (with_reducible repeat (first | apply Kd.R_alloc | apply Kd.R_drewN | apply Kd.R_drew)); exact HO355.out))) (Kd.R_lt (by (with_reducible repeat (first | apply Kd.R_alloc | apply Kd.R_drewN | apply Kd.R_drew)); exact HO360.out))) (Kd.R_lt (by (with_reducible repeat (first | apply Kd.R_alloc | apply Kd.R_drewN | apply Kd.R_drew)); exact HO365.out))) (below_size (by repeat (first | (with_reducible first | exact HB.out | apply below_alloc | apply pw_below_drewN | apply below_drew1) | exact HB.out)))); have n4_ := Aside0.mk (Kd.R_lower (Kd.R_new' (Kd.R_new' (Kd.R_new' ho1 (Kd.R_lt (by (with_reducible repeat (first | apply Kd.R_alloc | apply Kd.R_drewN | apply Kd.R_drew)); exact HO355.out))) (Kd.R_lt (by (with_reducible repeat (first | apply Kd.R_alloc | apply Kd.R_drewN | apply Kd.R_drew)); exact HO360.out))) (Kd.R_lt (by (with_reducible repeat (first | apply Kd.R_alloc | apply Kd.R_drewN | apply Kd.R_drew)); exact HO365.out))) (below_size (by repeat (first | (with_reducible first | exact HB.out | apply below_alloc | apply pw_below_drewN | apply below_drew1) | exact HB.out)))); have n5_ := Aside0.mk (below_step (by repeat (first | (with_reducible first | exact HB.out | apply below_alloc | apply pw_below_drewN | apply below_drew1) | exact HB.out)) hb); clear HO355; clear HO360; clear HO365; clear HB; have HO355 := n0_; have HO360 := n1_; have HO365 := n2_; have HO370 := n3_; have HO372 := n4_; have HB := n5_; clear n0_ n1_ n2_ n3_ n4_ n5_; (try clear hb); (try clear hb2); (try clear hk); (try clear hi); (try clear ho0); (try clear ho1); obtain ⟨Ao38, co38, eo38⟩ := Kd.R_slice HO372.out; subst eo38) | ((with_reducible refine gate_callee (f := 12) rfl ?_); refine goesL_ (some 83) rfl rfl Try.func12 (by kernel_rfl) rfl #[.slice Ao38 t367.length co38, .int .i64 0] rfl (by (try simp only [List.map_toArray, List.map_cons, List.map_nil]); first | done | rfl | (simp only [List.length_drop, List.length_take]; rfl)) ?_; (with_reducible refine (poly_Eval.calls kj3 (fun k_ => some k_ = (.slice Ao38 t367.length co38 : Value).ownBlock) _ _ t367 0 t373 t374 _ ?side1 A20.out).mono ?_); (case side1 => exact Kd.R_V (Kd.R_tight rfl (HO372.out))); rintro e w39 ⟨rfl, hb⟩; refine ⟨_, rfl, ?_⟩; have n0_ := Aside0.mk (Kd.R_below (by (with_reducible repeat (first | apply Kd.R_alloc | apply Kd.R_drewN | apply Kd.R_drew)); exact HO355.out) hb); have n1_ := Aside0.mk (Kd.R_below (by (with_reducible repeat (first | apply Kd.R_alloc | apply Kd.R_drewN | apply Kd.R_drew)); exact HO360.out) hb); have n2_ := Aside0.mk (Kd.R_below (by (with_reducible repeat (first | apply Kd.R_alloc | apply Kd.R_drewN | apply Kd.R_drew)); exact HO365.out) hb); have n3_ := Aside0.mk (Kd.R_below (by (with_reducible repeat (first | apply Kd.R_alloc | apply Kd.R_drewN | apply Kd.R_drew)); exact HO370.out) hb); have n4_ := Aside0.mk (Kd.R_below (by (with_reducible repeat (first | apply Kd.R_alloc | apply Kd.R_drewN | apply Kd.R_drew)); exact HO372.out) hb); have n5_ := Aside0.mk (below_step (by repeat (first | (with_reducible first | exact HB.out | apply below_alloc | apply pw_below_drewN | apply below_drew1) | exact HB.out)) hb); clear HO355; clear HO360; clear HO365; clear HO370; clear HO372; clear HB; have HO355 := n0_; have HO360 := n1_; have HO365 := n2_; have HO370 := n3_; have HO372 := n4_; have HB := n5_; clear n0_ n1_ n2_ n3_ n4_ n5_; (try clear hb); (try clear hb2); (try clear hk); (try clear hi)) | ((with_reducible refine gate_callee (f := 11) rfl ?_); refine goesL_ (some 89) rfl rfl Try.func11 (by kernel_rfl) rfl #[.slice A0 l0.length c0, .slice A1 l1.length c1] rfl (by (try simp only [List.map_toArray, List.map_cons, List.map_nil]); first | done | rfl | (simp only [List.length_drop, List.length_take]; rfl)) ?_; (with_reducible refine (casematelaw03_mul.calls kj3 _ _ l0 _ _ l1 t375 _ ?side1 ?side2 ?side3 ?side4 A21.out).mono ?_); (case side1 => repeat (first | exact (Kd.C_below HR0.out HB.out) | (with_reducible refine Kd.C_alloc ?_ _) | (with_reducible refine Kd.C_drewN ?_ _) | (with_reducible refine Kd.C_drew ?_))); (case side2 => exact HC0.out); (case side3 => repeat (first | exact (Kd.C_below HR1.out HB.out) | (with_reducible refine Kd.C_alloc ?_ _) | (with_reducible refine Kd.C_drewN ?_ _) | (with_reducible refine Kd.C_drew ?_))); (case side4 => exact HC1.out); rintro e w40 ⟨v376, rfl, ho0, hb⟩; refine ⟨_, rfl, ?_⟩; have n0_ := Aside0.mk (Kd.R_elder' (by (with_reducible repeat (first | apply Kd.R_alloc | apply Kd.R_drewN | apply Kd.R_drew)); exact HO355.out) (Kd.R_base ho0) hb); have n1_ := Aside0.mk (Kd.R_elder' (by (with_reducible repeat (first | apply Kd.R_alloc | apply Kd.R_drewN | apply Kd.R_drew)); exact HO360.out) (Kd.R_base ho0) hb); have n2_ := Aside0.mk (Kd.R_elder' (by (with_reducible repeat (first | apply Kd.R_alloc | apply Kd.R_drewN | apply Kd.R_drew)); exact HO365.out) (Kd.R_base ho0) hb); have n3_ := Aside0.mk (Kd.R_elder' (by (with_reducible repeat (first | apply Kd.R_alloc | apply Kd.R_drewN | apply Kd.R_drew)); exact HO370.out) (Kd.R_base ho0) hb); have n4_ := Aside0.mk (Kd.R_elder' (by (with_reducible repeat (first | apply Kd.R_alloc | apply Kd.R_drewN | apply Kd.R_drew)); exact HO372.out) (Kd.R_base ho0) hb); have n5_ := Aside0.mk (Kd.R_lower (Kd.R_new' (Kd.R_new' (Kd.R_new' (Kd.R_new' (Kd.R_new' ho0 (Kd.R_lt (by (with_reducible repeat (first | apply Kd.R_alloc | apply Kd.R_drewN | apply Kd.R_drew)); exact HO355.out))) (Kd.R_lt (by (with_reducible repeat (first | apply Kd.R_alloc | apply Kd.R_drewN | apply Kd.R_drew)); exact HO360.out))) (Kd.R_lt (by (with_reducible repeat (first | apply Kd.R_alloc | apply Kd.R_drewN | apply Kd.R_drew)); exact HO365.out))) (Kd.R_lt (by (with_reducible repeat (first | apply Kd.R_alloc | apply Kd.R_drewN | apply Kd.R_drew)); exact HO370.out))) (Kd.R_lt (by (with_reducible repeat (first | apply Kd.R_alloc | apply Kd.R_drewN | apply Kd.R_drew)); exact HO372.out))) (below_size (by repeat (first | (with_reducible first | exact HB.out | apply below_alloc | apply pw_below_drewN | apply below_drew1) | exact HB.out)))); have n6_ := Aside0.mk (below_step (by repeat (first | (with_reducible first | exact HB.out | apply below_alloc | apply pw_below_drewN | apply below_drew1) | exact HB.out)) hb); clear HO355; clear HO360; clear HO365; clear HO370; clear HO372; clear HB; have HO355 := n0_; have HO360 := n1_; have HO365 := n2_; have HO370 := n3_; have HO372 := n4_; have HO377 := n5_; have HB := n6_; clear n0_ n1_ n2_ n3_ n4_ n5_ n6_; (try clear hb); (try clear hb2); (try clear hk); (try clear hi); (try clear ho0); obtain ⟨Ao41, co41, eo41⟩ := Kd.R_slice HO377.out; subst eo41) | ((with_reducible refine gate_callee (f := 22) rfl ?_); refine goesL_ (some 90) rfl rfl Try.func22 (by kernel_rfl) rfl #[.slice Ao41 t375.length co41] rfl (by (try simp only [List.map_toArray, List.map_cons, List.map_nil]); first | done | rfl | (simp only [List.length_drop, List.length_take]; rfl)) ?_; (with_reducible refine (poly_Derive.calls kj3 _ _ t375 t378 t379 _ ?side1 ?side2 A22.out).mono ?_); (case side1 => repeat (first | exact (Kd.R_reads' HO377.out).2.2 | (with_reducible refine Kd.C_alloc ?_ _) | (with_reducible refine Kd.C_drewN ?_ _) | (with_reducible refine Kd.C_drew ?_))); (case side2 => exact (Kd.R_reads' HO377.out).2.1); rintro e w42 ⟨v380, rfl, ho0, hb⟩; refine ⟨_, rfl, ?_⟩; have n0_ := Aside0.mk (Kd.R_elder' (by (with_reducible repeat (first | apply Kd.R_alloc | apply Kd.R_drewN | apply Kd.R_drew)); exact HO355.out) (Kd.R_base ho0) hb); have n1_ := Aside0.mk (Kd.R_elder' (by (with_reducible repeat (first | apply Kd.R_alloc | apply Kd.R_drewN | apply Kd.R_drew)); exact HO360.out) (Kd.R_base ho0) hb); have n2_ := Aside0.mk (Kd.R_elder' (by (with_reducible repeat (first | apply Kd.R_alloc | apply Kd.R_drewN | apply Kd.R_drew)); exact HO365.out) (Kd.R_base ho0) hb); have n3_ := Aside0.mk (Kd.R_elder' (by (with_reducible repeat (first | apply Kd.R_alloc | apply Kd.R_drewN | apply Kd.R_drew)); exact HO370.out) (Kd.R_base ho0) hb); have n4_ := Aside0.mk (Kd.R_elder' (by (with_reducible repeat (first | apply Kd.R_alloc | apply Kd.R_drewN | apply Kd.R_drew)); exact HO372.out) (Kd.R_base ho0) hb); have n5_ := Aside0.mk (Kd.R_elder' (by (with_reducible repeat (first | apply Kd.R_alloc | apply Kd.R_drewN | apply Kd.R_drew)); exact HO377.out) (Kd.R_base ho0) hb); have n6_ := Aside0.mk (Kd.R_lower (Kd.R_new' (Kd.R_new' (Kd.R_new' (Kd.R_new' (Kd.R_new' (Kd.R_new' ho0 (Kd.R_lt (by (with_reducible repeat (first | apply Kd.R_alloc | apply Kd.R_drewN | apply Kd.R_drew)); exact HO355.out))) (Kd.R_lt (by (with_reducible repeat (first | apply Kd.R_alloc | apply Kd.R_drewN | apply Kd.R_drew)); exact HO360.out))) (Kd.R_lt (by (with_reducible repeat (first | apply Kd.R_alloc | apply Kd.R_drewN | apply Kd.R_drew)); exact HO365.out))) (Kd.R_lt (by (with_reducible repeat (first | apply Kd.R_alloc | apply Kd.R_drewN | apply Kd.R_drew)); exact HO370.out))) (Kd.R_lt (by (with_reducible repeat (first | apply Kd.R_alloc | apply Kd.R_drewN | apply Kd.R_drew)); exact HO372.out))) (Kd.R_lt (by (with_reducible repeat (first | apply Kd.R_alloc | apply Kd.R_drewN | apply Kd.R_drew)); exact HO377.out))) (below_size (by repeat (first | (with_reducible first | exact HB.out | apply below_alloc | apply pw_below_drewN | apply below_drew1) | exact HB.out)))); have n7_ := Aside0.mk (below_step (by repeat (first | (with_reducible first | exact HB.out | apply below_alloc | apply pw_below_drewN | apply below_drew1) | exact HB.out)) hb); clear HO355; clear HO360; clear HO365; clear HO370; clear HO372; clear HO377; clear HB; have HO355 := n0_; have HO360 := n1_; have HO365 := n2_; have HO370 := n3_; have HO372 := n4_; have HO377 := n5_; have HO381 := n6_; have HB := n7_; clear n0_ n1_ n2_ n3_ n4_ n5_ n6_ n7_; (try clear hb); (try clear hb2); (try clear hk); (try clear hi); (try clear ho0)) | ((with_reducible refine gate_callee (f := 22) rfl ?_); refine goesL_ (some 95) rfl rfl Try.func22 (by kernel_rfl) rfl #[.slice A0 l0.length c0] rfl (by (try simp only [List.map_toArray, List.map_cons, List.map_nil]); first | done | rfl | (simp only [List.length_drop, List.length_take]; rfl)) ?_; (with_reducible refine (poly_Derive.calls kj3 _ _ l0 t382 t383 _ ?side1 ?side2 A23.out).mono ?_); (case side1 => repeat (first | exact (Kd.C_below HR0.out HB.out) | (with_reducible refine Kd.C_alloc ?_ _) | (with_reducible refine Kd.C_drewN ?_ _) | (with_reducible refine Kd.C_drew ?_))); (case side2 => exact HC0.out); rintro e w43 ⟨v384, rfl, ho0, hb⟩; refine ⟨_, rfl, ?_⟩; have n0_ := Aside0.mk (Kd.R_elder' (by (with_reducible repeat (first | apply Kd.R_alloc | apply Kd.R_drewN | apply Kd.R_drew)); exact HO355.out) (Kd.R_base ho0) hb); have n1_ := Aside0.mk (Kd.R_elder' (by (with_reducible repeat (first | apply Kd.R_alloc | apply Kd.R_drewN | apply Kd.R_drew)); exact HO360.out) (Kd.R_base ho0) hb); have n2_ := Aside0.mk (Kd.R_elder' (by (with_reducible repeat (first | apply Kd.R_alloc | apply Kd.R_drewN | apply Kd.R_drew)); exact HO365.out) (Kd.R_base ho0) hb); have n3_ := Aside0.mk (Kd.R_elder' (by (with_reducible repeat (first | apply Kd.R_alloc | apply Kd.R_drewN | apply Kd.R_drew)); exact HO370.out) (Kd.R_base ho0) hb); have n4_ := Aside0.mk (Kd.R_elder' (by (with_reducible repeat (first | apply Kd.R_alloc | apply Kd.R_drewN | apply Kd.R_drew)); exact HO372.out) (Kd.R_base ho0) hb); have n5_ := Aside0.mk (Kd.R_elder' (by (with_reducible repeat (first | apply Kd.R_alloc | apply Kd.R_drewN | apply Kd.R_drew)); exact HO377.out) (Kd.R_base ho0) hb); have n6_ := Aside0.mk (Kd.R_elder' (by (with_reducible repeat (first | apply Kd.R_alloc | apply Kd.R_drewN | apply Kd.R_drew)); exact HO381.out) (Kd.R_base ho0) hb); have n7_ := Aside0.mk (Kd.R_lower (Kd.R_new' (Kd.R_new' (Kd.R_new' (Kd.R_new' (Kd.R_new' (Kd.R_new' (Kd.R_new' ho0 (Kd.R_lt (by (with_reducible repeat (first | apply Kd.R_alloc | apply Kd.R_drewN | apply Kd.R_drew)); exact HO355.out))) (Kd.R_lt (by (with_reducible repeat (first | apply Kd.R_alloc | apply Kd.R_drewN | apply Kd.R_drew)); exact HO360.out))) (Kd.R_lt (by (with_reducible repeat (first | apply Kd.R_alloc | apply Kd.R_drewN | apply Kd.R_drew)); exact HO365.out))) (Kd.R_lt (by (with_reducible repeat (first | apply Kd.R_alloc | apply Kd.R_drewN | apply Kd.R_drew)); exact HO370.out))) (Kd.R_lt (by (with_reducible repeat (first | apply Kd.R_alloc | apply Kd.R_drewN | apply Kd.R_drew)); exact HO372.out))) (Kd.R_lt (by (with_reducible repeat (first | apply Kd.R_alloc | apply Kd.R_drewN | apply Kd.R_drew)); exact HO377.out))) (Kd.R_lt (by (with_reducible repeat (first | apply Kd.R_alloc | apply Kd.R_drewN | apply Kd.R_drew)); exact HO381.out))) (below_size (by repeat (first | (with_reducible first | exact HB.out | apply below_alloc | apply pw_below_drewN | apply below_drew1) | exact HB.out)))); have n8_ := Aside0.mk (below_step (by repeat (first | (with_reducible first | exact HB.out | apply below_alloc | apply pw_below_drewN | apply below_drew1) | exact HB.out)) hb); clear HO355; clear HO360; clear HO365; clear HO370; clear HO372; clear HO377; clear HO381; clear HB; have HO355 := n0_; have HO360 := n1_; have HO365 := n2_; have HO370 := n3_; have HO372 := n4_; have HO377 := n5_; have HO381 := n6_; have HO385 := n7_; have HB := n8_; clear n0_ n1_ n2_ n3_ n4_ n5_ n6_ n7_ n8_; (try clear hb); (try clear hb2); (try clear hk); (try clear hi); (try clear ho0)) | ((with_reducible refine gate_callee (f := 22) rfl ?_); refine goesL_ (some 100) rfl rfl Try.func22 (by kernel_rfl) rfl #[.slice A1 l1.length c1] rfl (by (try simp only [List.map_toArray, List.map_cons, List.map_nil]); first | done | rfl | (simp only [List.length_drop, List.length_take]; rfl)) ?_; (with_reducible refine (poly_Derive.calls kj3 _ _ l1 t386 t387 _ ?side1 ?side2 A24.out).mono ?_); (case side1 => repeat (first | exact (Kd.C_below HR1.out HB.out) | (with_reducible refine Kd.C_alloc ?_ _) | (with_reducible refine Kd.C_drewN ?_ _) | (with_reducible refine Kd.C_drew ?_))); (case side2 => exact HC1.out); rintro e w44 ⟨v388, rfl, ho0, hb⟩; refine ⟨_, rfl, ?_⟩; have n0_ := Aside0.mk (Kd.R_elder' (by (with_reducible repeat (first | apply Kd.R_alloc | apply Kd.R_drewN | apply Kd.R_drew)); exact HO355.out) (Kd.R_base ho0) hb); have n1_ := Aside0.mk (Kd.R_elder' (by (with_reducible repeat (first | apply Kd.R_alloc | apply Kd.R_drewN | apply Kd.R_drew)); exact HO360.out) (Kd.R_base ho0) hb); have n2_ := Aside0.mk (Kd.R_elder' (by (with_reducible repeat (first | apply Kd.R_alloc | apply Kd.R_drewN | apply Kd.R_drew)); exact HO365.out) (Kd.R_base ho0) hb); have n3_ := Aside0.mk (Kd.R_elder' (by (with_reducible repeat (first | apply Kd.R_alloc | apply Kd.R_drewN | apply Kd.R_drew)); exact HO370.out) (Kd.R_base ho0) hb); have n4_ := Aside0.mk (Kd.R_elder' (by (with_reducible repeat (first | apply Kd.R_alloc | apply Kd.R_drewN | apply Kd.R_drew)); exact HO372.out) (Kd.R_base ho0) hb); have n5_ := Aside0.mk (Kd.R_elder' (by (with_reducible repeat (first | apply Kd.R_alloc | apply Kd.R_drewN | apply Kd.R_drew)); exact HO377.out) (Kd.R_base ho0) hb); have n6_ := Aside0.mk (Kd.R_elder' (by (with_reducible repeat (first | apply Kd.R_alloc | apply Kd.R_drewN | apply Kd.R_drew)); exact HO381.out) (Kd.R_base ho0) hb); have n7_ := Aside0.mk (Kd.R_elder' (by (with_reducible repeat (first | apply Kd.R_alloc | apply Kd.R_drewN | apply Kd.R_drew)); exact HO385.out) (Kd.R_base ho0) hb); have n8_ := Aside0.mk (Kd.R_lower (Kd.R_new' (Kd.R_new' (Kd.R_new' (Kd.R_new' (Kd.R_new' (Kd.R_new' (Kd.R_new' (Kd.R_new' ho0 (Kd.R_lt (by (with_reducible repeat (first | apply Kd.R_alloc | apply Kd.R_drewN | apply Kd.R_drew)); exact HO355.out))) (Kd.R_lt (by (with_reducible repeat (first | apply Kd.R_alloc | apply Kd.R_drewN | apply Kd.R_drew)); exact HO360.out))) (Kd.R_lt (by (with_reducible repeat (first | apply Kd.R_alloc | apply Kd.R_drewN | apply Kd.R_drew)); exact HO365.out))) (Kd.R_lt (by (with_reducible repeat (first | apply Kd.R_alloc | apply Kd.R_drewN | apply Kd.R_drew)); exact HO370.out))) (Kd.R_lt (by (with_reducible repeat (first | apply Kd.R_alloc | apply Kd.R_drewN | apply Kd.R_drew)); exact HO372.out))) (Kd.R_lt (by (with_reducible repeat (first | apply Kd.R_alloc | apply Kd.R_drewN | apply Kd.R_drew)); exact HO377.out))) (Kd.R_lt (by (with_reducible repeat (first | apply Kd.R_alloc | apply Kd.R_drewN | apply Kd.R_drew)); exact HO381.out))) (Kd.R_lt (by (with_reducible repeat (first | apply Kd.R_alloc | apply Kd.R_drewN | apply Kd.R_drew)); exact HO385.out))) (below_size (by repeat (first | (with_reducible first | exact HB.out | apply below_alloc | apply pw_below_drewN | apply below_drew1) | exact HB.out)))); have n9_ := Aside0.mk (below_step (by repeat (first | (with_reducible first | exact HB.out | apply below_alloc | apply pw_below_drewN | apply below_drew1) | exact HB.out)) hb); clear HO355; clear HO360; clear HO365; clear HO370; clear HO372; clear HO377; clear HO381; clear HO385; clear HB; have HO355 := n0_; have HO360 := n1_; have HO365 := n2_; have HO370 := n3_; have HO372 := n4_; have HO377 := n5_; have HO381 := n6_; have HO385 := n7_; have HO389 := n8_; have HB := n9_; clear n0_ n1_ n2_ n3_ n4_ n5_ n6_ n7_ n8_ n9_; (try clear hb); (try clear hb2); (try clear hk); (try clear hi); (try clear ho0)))
        (try simp only [Act.put, List.setIfInBounds_toArray, List.set_cons_zero, List.set_cons_succ])
        go_cut [134] (fun v134 wc => ∃ (kq : Nat) (x134_24 : Bool), v134 = .bool x134_24 ∧ Aside0 (casematelaw03_PolyValues.j1 kq l0 l1 t349 t351 t356 t361 t373 t378 t382 t386 x134_24 = some r) ∧ Aside0 (kq ≤ kj3) ∧ Aside0 (Kd.R (Kd.int .i64) 3 wc w.heap.size (fun k_ => some k_ ≠ (v384 : Value).ownBlock ∧ some k_ ≠ (v388 : Value).ownBlock) v380 t378) ∧ Aside0 (Kd.R (Kd.int .i64) 3 wc w.heap.size (fun k_ => some k_ ≠ (v380 : Value).ownBlock ∧ some k_ ≠ (v388 : Value).ownBlock) v384 t382) ∧ Aside0 (Kd.R (Kd.int .i64) 3 wc w.heap.size (fun k_ => some k_ ≠ (v380 : Value).ownBlock ∧ some k_ ≠ (v384 : Value).ownBlock) v388 t386) ∧ Aside0 (Below w.heap.size w wc))
        case first =>
          have H := HC25.out
          clear HC25
          by_cases c45 : t350 = 0
          · rw [if_pos c45] at H
            have c45b0 : (t350 == 0) = true := beq_iff_eq.mpr c45
            have c45b1 : (t350 != 0) = false := bne_eq_false_iff_eq.mpr c45
            clear c45
            (first | rw [c45b0] | (simp only [i64_w, i32_w]; rw [c45b0]) | skip)
            by_cases c46 : t352 = t350
            · rw [if_pos c46] at H
              have c46b0 : (t352 == t350) = true := beq_iff_eq.mpr c46
              have c46b1 : (t352 != t350) = false := bne_eq_false_iff_eq.mpr c46
              clear c46
              by_cases c47 : t357 = t350
              · rw [if_pos c47] at H
                have c47b0 : (t357 == t350) = true := beq_iff_eq.mpr c47
                have c47b1 : (t357 != t350) = false := bne_eq_false_iff_eq.mpr c47
                clear c47
                by_cases c48 : t362 = t350
                · rw [if_pos c48] at H
                  have c48b0 : (t362 == t350) = true := beq_iff_eq.mpr c48
                  have c48b1 : (t362 != t350) = false := bne_eq_false_iff_eq.mpr c48
                  clear c48
                  by_cases c49 : t368 = t350
                  · rw [if_pos c49] at H
                    have c49b0 : (t368 == t350) = true := beq_iff_eq.mpr c49
                    have c49b1 : (t368 != t350) = false := bne_eq_false_iff_eq.mpr c49
                    clear c49
                    by_cases c50 : t374 = t350
                    · rw [if_pos c50] at H
                      have c50b0 : (t374 == t350) = true := beq_iff_eq.mpr c50
                      have c50b1 : (t374 != t350) = false := bne_eq_false_iff_eq.mpr c50
                      clear c50
                      have H' := Aside0.mk H
                      clear H
                      go_wp2
                      go_meet
                      case rel => exact ⟨_, ((t379 != t350)), (by first | rfl | (simp; done) | (simp [*]; done)), H', ⟨by have := HJ3.out; first | omega | exact Nat.le_refl _⟩, ⟨by (with_reducible repeat (first | apply Kd.R_alloc | apply Kd.R_drewN | apply Kd.R_drew)); exact Kd.R_mono HO381.out (fun _ hk => ⟨hk.1.2, hk.2⟩)⟩, ⟨by (with_reducible repeat (first | apply Kd.R_alloc | apply Kd.R_drewN | apply Kd.R_drew)); exact Kd.R_mono HO385.out (fun _ hk => ⟨hk.1.2, hk.2⟩)⟩, ⟨by (with_reducible repeat (first | apply Kd.R_alloc | apply Kd.R_drewN | apply Kd.R_drew)); exact Kd.R_mono HO389.out (fun _ hk => ⟨hk.1.2, hk.2⟩)⟩, ⟨by repeat (first | (with_reducible first | exact HB.out | apply below_alloc | apply pw_below_drewN | apply below_drew1) | exact HB.out)⟩⟩
                    · rw [if_neg c50] at H
                      have c50b0 : (t374 == t350) = false := beq_eq_false_iff_ne.mpr c50
                      have c50b1 : (t374 != t350) = true := bne_iff_ne.mpr c50
                      have H' := Aside0.mk H
                      clear H
                      go_wp2
                      go_meet
                      case rel => exact ⟨_, (true), (by first | rfl | (simp; done) | (simp [*]; done)), H', ⟨by have := HJ3.out; first | omega | exact Nat.le_refl _⟩, ⟨by (with_reducible repeat (first | apply Kd.R_alloc | apply Kd.R_drewN | apply Kd.R_drew)); exact Kd.R_mono HO381.out (fun _ hk => ⟨hk.1.2, hk.2⟩)⟩, ⟨by (with_reducible repeat (first | apply Kd.R_alloc | apply Kd.R_drewN | apply Kd.R_drew)); exact Kd.R_mono HO385.out (fun _ hk => ⟨hk.1.2, hk.2⟩)⟩, ⟨by (with_reducible repeat (first | apply Kd.R_alloc | apply Kd.R_drewN | apply Kd.R_drew)); exact Kd.R_mono HO389.out (fun _ hk => ⟨hk.1.2, hk.2⟩)⟩, ⟨by repeat (first | (with_reducible first | exact HB.out | apply below_alloc | apply pw_below_drewN | apply below_drew1) | exact HB.out)⟩⟩
                  · rw [if_neg c49] at H
                    have c49b0 : (t368 == t350) = false := beq_eq_false_iff_ne.mpr c49
                    have c49b1 : (t368 != t350) = true := bne_iff_ne.mpr c49
                    have H' := Aside0.mk H
                    clear H
                    go_wp2
                    go_meet
                    case rel => exact ⟨_, (true), (by first | rfl | (simp; done) | (simp [*]; done)), H', ⟨by have := HJ3.out; first | omega | exact Nat.le_refl _⟩, ⟨by (with_reducible repeat (first | apply Kd.R_alloc | apply Kd.R_drewN | apply Kd.R_drew)); exact Kd.R_mono HO381.out (fun _ hk => ⟨hk.1.2, hk.2⟩)⟩, ⟨by (with_reducible repeat (first | apply Kd.R_alloc | apply Kd.R_drewN | apply Kd.R_drew)); exact Kd.R_mono HO385.out (fun _ hk => ⟨hk.1.2, hk.2⟩)⟩, ⟨by (with_reducible repeat (first | apply Kd.R_alloc | apply Kd.R_drewN | apply Kd.R_drew)); exact Kd.R_mono HO389.out (fun _ hk => ⟨hk.1.2, hk.2⟩)⟩, ⟨by repeat (first | (with_reducible first | exact HB.out | apply below_alloc | apply pw_below_drewN | apply below_drew1) | exact HB.out)⟩⟩
                · rw [if_neg c48] at H
                  have c48b0 : (t362 == t350) = false := beq_eq_false_iff_ne.mpr c48
                  have c48b1 : (t362 != t350) = true := bne_iff_ne.mpr c48
                  have H' := Aside0.mk H
                  clear H
                  go_wp2
                  go_meet
                  case rel => exact ⟨_, (true), (by first | rfl | (simp; done) | (simp [*]; done)), H', ⟨by have := HJ3.out; first | omega | exact Nat.le_refl _⟩, ⟨by (with_reducible repeat (first | apply Kd.R_alloc | apply Kd.R_drewN | apply Kd.R_drew)); exact Kd.R_mono HO381.out (fun _ hk => ⟨hk.1.2, hk.2⟩)⟩, ⟨by (with_reducible repeat (first | apply Kd.R_alloc | apply Kd.R_drewN | apply Kd.R_drew)); exact Kd.R_mono HO385.out (fun _ hk => ⟨hk.1.2, hk.2⟩)⟩, ⟨by (with_reducible repeat (first | apply Kd.R_alloc | apply Kd.R_drewN | apply Kd.R_drew)); exact Kd.R_mono HO389.out (fun _ hk => ⟨hk.1.2, hk.2⟩)⟩, ⟨by repeat (first | (with_reducible first | exact HB.out | apply below_alloc | apply pw_below_drewN | apply below_drew1) | exact HB.out)⟩⟩
              · rw [if_neg c47] at H
                have c47b0 : (t357 == t350) = false := beq_eq_false_iff_ne.mpr c47
                have c47b1 : (t357 != t350) = true := bne_iff_ne.mpr c47
                have H' := Aside0.mk H
                clear H
                go_wp2
                go_meet
                case rel => exact ⟨_, (true), (by first | rfl | (simp; done) | (simp [*]; done)), H', ⟨by have := HJ3.out; first | omega | exact Nat.le_refl _⟩, ⟨by (with_reducible repeat (first | apply Kd.R_alloc | apply Kd.R_drewN | apply Kd.R_drew)); exact Kd.R_mono HO381.out (fun _ hk => ⟨hk.1.2, hk.2⟩)⟩, ⟨by (with_reducible repeat (first | apply Kd.R_alloc | apply Kd.R_drewN | apply Kd.R_drew)); exact Kd.R_mono HO385.out (fun _ hk => ⟨hk.1.2, hk.2⟩)⟩, ⟨by (with_reducible repeat (first | apply Kd.R_alloc | apply Kd.R_drewN | apply Kd.R_drew)); exact Kd.R_mono HO389.out (fun _ hk => ⟨hk.1.2, hk.2⟩)⟩, ⟨by repeat (first | (with_reducible first | exact HB.out | apply below_alloc | apply pw_below_drewN | apply below_drew1) | exact HB.out)⟩⟩
            · rw [if_neg c46] at H
              have c46b0 : (t352 == t350) = false := beq_eq_false_iff_ne.mpr c46
              have c46b1 : (t352 != t350) = true := bne_iff_ne.mpr c46
              have H' := Aside0.mk H
              clear H
              go_wp2
              go_meet
              case rel => exact ⟨_, (true), (by first | rfl | (simp; done) | (simp [*]; done)), H', ⟨by have := HJ3.out; first | omega | exact Nat.le_refl _⟩, ⟨by (with_reducible repeat (first | apply Kd.R_alloc | apply Kd.R_drewN | apply Kd.R_drew)); exact Kd.R_mono HO381.out (fun _ hk => ⟨hk.1.2, hk.2⟩)⟩, ⟨by (with_reducible repeat (first | apply Kd.R_alloc | apply Kd.R_drewN | apply Kd.R_drew)); exact Kd.R_mono HO385.out (fun _ hk => ⟨hk.1.2, hk.2⟩)⟩, ⟨by (with_reducible repeat (first | apply Kd.R_alloc | apply Kd.R_drewN | apply Kd.R_drew)); exact Kd.R_mono HO389.out (fun _ hk => ⟨hk.1.2, hk.2⟩)⟩, ⟨by repeat (first | (with_reducible first | exact HB.out | apply below_alloc | apply pw_below_drewN | apply below_drew1) | exact HB.out)⟩⟩
          · rw [if_neg c45] at H
            have c45b0 : (t350 == 0) = false := beq_eq_false_iff_ne.mpr c45
            have c45b1 : (t350 != 0) = true := bne_iff_ne.mpr c45
            (first | rw [c45b0] | (simp only [i64_w, i32_w]; rw [c45b0]) | skip)
            have H' := Aside0.mk H
            clear H
            go_wp2
            go_meet
            case rel => exact ⟨_, (true), (by first | rfl | (simp; done) | (simp [*]; done)), H', ⟨by have := HJ3.out; first | omega | exact Nat.le_refl _⟩, ⟨by (with_reducible repeat (first | apply Kd.R_alloc | apply Kd.R_drewN | apply Kd.R_drew)); exact Kd.R_mono HO381.out (fun _ hk => ⟨hk.1.2, hk.2⟩)⟩, ⟨by (with_reducible repeat (first | apply Kd.R_alloc | apply Kd.R_drewN | apply Kd.R_drew)); exact Kd.R_mono HO385.out (fun _ hk => ⟨hk.1.2, hk.2⟩)⟩, ⟨by (with_reducible repeat (first | apply Kd.R_alloc | apply Kd.R_drewN | apply Kd.R_drew)); exact Kd.R_mono HO389.out (fun _ hk => ⟨hk.1.2, hk.2⟩)⟩, ⟨by repeat (first | (with_reducible first | exact HB.out | apply below_alloc | apply pw_below_drewN | apply below_drew1) | exact HB.out)⟩⟩
        case rest =>
          clear HC25
          try clear c1
          try clear c2
          try clear p2
          try clear c4
          try clear c5
          try clear c6
          try clear c7
          try clear c8
          try clear c10
          try clear c11
          try clear c12
          try clear c14
          try clear c16
          try clear c18
          try clear c22
          try clear c45
          try clear c45b0
          try clear c45b1
          try clear c46
          try clear c46b0
          try clear c46b1
          try clear c47
          try clear c47b0
          try clear c47b1
          try clear c48
          try clear c48b0
          try clear c48b1
          try clear c49
          try clear c49b0
          try clear c49b1
          try clear c50
          try clear c50b0
          try clear c50b1
          try clear p2
          obtain ⟨kq, x134_24, rfl, HA, HJ24, HO_20, HO_22, HO_24, HB⟩ := hcut
          cases kq with
          | zero => exact absurd HA.out (by simp [casematelaw03_PolyValues.j1])
          | succ kj24 =>
            have H := HA.out
            clear HA
            simp only [casematelaw03_PolyValues.j1] at H
            by_cases c51 : x134_24 = true
            · subst c51
              have H1 : (some false) = some r := by rw [if_pos rfl] at H; exact H
              clear H
              have H := H1
              clear H1
              obtain rfl := Option.some.inj H
              go_wp2
              go_ret
              exact ⟨by first | rfl | (simp [errW_none, errW_some] <;> rfl) | (simp [*, errW_none, errW_some] <;> rfl), by repeat (first | (with_reducible first | exact HB.out | apply below_alloc | apply pw_below_drewN | apply below_drew1) | exact HB.out)⟩
            · replace c51 := Bool.eq_false_iff.mpr c51
              subst c51
              have H1 : ((casematelaw03_awake.f kj24).bind fun t390 => (if t390 = true then ((casemateref02_Sum.f kj24 t349 t351).bind fun t391 => (if t356 = t391 then ((casemateref02_Mul.f kj24 t349 t351).bind fun t392 => (if t361 = t392 then (if t373 = t349 then ((casematelaw03_mul.f kj24 t382 l1).bind fun t393 => ((casematelaw03_mul.f kj24 l0 t386).bind fun t396 => ((casematelaw03_add.f kj24 t393 t396).bind fun t399 => ((casemateref01_Ints.f kj24 t378 t399).bind fun t402 => (some t402))))) else (some false)) else (some false))) else (some false))) else (some false))) = some r := by rw [if_neg (show ¬ (false = true) by decide)] at H; exact H
              clear H
              have H := H1
              clear H1
              replace H := Option.bind_eq_some_iff.mp H
              obtain ⟨t390, A520, H⟩ := H
              replace H : (if t390 = true then ((casemateref02_Sum.f kj24 t349 t351).bind fun t391 => (if t356 = t391 then ((casemateref02_Mul.f kj24 t349 t351).bind fun t392 => (if t361 = t392 then (if t373 = t349 then ((casematelaw03_mul.f kj24 t382 l1).bind fun t393 => ((casematelaw03_mul.f kj24 l0 t386).bind fun t396 => ((casematelaw03_add.f kj24 t393 t396).bind fun t399 => ((casemateref01_Ints.f kj24 t378 t399).bind fun t402 => (some t402))))) else (some false)) else (some false))) else (some false))) else (some false)) = some r := H
              have A52 := Aside0.mk A520
              clear A520
              by_cases c53 : t390 = true
              · subst c53
                have H1 : ((casemateref02_Sum.f kj24 t349 t351).bind fun t391 => (if t356 = t391 then ((casemateref02_Mul.f kj24 t349 t351).bind fun t392 => (if t361 = t392 then (if t373 = t349 then ((casematelaw03_mul.f kj24 t382 l1).bind fun t393 => ((casematelaw03_mul.f kj24 l0 t386).bind fun t396 => ((casematelaw03_add.f kj24 t393 t396).bind fun t399 => ((casemateref01_Ints.f kj24 t378 t399).bind fun t402 => (some t402))))) else (some false)) else (some false))) else (some false))) = some r := by rw [if_pos rfl] at H; exact H
                clear H
                have H := H1
                clear H1
                replace H := Option.bind_eq_some_iff.mp H
                obtain ⟨t391, A540, H⟩ := H
                replace H : (if t356 = t391 then ((casemateref02_Mul.f kj24 t349 t351).bind fun t392 => (if t361 = t392 then (if t373 = t349 then ((casematelaw03_mul.f kj24 t382 l1).bind fun t393 => ((casematelaw03_mul.f kj24 l0 t386).bind fun t396 => ((casematelaw03_add.f kj24 t393 t396).bind fun t399 => ((casemateref01_Ints.f kj24 t378 t399).bind fun t402 => (some t402))))) else (some false)) else (some false))) else (some false)) = some r := H
                have A54 := Aside0.mk A540
                clear A540
                by_cases c55 : t356 = t391
                · rw [if_pos c55] at H
                  have c55b0 : (t356 == t391) = true := beq_iff_eq.mpr c55
                  have c55b1 : (t356 != t391) = false := bne_eq_false_iff_eq.mpr c55
                  clear c55
                  replace H := Option.bind_eq_some_iff.mp H
                  obtain ⟨t392, A560, H⟩ := H
                  replace H : (if t361 = t392 then (if t373 = t349 then ((casematelaw03_mul.f kj24 t382 l1).bind fun t393 => ((casematelaw03_mul.f kj24 l0 t386).bind fun t396 => ((casematelaw03_add.f kj24 t393 t396).bind fun t399 => ((casemateref01_Ints.f kj24 t378 t399).bind fun t402 => (some t402))))) else (some false)) else (some false)) = some r := H
                  have A56 := Aside0.mk A560
                  clear A560
                  by_cases c57 : t361 = t392
                  · rw [if_pos c57] at H
                    have c57b0 : (t361 == t392) = true := beq_iff_eq.mpr c57
                    have c57b1 : (t361 != t392) = false := bne_eq_false_iff_eq.mpr c57
                    clear c57
                    by_cases c58 : t373 = t349
                    · rw [if_pos c58] at H
                      have c58b0 : (t373 == t349) = true := beq_iff_eq.mpr c58
                      have c58b1 : (t373 != t349) = false := bne_eq_false_iff_eq.mpr c58
                      clear c58
                      replace H := Option.bind_eq_some_iff.mp H
                      obtain ⟨t393, A590, H⟩ := H
                      replace H : ((casematelaw03_mul.f kj24 l0 t386).bind fun t396 => ((casematelaw03_add.f kj24 t393 t396).bind fun t399 => ((casemateref01_Ints.f kj24 t378 t399).bind fun t402 => (some t402)))) = some r := H
                      have A59 := Aside0.mk A590
                      clear A590
                      replace H := Option.bind_eq_some_iff.mp H
                      obtain ⟨t396, A600, H⟩ := H
                      replace H : ((casematelaw03_add.f kj24 t393 t396).bind fun t399 => ((casemateref01_Ints.f kj24 t378 t399).bind fun t402 => (some t402))) = some r := H
                      have A60 := Aside0.mk A600
                      clear A600
                      replace H := Option.bind_eq_some_iff.mp H
                      obtain ⟨t399, A610, H⟩ := H
                      replace H : ((casemateref01_Ints.f kj24 t378 t399).bind fun t402 => (some t402)) = some r := H
                      have A61 := Aside0.mk A610
                      clear A610
                      replace H := Option.bind_eq_some_iff.mp H
                      obtain ⟨t402, A620, H⟩ := H
                      replace H : (some t402) = some r := H
                      have A62 := Aside0.mk A620
                      clear A620
                      obtain rfl := Option.some.inj H
                      go_wp2_with (first | ((with_reducible refine gate_callee (f := 13) rfl ?_); refine goesL_ (some 135) rfl rfl Try.func13 (by kernel_rfl) rfl #[] rfl (by (try simp only [List.map_toArray, List.map_cons, List.map_nil]); first | done | rfl | (simp only [List.length_drop, List.length_take]; rfl)) ?_; (with_reducible refine (casematelaw03_awake.calls kj24  true _ A52.out).mono ?_); rintro e w63 ⟨rfl, hb⟩; refine ⟨_, rfl, ?_⟩; have n0_ := Aside0.mk (Kd.R_below (by (with_reducible repeat (first | apply Kd.R_alloc | apply Kd.R_drewN | apply Kd.R_drew)); exact HO_20.out) hb); have n1_ := Aside0.mk (Kd.R_below (by (with_reducible repeat (first | apply Kd.R_alloc | apply Kd.R_drewN | apply Kd.R_drew)); exact HO_22.out) hb); have n2_ := Aside0.mk (Kd.R_below (by (with_reducible repeat (first | apply Kd.R_alloc | apply Kd.R_drewN | apply Kd.R_drew)); exact HO_24.out) hb); have n3_ := Aside0.mk (below_step (by repeat (first | (with_reducible first | exact HB.out | apply below_alloc | apply pw_below_drewN | apply below_drew1) | exact HB.out)) hb); clear HO_20; clear HO_22; clear HO_24; clear HB; have HO_20 := n0_; have HO_22 := n1_; have HO_24 := n2_; have HB := n3_; clear n0_ n1_ n2_ n3_; (try clear hb); (try clear hb2); (try clear hk); (try clear hi)) | (go_at_call 27; (with_reducible refine (casemateref02_Sum.calls kj24 t349 t351 t391 _ A54.out).mono ?_); rintro e w' ⟨rfl, ⟨nd, rfl⟩⟩) | (go_at_call 28; (with_reducible refine (casemateref02_Mul.calls kj24 t349 t351 t392 _ A56.out).mono ?_); rintro e w' ⟨rfl, ⟨nd, rfl⟩⟩; obtain ⟨Ao64, co64, eo64⟩ := Kd.R_slice HO_22.out; subst eo64) | (go_at_call 11; (with_reducible refine (casematelaw03_mul.calls kj24 _ _ t382 _ _ l1 t393 _ ?side1 ?side2 ?side3 ?side4 A59.out).mono ?_); (case side1 => repeat (first | exact (Kd.R_reads' HO_22.out).2.2 | (with_reducible refine Kd.C_alloc ?_ _) | (with_reducible refine Kd.C_drewN ?_ _) | (with_reducible refine Kd.C_drew ?_))); (case side2 => exact (Kd.R_reads' HO_22.out).2.1); (case side3 => repeat (first | exact (Kd.C_below HR1.out (by repeat (first | (with_reducible first | exact HB.out | apply below_alloc | apply pw_below_drewN | apply below_drew1) | exact HB.out))) | (with_reducible refine Kd.C_alloc ?_ _) | (with_reducible refine Kd.C_drewN ?_ _) | (with_reducible refine Kd.C_drew ?_))); (case side4 => exact HC1.out); rintro e w65 ⟨v394, rfl, ho0, hb⟩; have n0_ := Aside0.mk (Kd.R_elder' (by (with_reducible repeat (first | apply Kd.R_alloc | apply Kd.R_drewN | apply Kd.R_drew)); exact HO_20.out) (Kd.R_base ho0) hb); have n1_ := Aside0.mk (Kd.R_elder' (by (with_reducible repeat (first | apply Kd.R_alloc | apply Kd.R_drewN | apply Kd.R_drew)); exact HO_22.out) (Kd.R_base ho0) hb); have n2_ := Aside0.mk (Kd.R_elder' (by (with_reducible repeat (first | apply Kd.R_alloc | apply Kd.R_drewN | apply Kd.R_drew)); exact HO_24.out) (Kd.R_base ho0) hb); have n3_ := Aside0.mk (Kd.R_lower (Kd.R_new' (Kd.R_new' (Kd.R_new' ho0 (Kd.R_lt (by (with_reducible repeat (first | apply Kd.R_alloc | apply Kd.R_drewN | apply Kd.R_drew)); exact HO_20.out))) (Kd.R_lt (by (with_reducible repeat (first | apply Kd.R_alloc | apply Kd.R_drewN | apply Kd.R_drew)); exact HO_22.out))) (Kd.R_lt (by (with_reducible repeat (first | apply Kd.R_alloc | apply Kd.R_drewN | apply Kd.R_drew)); exact HO_24.out))) (below_size (by repeat (first | (with_reducible first | exact HB.out | apply below_alloc | apply pw_below_drewN | apply below_drew1) | exact HB.out)))); have n4_ := Aside0.mk (below_step (by repeat (first | (with_reducible first | exact HB.out | apply below_alloc | apply pw_below_drewN | apply below_drew1) | exact HB.out)) hb); clear HO_20; clear HO_22; clear HO_24; clear HB; have HO_20 := n0_; have HO_22 := n1_; have HO_24 := n2_; have HO395 := n3_; have HB := n4_; clear n0_ n1_ n2_ n3_ n4_; (try clear hb); (try clear hb2); (try clear hk); (try clear hi); (try clear ho0); obtain ⟨Ao66, co66, eo66⟩ := Kd.R_slice HO_24.out; subst eo66) | (go_at_call 11; (with_reducible refine (casematelaw03_mul.calls kj24 _ _ l0 _ _ t386 t396 _ ?side1 ?side2 ?side3 ?side4 A60.out).mono ?_); (case side1 => repeat (first | exact (Kd.C_below HR0.out HB.out) | (with_reducible refine Kd.C_alloc ?_ _) | (with_reducible refine Kd.C_drewN ?_ _) | (with_reducible refine Kd.C_drew ?_))); (case side2 => exact HC0.out); (case side3 => repeat (first | exact (Kd.R_reads' HO_24.out).2.2 | (with_reducible refine Kd.C_alloc ?_ _) | (with_reducible refine Kd.C_drewN ?_ _) | (with_reducible refine Kd.C_drew ?_))); (case side4 => exact (Kd.R_reads' HO_24.out).2.1); rintro e w67 ⟨v397, rfl, ho0, hb⟩; have n0_ := Aside0.mk (Kd.R_elder' (by (with_reducible repeat (first | apply Kd.R_alloc | apply Kd.R_drewN | apply Kd.R_drew)); exact HO_20.out) (Kd.R_base ho0) hb); have n1_ := Aside0.mk (Kd.R_elder' (by (with_reducible repeat (first | apply Kd.R_alloc | apply Kd.R_drewN | apply Kd.R_drew)); exact HO_22.out) (Kd.R_base ho0) hb); have n2_ := Aside0.mk (Kd.R_elder' (by (with_reducible repeat (first | apply Kd.R_alloc | apply Kd.R_drewN | apply Kd.R_drew)); exact HO_24.out) (Kd.R_base ho0) hb); have n3_ := Aside0.mk (Kd.R_elder' (by (with_reducible repeat (first | apply Kd.R_alloc | apply Kd.R_drewN | apply Kd.R_drew)); exact HO395.out) (Kd.R_base ho0) hb); have n4_ := Aside0.mk (Kd.R_lower (Kd.R_new' (Kd.R_new' (Kd.R_new' (Kd.R_new' ho0 (Kd.R_lt (by (with_reducible repeat (first | apply Kd.R_alloc | apply Kd.R_drewN | apply Kd.R_drew)); exact HO_20.out))) (Kd.R_lt (by (with_reducible repeat (first | apply Kd.R_alloc | apply Kd.R_drewN | apply Kd.R_drew)); exact HO_22.out))) (Kd.R_lt (by (with_reducible repeat (first | apply Kd.R_alloc | apply Kd.R_drewN | apply Kd.R_drew)); exact HO_24.out))) (Kd.R_lt (by (with_reducible repeat (first | apply Kd.R_alloc | apply Kd.R_drewN | apply Kd.R_drew)); exact HO395.out))) (below_size (by repeat (first | (with_reducible first | exact HB.out | apply below_alloc | apply pw_below_drewN | apply below_drew1) | exact HB.out)))); have n5_ := Aside0.mk (below_step (by repeat (first | (with_reducible first | exact HB.out | apply below_alloc | apply pw_below_drewN | apply below_drew1) | exact HB.out)) hb); clear HO_20; clear HO_22; clear HO_24; clear HO395; clear HB; have HO_20 := n0_; have HO_22 := n1_; have HO_24 := n2_; have HO395 := n3_; have HO398 := n4_; have HB := n5_; clear n0_ n1_ n2_ n3_ n4_ n5_; (try clear hb); (try clear hb2); (try clear hk); (try clear hi); (try clear ho0); obtain ⟨Ao68, co68, eo68⟩ := Kd.R_slice HO395.out; subst eo68; obtain ⟨Ao69, co69, eo69⟩ := Kd.R_slice HO398.out; subst eo69) | (go_at_call 18; (with_reducible refine (casematelaw03_add.calls kj24 _ _ t393 _ _ t396 t399 _ ?side1 ?side2 ?side3 ?side4 A61.out).mono ?_); (case side1 => repeat (first | exact (Kd.R_reads' HO395.out).2.2 | (with_reducible refine Kd.C_alloc ?_ _) | (with_reducible refine Kd.C_drewN ?_ _) | (with_reducible refine Kd.C_drew ?_))); (case side2 => exact (Kd.R_reads' HO395.out).2.1); (case side3 => repeat (first | exact (Kd.R_reads' HO398.out).2.2 | (with_reducible refine Kd.C_alloc ?_ _) | (with_reducible refine Kd.C_drewN ?_ _) | (with_reducible refine Kd.C_drew ?_))); (case side4 => exact (Kd.R_reads' HO398.out).2.1); rintro e w70 ⟨v400, rfl, ho0, hb⟩; have n0_ := Aside0.mk (Kd.R_elder' (by (with_reducible repeat (first | apply Kd.R_alloc | apply Kd.R_drewN | apply Kd.R_drew)); exact HO_20.out) (Kd.R_base ho0) hb); have n1_ := Aside0.mk (Kd.R_elder' (by (with_reducible repeat (first | apply Kd.R_alloc | apply Kd.R_drewN | apply Kd.R_drew)); exact HO_22.out) (Kd.R_base ho0) hb); have n2_ := Aside0.mk (Kd.R_elder' (by (with_reducible repeat (first | apply Kd.R_alloc | apply Kd.R_drewN | apply Kd.R_drew)); exact HO_24.out) (Kd.R_base ho0) hb); have n3_ := Aside0.mk (Kd.R_elder' (by (with_reducible repeat (first | apply Kd.R_alloc | apply Kd.R_drewN | apply Kd.R_drew)); exact HO395.out) (Kd.R_base ho0) hb); have n4_ := Aside0.mk (Kd.R_elder' (by (with_reducible repeat (first | apply Kd.R_alloc | apply Kd.R_drewN | apply Kd.R_drew)); exact HO398.out) (Kd.R_base ho0) hb); have n5_ := Aside0.mk (Kd.R_lower (Kd.R_new' (Kd.R_new' (Kd.R_new' (Kd.R_new' (Kd.R_new' ho0 (Kd.R_lt (by (with_reducible repeat (first | apply Kd.R_alloc | apply Kd.R_drewN | apply Kd.R_drew)); exact HO_20.out))) (Kd.R_lt (by (with_reducible repeat (first | apply Kd.R_alloc | apply Kd.R_drewN | apply Kd.R_drew)); exact HO_22.out))) (Kd.R_lt (by (with_reducible repeat (first | apply Kd.R_alloc | apply Kd.R_drewN | apply Kd.R_drew)); exact HO_24.out))) (Kd.R_lt (by (with_reducible repeat (first | apply Kd.R_alloc | apply Kd.R_drewN | apply Kd.R_drew)); exact HO395.out))) (Kd.R_lt (by (with_reducible repeat (first | apply Kd.R_alloc | apply Kd.R_drewN | apply Kd.R_drew)); exact HO398.out))) (below_size (by repeat (first | (with_reducible first | exact HB.out | apply below_alloc | apply pw_below_drewN | apply below_drew1) | exact HB.out)))); have n6_ := Aside0.mk (below_step (by repeat (first | (with_reducible first | exact HB.out | apply below_alloc | apply pw_below_drewN | apply below_drew1) | exact HB.out)) hb); clear HO_20; clear HO_22; clear HO_24; clear HO395; clear HO398; clear HB; have HO_20 := n0_; have HO_22 := n1_; have HO_24 := n2_; have HO395 := n3_; have HO398 := n4_; have HO401 := n5_; have HB := n6_; clear n0_ n1_ n2_ n3_ n4_ n5_ n6_; (try clear hb); (try clear hb2); (try clear hk); (try clear hi); (try clear ho0); obtain ⟨Ao71, co71, eo71⟩ := Kd.R_slice HO_20.out; subst eo71; obtain ⟨Ao72, co72, eo72⟩ := Kd.R_slice HO401.out; subst eo72) | (go_at_call 17; (with_reducible refine (casemateref01_Ints.calls kj24 _ _ t378 _ _ t399 t402 _ ?side1 ?side2 ?side3 ?side4 A62.out).mono ?_); (case side1 => repeat (first | exact (Kd.R_reads' HO_20.out).2.2 | (with_reducible refine Kd.C_alloc ?_ _) | (with_reducible refine Kd.C_drewN ?_ _) | (with_reducible refine Kd.C_drew ?_))); (case side2 => exact (Kd.R_reads' HO_20.out).2.1); (case side3 => repeat (first | exact (Kd.R_reads' HO401.out).2.2 | (with_reducible refine Kd.C_alloc ?_ _) | (with_reducible refine Kd.C_drewN ?_ _) | (with_reducible refine Kd.C_drew ?_))); (case side4 => exact (Kd.R_reads' HO401.out).2.1); rintro e w' ⟨rfl, ⟨nd, rfl⟩⟩))
                      go_ret
                      exact ⟨by first | rfl | (simp [errW_none, errW_some] <;> rfl) | (simp [*, errW_none, errW_some] <;> rfl), by repeat (first | (with_reducible first | exact HB.out | apply below_alloc | apply pw_below_drewN | apply below_drew1) | exact HB.out)⟩
                    · rw [if_neg c58] at H
                      have c58b0 : (t373 == t349) = false := beq_eq_false_iff_ne.mpr c58
                      have c58b1 : (t373 != t349) = true := bne_iff_ne.mpr c58
                      obtain rfl := Option.some.inj H
                      go_wp2_with (first | ((with_reducible refine gate_callee (f := 13) rfl ?_); refine goesL_ (some 135) rfl rfl Try.func13 (by kernel_rfl) rfl #[] rfl (by (try simp only [List.map_toArray, List.map_cons, List.map_nil]); first | done | rfl | (simp only [List.length_drop, List.length_take]; rfl)) ?_; (with_reducible refine (casematelaw03_awake.calls kj24  true _ A52.out).mono ?_); rintro e w73 ⟨rfl, hb⟩; refine ⟨_, rfl, ?_⟩; have n0_ := Aside0.mk (Kd.R_below (by (with_reducible repeat (first | apply Kd.R_alloc | apply Kd.R_drewN | apply Kd.R_drew)); exact HO_20.out) hb); have n1_ := Aside0.mk (Kd.R_below (by (with_reducible repeat (first | apply Kd.R_alloc | apply Kd.R_drewN | apply Kd.R_drew)); exact HO_22.out) hb); have n2_ := Aside0.mk (Kd.R_below (by (with_reducible repeat (first | apply Kd.R_alloc | apply Kd.R_drewN | apply Kd.R_drew)); exact HO_24.out) hb); have n3_ := Aside0.mk (below_step (by repeat (first | (with_reducible first | exact HB.out | apply below_alloc | apply pw_below_drewN | apply below_drew1) | exact HB.out)) hb); clear HO_20; clear HO_22; clear HO_24; clear HB; have HO_20 := n0_; have HO_22 := n1_; have HO_24 := n2_; have HB := n3_; clear n0_ n1_ n2_ n3_; (try clear hb); (try clear hb2); (try clear hk); (try clear hi)) | (go_at_call 27; (with_reducible refine (casemateref02_Sum.calls kj24 t349 t351 t391 _ A54.out).mono ?_); rintro e w' ⟨rfl, ⟨nd, rfl⟩⟩) | (go_at_call 28; (with_reducible refine (casemateref02_Mul.calls kj24 t349 t351 t392 _ A56.out).mono ?_); rintro e w' ⟨rfl, ⟨nd, rfl⟩⟩))
                      go_ret
                      exact ⟨by first | rfl | (simp [errW_none, errW_some] <;> rfl) | (simp [*, errW_none, errW_some] <;> rfl), by repeat (first | (with_reducible first | exact HB.out | apply below_alloc | apply pw_below_drewN | apply below_drew1) | exact HB.out)⟩
                  · rw [if_neg c57] at H
                    have c57b0 : (t361 == t392) = false := beq_eq_false_iff_ne.mpr c57
                    have c57b1 : (t361 != t392) = true := bne_iff_ne.mpr c57
                    obtain rfl := Option.some.inj H
                    go_wp2_with (first | ((with_reducible refine gate_callee (f := 13) rfl ?_); refine goesL_ (some 135) rfl rfl Try.func13 (by kernel_rfl) rfl #[] rfl (by (try simp only [List.map_toArray, List.map_cons, List.map_nil]); first | done | rfl | (simp only [List.length_drop, List.length_take]; rfl)) ?_; (with_reducible refine (casematelaw03_awake.calls kj24  true _ A52.out).mono ?_); rintro e w74 ⟨rfl, hb⟩; refine ⟨_, rfl, ?_⟩; have n0_ := Aside0.mk (Kd.R_below (by (with_reducible repeat (first | apply Kd.R_alloc | apply Kd.R_drewN | apply Kd.R_drew)); exact HO_20.out) hb); have n1_ := Aside0.mk (Kd.R_below (by (with_reducible repeat (first | apply Kd.R_alloc | apply Kd.R_drewN | apply Kd.R_drew)); exact HO_22.out) hb); have n2_ := Aside0.mk (Kd.R_below (by (with_reducible repeat (first | apply Kd.R_alloc | apply Kd.R_drewN | apply Kd.R_drew)); exact HO_24.out) hb); have n3_ := Aside0.mk (below_step (by repeat (first | (with_reducible first | exact HB.out | apply below_alloc | apply pw_below_drewN | apply below_drew1) | exact HB.out)) hb); clear HO_20; clear HO_22; clear HO_24; clear HB; have HO_20 := n0_; have HO_22 := n1_; have HO_24 := n2_; have HB := n3_; clear n0_ n1_ n2_ n3_; (try clear hb); (try clear hb2); (try clear hk); (try clear hi)) | (go_at_call 27; (with_reducible refine (casemateref02_Sum.calls kj24 t349 t351 t391 _ A54.out).mono ?_); rintro e w' ⟨rfl, ⟨nd, rfl⟩⟩) | (go_at_call 28; (with_reducible refine (casemateref02_Mul.calls kj24 t349 t351 t392 _ A56.out).mono ?_); rintro e w' ⟨rfl, ⟨nd, rfl⟩⟩))
                    go_ret
                    exact ⟨by first | rfl | (simp [errW_none, errW_some] <;> rfl) | (simp [*, errW_none, errW_some] <;> rfl), by repeat (first | (with_reducible first | exact HB.out | apply below_alloc | apply pw_below_drewN | apply below_drew1) | exact HB.out)⟩
                · rw [if_neg c55] at H
                  have c55b0 : (t356 == t391) = false := beq_eq_false_iff_ne.mpr c55
                  have c55b1 : (t356 != t391) = true := bne_iff_ne.mpr c55
                  obtain rfl := Option.some.inj H
                  go_wp2_with (first | ((with_reducible refine gate_callee (f := 13) rfl ?_); refine goesL_ (some 135) rfl rfl Try.func13 (by kernel_rfl) rfl #[] rfl (by (try simp only [List.map_toArray, List.map_cons, List.map_nil]); first | done | rfl | (simp only [List.length_drop, List.length_take]; rfl)) ?_; (with_reducible refine (casematelaw03_awake.calls kj24  true _ A52.out).mono ?_); rintro e w75 ⟨rfl, hb⟩; refine ⟨_, rfl, ?_⟩; have n0_ := Aside0.mk (Kd.R_below (by (with_reducible repeat (first | apply Kd.R_alloc | apply Kd.R_drewN | apply Kd.R_drew)); exact HO_20.out) hb); have n1_ := Aside0.mk (Kd.R_below (by (with_reducible repeat (first | apply Kd.R_alloc | apply Kd.R_drewN | apply Kd.R_drew)); exact HO_22.out) hb); have n2_ := Aside0.mk (Kd.R_below (by (with_reducible repeat (first | apply Kd.R_alloc | apply Kd.R_drewN | apply Kd.R_drew)); exact HO_24.out) hb); have n3_ := Aside0.mk (below_step (by repeat (first | (with_reducible first | exact HB.out | apply below_alloc | apply pw_below_drewN | apply below_drew1) | exact HB.out)) hb); clear HO_20; clear HO_22; clear HO_24; clear HB; have HO_20 := n0_; have HO_22 := n1_; have HO_24 := n2_; have HB := n3_; clear n0_ n1_ n2_ n3_; (try clear hb); (try clear hb2); (try clear hk); (try clear hi)) | (go_at_call 27; (with_reducible refine (casemateref02_Sum.calls kj24 t349 t351 t391 _ A54.out).mono ?_); rintro e w' ⟨rfl, ⟨nd, rfl⟩⟩))
                  go_ret
                  exact ⟨by first | rfl | (simp [errW_none, errW_some] <;> rfl) | (simp [*, errW_none, errW_some] <;> rfl), by repeat (first | (with_reducible first | exact HB.out | apply below_alloc | apply pw_below_drewN | apply below_drew1) | exact HB.out)⟩
              · replace c53 := Bool.eq_false_iff.mpr c53
                subst c53
                have H1 : (some false) = some r := by rw [if_neg (show ¬ (false = true) by decide)] at H; exact H
                clear H
                have H := H1
                clear H1
                obtain rfl := Option.some.inj H
                go_wp2_with (first | ((with_reducible refine gate_callee (f := 13) rfl ?_); refine goesL_ (some 135) rfl rfl Try.func13 (by kernel_rfl) rfl #[] rfl (by (try simp only [List.map_toArray, List.map_cons, List.map_nil]); first | done | rfl | (simp only [List.length_drop, List.length_take]; rfl)) ?_; (with_reducible refine (casematelaw03_awake.calls kj24  false _ A52.out).mono ?_); rintro e w76 ⟨rfl, hb⟩; refine ⟨_, rfl, ?_⟩; have n0_ := Aside0.mk (Kd.R_below (by (with_reducible repeat (first | apply Kd.R_alloc | apply Kd.R_drewN | apply Kd.R_drew)); exact HO_20.out) hb); have n1_ := Aside0.mk (Kd.R_below (by (with_reducible repeat (first | apply Kd.R_alloc | apply Kd.R_drewN | apply Kd.R_drew)); exact HO_22.out) hb); have n2_ := Aside0.mk (Kd.R_below (by (with_reducible repeat (first | apply Kd.R_alloc | apply Kd.R_drewN | apply Kd.R_drew)); exact HO_24.out) hb); have n3_ := Aside0.mk (below_step (by repeat (first | (with_reducible first | exact HB.out | apply below_alloc | apply pw_below_drewN | apply below_drew1) | exact HB.out)) hb); clear HO_20; clear HO_22; clear HO_24; clear HB; have HO_20 := n0_; have HO_22 := n1_; have HO_24 := n2_; have HB := n3_; clear n0_ n1_ n2_ n3_; (try clear hb); (try clear hb2); (try clear hk); (try clear hi)))
                go_ret
                exact ⟨by first | rfl | (simp [errW_none, errW_some] <;> rfl) | (simp [*, errW_none, errW_some] <;> rfl), by repeat (first | (with_reducible first | exact HB.out | apply below_alloc | apply pw_below_drewN | apply below_drew1) | exact HB.out)⟩

/-- THE ONE PURE STATEMENT of casematelaw03_PolyValues: yours. -/
def casematelaw03_PolyValues.Pure : Prop := ∀ (l0 : List Int) (l1 : List Int) (a2 : Int), l0.length ≤ maxLen → l0.length * 8 ≤ 140737488351232 → (∀ x ∈ l0, (Lit.int .i64 x).wf = true) → l1.length ≤ maxLen → l1.length * 8 ≤ 140737488351232 → (∀ x ∈ l1, (Lit.int .i64 x).wf = true) → (Lit.int .i64 a2).wf = true → ∃ k, casematelaw03_PolyValues.f k l0 l1 a2 = some true
theorem casematelaw03_PolyValues.walk (P : casematelaw03_PolyValues.Pure) (a0 : Option Addr) (len0 cap0 : Nat) (z0 : List Int) (a1 : Option Addr) (len1 cap1 : Nat) (z1 : List Int) (a2 : Int) (w : World) (w0 : (a0 = none ∧ len0 = 0 ∧ cap0 = 0 ∧ z0 = []) ∨ ∃ x, a0 = some x ∧ len0 ≤ cap0 ∧ cap0 ≤ maxLen ∧ z0.length = cap0 ∧ (∀ i, i < z0.length → w.cell? (x.add i) = some (.int .i64 (z0.getD i 0))) ∧ ∀ n ∈ z0, (Lit.int .i64 n).wf = true) (y0 : len0 * 8 ≤ 140737488351232) (w1 : (a1 = none ∧ len1 = 0 ∧ cap1 = 0 ∧ z1 = []) ∨ ∃ x, a1 = some x ∧ len1 ≤ cap1 ∧ cap1 ≤ maxLen ∧ z1.length = cap1 ∧ (∀ i, i < z1.length → w.cell? (x.add i) = some (.int .i64 (z1.getD i 0))) ∧ ∀ n ∈ z1, (Lit.int .i64 n).wf = true) (y1 : len1 * 8 ≤ 140737488351232) (w2 : (Lit.int .i64 a2).wf = true) :
    Calls Try.prog 7 #[.slice a0 len0 cap0, .slice a1 len1 cap1, .int .i64 a2] w fun e w' => e = .returned (.bool true) ∧ Below w.heap.size w w' := by
  obtain ⟨l0, rfl, hr0, hm0, hw0, hc0⟩ := ReadsInt.ofRowC w0
  obtain ⟨l1, rfl, hr1, hm1, hw1, hc1⟩ := ReadsInt.ofRowC w1
  obtain ⟨k, h⟩ := P l0 l1 a2 hm0 y0 hw0 hm1 y1 hw1 w2
  refine (casematelaw03_PolyValues.calls k _ _ l0 _ _ l1 a2 true w (Kd.C_of_reads (d := (0 : Int)) (h1 := fun _ => rfl) hr0) hc0 (Kd.C_of_reads (d := (0 : Int)) (h1 := fun _ => rfl) hr1) hc1 h).mono ?_
  rintro e w' ⟨rfl, hd⟩
  exact ⟨rfl, hd⟩

end Go.Proofs.Ytfjmbmlmbchglaa.P

/- What Go functions of the translation come to, as plain functions, and that their calls come to just that. No condition but that the plain function answers. (Written by a program of this session.) -/
import Derived.Test.YtbaiildpabdlpaaPx0
import Derived.Test.YtbaiildpabdlpaaPx1
import Derived.Test.YtbaiildpabdlpaaPx4
import Derived.Test.YtbaiildpabdlpaaPx8
import Derived.Test.YtbaiildpabdlpaaPx20
import Derived.Test.YtbaiildpabdlpaaPx22
namespace Go.Proofs.Ytbaiildpabdlpaa.P
open Go.RowKit Go.Proofs.YtbaiildpabdlpaaW.PrintWords Go.Proofs.YtbaiildpabdlpaaW.PrintLast Go.Proofs.YtbaiildpabdlpaaW.PrintMore
attribute [local go_sem] max2_int min2_int max_two min_two max_three min_three max_four min_four   -- for this text's walks alone
set_option linter.unusedVariables false
set_option linter.unusedSimpArgs false
mutual
def casematelaw05_BchLinear.j0 : Nat → Int → List Int → List Int → Int → Bool → Option (Bool)
  | 0, _, _, _, _, _ => none
  | k + 1, x0, x1, x2, x3, x65 => if x65 = true then (some true) else ((bits_Apart.f k x1 x2).bind fun bt535 => (if 0 ≤ (x1.length : Int) then (if ((x1.length : Int) : Int).toNat ≤ 281474976710656 then ((bits_Turn.f k (List.replicate ((x1.length : Int) : Int).toNat 0) bt535.1).bind fun bt542 => ((bch_Encode.f k x0 x1).bind fun bt546 => ((bch_Encode.f k x0 x2).bind fun bt550 => ((bch_Encode.f k x0 bt542.1).bind fun bt554 => ((bits_Apart.f k bt546.1 bt550.1).bind fun bt558 => (if 0 ≤ (bt546.1.length : Int) then (if ((bt546.1.length : Int) : Int).toNat ≤ 281474976710656 then ((bits_Turn.f k (List.replicate ((bt546.1.length : Int) : Int).toNat 0) bt558.1).bind fun bt565 => ((bch_Sums.f k x0 x1 bt546.1).bind fun bt569 => ((bits_Turn.f k x1 (([x3] : List Int))).bind fun bt576 => ((bch_Sums.f k x0 bt576.1 bt546.1).bind fun bt580 => (if bt546.2 = 0 then (if bt550.2 = bt546.2 then (if bt554.2 = bt546.2 then (if bt558.2 = bt546.2 then (if bt565.2 = bt546.2 then (if bt569.2 = bt546.2 then (if bt580.2 = bt546.2 then (if (strOfNums bt554.1).toList = (strOfNums bt565.1).toList then (if (bt569.1.length : Int) = (wrap64 (2 * x0)) then (casematelaw05_BchLinear.j1 k x0 bt569.1 bt580.1 ((bt580.1.length : Int) != (wrap64 (2 * x0)))) else (casematelaw05_BchLinear.j1 k x0 bt569.1 bt580.1 true)) else (casematelaw05_BchLinear.j1 k x0 bt569.1 bt580.1 true)) else (casematelaw05_BchLinear.j1 k x0 bt569.1 bt580.1 true)) else (casematelaw05_BchLinear.j1 k x0 bt569.1 bt580.1 true)) else (casematelaw05_BchLinear.j1 k x0 bt569.1 bt580.1 true)) else (casematelaw05_BchLinear.j1 k x0 bt569.1 bt580.1 true)) else (casematelaw05_BchLinear.j1 k x0 bt569.1 bt580.1 true)) else (casematelaw05_BchLinear.j1 k x0 bt569.1 bt580.1 true)) else (casematelaw05_BchLinear.j1 k x0 bt569.1 bt580.1 true)))))) else (none)) else (none))))))) else (none)) else (none)))
def casematelaw05_BchLinear.j1 : Nat → Int → List Int → List Int → Bool → Option (Bool)
  | 0, _, _, _, _ => none
  | k + 1, x0, x23, x27, x185 => if x185 = true then (some false) else (casematelaw05_BchLinear.l0 k x0 x23 x27 false 0)
def casematelaw05_BchLinear.l0 : Nat → Int → List Int → List Int → Bool → Int → Option (Bool)
  | 0, _, _, _, _, _ => none
  | k + 1, x0, x23, x27, x29, x30 => if x30 < (wrap64 (2 * x0)) then (if 0 ≤ x30 then (if x30 < (x23.length : Int) then (if (rd x23 x30) = 0 then (if x29 = true then (casematelaw05_BchLinear.l0 k x0 x23 x27 true (wrap64 (x30 + 1))) else (if x30 < (x27.length : Int) then (casematelaw05_BchLinear.l0 k x0 x23 x27 ((rd x27 x30) != 0) (wrap64 (x30 + 1))) else (none))) else (some false)) else (none)) else (none)) else ((casematelaw05_awake.f k).bind fun t586 => (if t586 = true then (some x29) else (some false)))
end
def casematelaw05_BchLinear.f (k : Nat) (a0 : Int) (l1 : List Int) (l2 : List Int) (a3 : Int) : Option (Bool) := (casematelaw05_small.f l1 l2).bind fun t534 => (if t534 = true then (if (l1.length : Int) = 0 then (casematelaw05_BchLinear.j0 k a0 l1 l2 a3 true) else (if (l1.length : Int) = (l2.length : Int) then (if a0 < 1 then (casematelaw05_BchLinear.j0 k a0 l1 l2 a3 true) else (if a0 > 8 then (casematelaw05_BchLinear.j0 k a0 l1 l2 a3 true) else (if a3 < 0 then (casematelaw05_BchLinear.j0 k a0 l1 l2 a3 true) else (casematelaw05_BchLinear.j0 k a0 l1 l2 a3 (decide (a3 ≥ (wrap64 (8 * (l1.length : Int))))))))) else (casematelaw05_BchLinear.j0 k a0 l1 l2 a3 true))) else (casematelaw05_BchLinear.j0 k a0 l1 l2 a3 true))
theorem casematelaw05_BchLinear.j1_no : ∀ (k : Nat) y0 y1 y2, ¬ casematelaw05_BchLinear.j1 k y0 y1 y2 true = some true
  | 0, _, _, _ => by simp [casematelaw05_BchLinear.j1]
  | k + 1, _, _, _ => by simp [casematelaw05_BchLinear.j1]
set_option maxHeartbeats 8000000 in
set_option maxRecDepth 100000 in
theorem casematelaw05_BchLinear.calls (k : Nat) (a0 : Int) (A1 : Option Addr) (c1 : Nat) (l1 : List Int) (A2 : Option Addr) (c2 : Nat) (l2 : List Int) (a3 : Int) (r : Bool) (hr0_ : r = true) (w : World) (hr1 : Kd.C (Kd.int .u8) w A1 l1.length l1) (hc1 : l1.length ≤ c1) (hr2 : Kd.C (Kd.int .u8) w A2 l2.length l2) (hc2 : l2.length ≤ c2) (h : casematelaw05_BchLinear.f k a0 l1 l2 a3 = some r) :
    Calls Try.prog 9 #[.int .i64 a0, .slice A1 l1.length c1, .slice A2 l2.length c2, .int .i64 a3] w fun e w' => e = .returned (.bool r) ∧ Below w.heap.size w w' := by
  have HR1 := Aside0.mk hr1
  have HC1 := Aside0.mk hc1
  clear hr1 hc1
  have HR2 := Aside0.mk hr2
  have HC2 := Aside0.mk hc2
  clear hr2 hc2
  have HB := Aside0.mk (Below.refl w.heap.size w)
  have hr_ := Aside0.mk hr0_
  have H : ((casematelaw05_small.f l1 l2).bind fun t534 => (if t534 = true then (if (l1.length : Int) = 0 then (casematelaw05_BchLinear.j0 k a0 l1 l2 a3 true) else (if (l1.length : Int) = (l2.length : Int) then (if a0 < 1 then (casematelaw05_BchLinear.j0 k a0 l1 l2 a3 true) else (if a0 > 8 then (casematelaw05_BchLinear.j0 k a0 l1 l2 a3 true) else (if a3 < 0 then (casematelaw05_BchLinear.j0 k a0 l1 l2 a3 true) else (casematelaw05_BchLinear.j0 k a0 l1 l2 a3 (decide (a3 ≥ (wrap64 (8 * (l1.length : Int))))))))) else (casematelaw05_BchLinear.j0 k a0 l1 l2 a3 true))) else (casematelaw05_BchLinear.j0 k a0 l1 l2 a3 true))) = some r := h
  clear h
  have HC5 := Aside0.mk H
  clear H
  go_enter Try.func9, Try.ntmps9
  go_upto_region 1 with (fail)
  go_cut [65] (fun v65 wc => ∃ (kq : Nat) (x65_4 : Bool), v65 = .bool x65_4 ∧ Aside0 (casematelaw05_BchLinear.j0 kq a0 l1 l2 a3 x65_4 = some r) ∧ Aside0 (kq ≤ k) ∧ Aside0 (Below w.heap.size w wc))
  case first =>
    have H := HC5.out
    clear HC5
    replace H := Option.bind_eq_some_iff.mp H
    obtain ⟨t534, A60, H⟩ := H
    replace H : (if t534 = true then (if (l1.length : Int) = 0 then (casematelaw05_BchLinear.j0 k a0 l1 l2 a3 true) else (if (l1.length : Int) = (l2.length : Int) then (if a0 < 1 then (casematelaw05_BchLinear.j0 k a0 l1 l2 a3 true) else (if a0 > 8 then (casematelaw05_BchLinear.j0 k a0 l1 l2 a3 true) else (if a3 < 0 then (casematelaw05_BchLinear.j0 k a0 l1 l2 a3 true) else (casematelaw05_BchLinear.j0 k a0 l1 l2 a3 (decide (a3 ≥ (wrap64 (8 * (l1.length : Int))))))))) else (casematelaw05_BchLinear.j0 k a0 l1 l2 a3 true))) else (casematelaw05_BchLinear.j0 k a0 l1 l2 a3 true)) = some r := H
    have A6 := Aside0.mk A60
    clear A60
    by_cases c7 : t534 = true
    · subst c7
      have H1 : (if (l1.length : Int) = 0 then (casematelaw05_BchLinear.j0 k a0 l1 l2 a3 true) else (if (l1.length : Int) = (l2.length : Int) then (if a0 < 1 then (casematelaw05_BchLinear.j0 k a0 l1 l2 a3 true) else (if a0 > 8 then (casematelaw05_BchLinear.j0 k a0 l1 l2 a3 true) else (if a3 < 0 then (casematelaw05_BchLinear.j0 k a0 l1 l2 a3 true) else (casematelaw05_BchLinear.j0 k a0 l1 l2 a3 (decide (a3 ≥ (wrap64 (8 * (l1.length : Int))))))))) else (casematelaw05_BchLinear.j0 k a0 l1 l2 a3 true))) = some r := by rw [if_pos rfl] at H; exact H
      clear H
      have H := H1
      clear H1
      by_cases c8 : (l1.length : Int) = 0
      · rw [if_pos c8] at H
        have c8b0 : ((l1.length : Int) == 0) = true := beq_iff_eq.mpr c8
        have c8b1 : ((l1.length : Int) != 0) = false := bne_eq_false_iff_eq.mpr c8
        clear c8
        (first | rw [c8b0] | (simp only [i64_w, i32_w]; rw [c8b0]) | skip)
        have H' := Aside0.mk H
        clear H
        go_wp2_with (first | ((with_reducible refine gate_callee (f := 10) rfl ?_); refine goesL_ (some 33) rfl rfl Try.func10 (by kernel_rfl) rfl #[.slice A1 l1.length c1, .slice A2 l2.length c2] rfl (by (try simp only [List.map_toArray, List.map_cons, List.map_nil]); first | done | rfl | (simp only [List.length_drop, List.length_take]; rfl)) ?_; (with_reducible refine (casematelaw05_small.calls _ _ l1 _ _ l2 true _ ?side1 ?side2 ?side3 ?side4 A6.out).mono ?_); (case side1 => repeat (first | exact (Kd.C_below HR1.out HB.out) | (with_reducible refine Kd.C_alloc ?_ _) | (with_reducible refine Kd.C_drewN ?_ _) | (with_reducible refine Kd.C_drew ?_))); (case side2 => exact HC1.out); (case side3 => repeat (first | exact (Kd.C_below HR2.out HB.out) | (with_reducible refine Kd.C_alloc ?_ _) | (with_reducible refine Kd.C_drewN ?_ _) | (with_reducible refine Kd.C_drew ?_))); (case side4 => exact HC2.out); rintro e w' ⟨rfl, ⟨nd, rfl⟩⟩; refine ⟨_, rfl, ?_⟩))
        go_meet
        case rel => exact ⟨_, (true), (by first | rfl | (simp; done) | (simp [*]; done)), H', ⟨by first | omega | exact Nat.le_refl _⟩, ⟨by repeat (first | (with_reducible first | exact HB.out | apply below_alloc | apply pw_below_drewN | apply below_drew1) | exact HB.out)⟩⟩
      · rw [if_neg c8] at H
        have c8b0 : ((l1.length : Int) == 0) = false := beq_eq_false_iff_ne.mpr c8
        have c8b1 : ((l1.length : Int) != 0) = true := bne_iff_ne.mpr c8
        have c8b2 : ¬ (l1 = []) := fun h_ => c8 (by rw [h_]; rfl)
        (first | rw [c8b0] | (simp only [i64_w, i32_w]; rw [c8b0]) | skip)
        by_cases c9 : (l1.length : Int) = (l2.length : Int)
        · rw [if_pos c9] at H
          have c9b0 : ((l1.length : Int) == (l2.length : Int)) = true := beq_iff_eq.mpr c9
          have c9b1 : ((l1.length : Int) != (l2.length : Int)) = false := bne_eq_false_iff_eq.mpr c9
          have c9b2 : (l1.length == l2.length) = true := by first | simpa using c9 | (simp at c9 ⊢; omega)
          clear c9
          by_cases c10 : a0 < 1
          · rw [if_pos c10] at H
            have c10b0 : decide (a0 < 1) = true := decide_eq_true c10
            clear c10
            have H' := Aside0.mk H
            clear H
            go_wp2_with (first | ((with_reducible refine gate_callee (f := 10) rfl ?_); refine goesL_ (some 33) rfl rfl Try.func10 (by kernel_rfl) rfl #[.slice A1 l1.length c1, .slice A2 l2.length c2] rfl (by (try simp only [List.map_toArray, List.map_cons, List.map_nil]); first | done | rfl | (simp only [List.length_drop, List.length_take]; rfl)) ?_; (with_reducible refine (casematelaw05_small.calls _ _ l1 _ _ l2 true _ ?side1 ?side2 ?side3 ?side4 A6.out).mono ?_); (case side1 => repeat (first | exact (Kd.C_below HR1.out HB.out) | (with_reducible refine Kd.C_alloc ?_ _) | (with_reducible refine Kd.C_drewN ?_ _) | (with_reducible refine Kd.C_drew ?_))); (case side2 => exact HC1.out); (case side3 => repeat (first | exact (Kd.C_below HR2.out HB.out) | (with_reducible refine Kd.C_alloc ?_ _) | (with_reducible refine Kd.C_drewN ?_ _) | (with_reducible refine Kd.C_drew ?_))); (case side4 => exact HC2.out); rintro e w' ⟨rfl, ⟨nd, rfl⟩⟩; refine ⟨_, rfl, ?_⟩))
            go_meet
            case rel => exact ⟨_, (true), (by first | rfl | (simp; done) | (simp [*]; done)), H', ⟨by first | omega | exact Nat.le_refl _⟩, ⟨by repeat (first | (with_reducible first | exact HB.out | apply below_alloc | apply pw_below_drewN | apply below_drew1) | exact HB.out)⟩⟩
          · rw [if_neg c10] at H
            have c10b0 : decide (a0 < 1) = false := decide_eq_false c10
            clear c10
            by_cases c11 : a0 > 8
            · rw [if_pos c11] at H
              have c11b0 : decide (8 < a0) = true := decide_eq_true c11
              clear c11
              have H' := Aside0.mk H
              clear H
              go_wp2_with (first | ((with_reducible refine gate_callee (f := 10) rfl ?_); refine goesL_ (some 33) rfl rfl Try.func10 (by kernel_rfl) rfl #[.slice A1 l1.length c1, .slice A2 l2.length c2] rfl (by (try simp only [List.map_toArray, List.map_cons, List.map_nil]); first | done | rfl | (simp only [List.length_drop, List.length_take]; rfl)) ?_; (with_reducible refine (casematelaw05_small.calls _ _ l1 _ _ l2 true _ ?side1 ?side2 ?side3 ?side4 A6.out).mono ?_); (case side1 => repeat (first | exact (Kd.C_below HR1.out HB.out) | (with_reducible refine Kd.C_alloc ?_ _) | (with_reducible refine Kd.C_drewN ?_ _) | (with_reducible refine Kd.C_drew ?_))); (case side2 => exact HC1.out); (case side3 => repeat (first | exact (Kd.C_below HR2.out HB.out) | (with_reducible refine Kd.C_alloc ?_ _) | (with_reducible refine Kd.C_drewN ?_ _) | (with_reducible refine Kd.C_drew ?_))); (case side4 => exact HC2.out); rintro e w' ⟨rfl, ⟨nd, rfl⟩⟩; refine ⟨_, rfl, ?_⟩))
              go_meet
              case rel => exact ⟨_, (true), (by first | rfl | (simp; done) | (simp [*]; done)), H', ⟨by first | omega | exact Nat.le_refl _⟩, ⟨by repeat (first | (with_reducible first | exact HB.out | apply below_alloc | apply pw_below_drewN | apply below_drew1) | exact HB.out)⟩⟩
            · rw [if_neg c11] at H
              have c11b0 : decide (8 < a0) = false := decide_eq_false c11
              clear c11
              by_cases c12 : a3 < 0
              · rw [if_pos c12] at H
                have c12b0 : decide (a3 < 0) = true := decide_eq_true c12
                clear c12
                have H' := Aside0.mk H
                clear H
                go_wp2_with (first | ((with_reducible refine gate_callee (f := 10) rfl ?_); refine goesL_ (some 33) rfl rfl Try.func10 (by kernel_rfl) rfl #[.slice A1 l1.length c1, .slice A2 l2.length c2] rfl (by (try simp only [List.map_toArray, List.map_cons, List.map_nil]); first | done | rfl | (simp only [List.length_drop, List.length_take]; rfl)) ?_; (with_reducible refine (casematelaw05_small.calls _ _ l1 _ _ l2 true _ ?side1 ?side2 ?side3 ?side4 A6.out).mono ?_); (case side1 => repeat (first | exact (Kd.C_below HR1.out HB.out) | (with_reducible refine Kd.C_alloc ?_ _) | (with_reducible refine Kd.C_drewN ?_ _) | (with_reducible refine Kd.C_drew ?_))); (case side2 => exact HC1.out); (case side3 => repeat (first | exact (Kd.C_below HR2.out HB.out) | (with_reducible refine Kd.C_alloc ?_ _) | (with_reducible refine Kd.C_drewN ?_ _) | (with_reducible refine Kd.C_drew ?_))); (case side4 => exact HC2.out); rintro e w' ⟨rfl, ⟨nd, rfl⟩⟩; refine ⟨_, rfl, ?_⟩))
                go_meet
                case rel => exact ⟨_, (true), (by first | rfl | (simp; done) | (simp [*]; done)), H', ⟨by first | omega | exact Nat.le_refl _⟩, ⟨by repeat (first | (with_reducible first | exact HB.out | apply below_alloc | apply pw_below_drewN | apply below_drew1) | exact HB.out)⟩⟩
              · rw [if_neg c12] at H
                have c12b0 : decide (a3 < 0) = false := decide_eq_false c12
                clear c12
                have H' := Aside0.mk H
                clear H
                go_wp2_with (first | ((with_reducible refine gate_callee (f := 10) rfl ?_); refine goesL_ (some 33) rfl rfl Try.func10 (by kernel_rfl) rfl #[.slice A1 l1.length c1, .slice A2 l2.length c2] rfl (by (try simp only [List.map_toArray, List.map_cons, List.map_nil]); first | done | rfl | (simp only [List.length_drop, List.length_take]; rfl)) ?_; (with_reducible refine (casematelaw05_small.calls _ _ l1 _ _ l2 true _ ?side1 ?side2 ?side3 ?side4 A6.out).mono ?_); (case side1 => repeat (first | exact (Kd.C_below HR1.out HB.out) | (with_reducible refine Kd.C_alloc ?_ _) | (with_reducible refine Kd.C_drewN ?_ _) | (with_reducible refine Kd.C_drew ?_))); (case side2 => exact HC1.out); (case side3 => repeat (first | exact (Kd.C_below HR2.out HB.out) | (with_reducible refine Kd.C_alloc ?_ _) | (with_reducible refine Kd.C_drewN ?_ _) | (with_reducible refine Kd.C_drew ?_))); (case side4 => exact HC2.out); rintro e w' ⟨rfl, ⟨nd, rfl⟩⟩; refine ⟨_, rfl, ?_⟩))
                go_meet
                case rel => exact ⟨_, (decide (a3 ≥ (wrap64 (8 * (l1.length : Int))))), (by first | rfl | (simp; done) | (simp [*]; done)), H', ⟨by first | omega | exact Nat.le_refl _⟩, ⟨by repeat (first | (with_reducible first | exact HB.out | apply below_alloc | apply pw_below_drewN | apply below_drew1) | exact HB.out)⟩⟩
        · rw [if_neg c9] at H
          have c9b0 : ((l1.length : Int) == (l2.length : Int)) = false := beq_eq_false_iff_ne.mpr c9
          have c9b1 : ((l1.length : Int) != (l2.length : Int)) = true := bne_iff_ne.mpr c9
          have c9b2 : (l1.length == l2.length) = false := by first | simpa using c9 | (simp at c9 ⊢; omega)
          have H' := Aside0.mk H
          clear H
          go_wp2_with (first | ((with_reducible refine gate_callee (f := 10) rfl ?_); refine goesL_ (some 33) rfl rfl Try.func10 (by kernel_rfl) rfl #[.slice A1 l1.length c1, .slice A2 l2.length c2] rfl (by (try simp only [List.map_toArray, List.map_cons, List.map_nil]); first | done | rfl | (simp only [List.length_drop, List.length_take]; rfl)) ?_; (with_reducible refine (casematelaw05_small.calls _ _ l1 _ _ l2 true _ ?side1 ?side2 ?side3 ?side4 A6.out).mono ?_); (case side1 => repeat (first | exact (Kd.C_below HR1.out HB.out) | (with_reducible refine Kd.C_alloc ?_ _) | (with_reducible refine Kd.C_drewN ?_ _) | (with_reducible refine Kd.C_drew ?_))); (case side2 => exact HC1.out); (case side3 => repeat (first | exact (Kd.C_below HR2.out HB.out) | (with_reducible refine Kd.C_alloc ?_ _) | (with_reducible refine Kd.C_drewN ?_ _) | (with_reducible refine Kd.C_drew ?_))); (case side4 => exact HC2.out); rintro e w' ⟨rfl, ⟨nd, rfl⟩⟩; refine ⟨_, rfl, ?_⟩))
          go_meet
          case rel => exact ⟨_, (true), (by first | rfl | (simp; done) | (simp [*]; done)), H', ⟨by first | omega | exact Nat.le_refl _⟩, ⟨by repeat (first | (with_reducible first | exact HB.out | apply below_alloc | apply pw_below_drewN | apply below_drew1) | exact HB.out)⟩⟩
    · replace c7 := Bool.eq_false_iff.mpr c7
      subst c7
      have H1 : (casematelaw05_BchLinear.j0 k a0 l1 l2 a3 true) = some r := by rw [if_neg (show ¬ (false = true) by decide)] at H; exact H
      clear H
      have H := H1
      clear H1
      have H' := Aside0.mk H
      clear H
      go_wp2_with (first | ((with_reducible refine gate_callee (f := 10) rfl ?_); refine goesL_ (some 33) rfl rfl Try.func10 (by kernel_rfl) rfl #[.slice A1 l1.length c1, .slice A2 l2.length c2] rfl (by (try simp only [List.map_toArray, List.map_cons, List.map_nil]); first | done | rfl | (simp only [List.length_drop, List.length_take]; rfl)) ?_; (with_reducible refine (casematelaw05_small.calls _ _ l1 _ _ l2 false _ ?side1 ?side2 ?side3 ?side4 A6.out).mono ?_); (case side1 => repeat (first | exact (Kd.C_below HR1.out HB.out) | (with_reducible refine Kd.C_alloc ?_ _) | (with_reducible refine Kd.C_drewN ?_ _) | (with_reducible refine Kd.C_drew ?_))); (case side2 => exact HC1.out); (case side3 => repeat (first | exact (Kd.C_below HR2.out HB.out) | (with_reducible refine Kd.C_alloc ?_ _) | (with_reducible refine Kd.C_drewN ?_ _) | (with_reducible refine Kd.C_drew ?_))); (case side4 => exact HC2.out); rintro e w' ⟨rfl, ⟨nd, rfl⟩⟩; refine ⟨_, rfl, ?_⟩))
      go_meet
      case rel => exact ⟨_, (true), (by first | rfl | (simp; done) | (simp [*]; done)), H', ⟨by first | omega | exact Nat.le_refl _⟩, ⟨by repeat (first | (with_reducible first | exact HB.out | apply below_alloc | apply pw_below_drewN | apply below_drew1) | exact HB.out)⟩⟩
  case rest =>
    clear HC5
    try clear c1
    try clear c2
    try clear p2
    try clear p6
    try clear c7
    try clear c8
    try clear c8b0
    try clear c8b1
    try clear c8b2
    try clear c9
    try clear c9b0
    try clear c9b1
    try clear c9b2
    try clear c10
    try clear c10b0
    try clear c11
    try clear c11b0
    try clear c12
    try clear c12b0
    obtain ⟨kq, x65_4, rfl, HA, HJ4, HB⟩ := hcut
    cases kq with
    | zero => exact absurd HA.out (by simp [casematelaw05_BchLinear.j0])
    | succ kj4 =>
      have H := HA.out
      clear HA
      simp only [casematelaw05_BchLinear.j0] at H
      by_cases c13 : x65_4 = true
      · subst c13
        have H1 : (some true) = some r := by rw [if_pos rfl] at H; exact H
        clear H
        have H := H1
        clear H1
        obtain rfl := Option.some.inj H
        go_wp2
        go_ret
        exact ⟨by first | rfl | (simp [errW_none, errW_some] <;> rfl) | (simp [*, errW_none, errW_some] <;> rfl), by repeat (first | (with_reducible first | exact HB.out | apply below_alloc | apply pw_below_drewN | apply below_drew1) | exact HB.out)⟩
      · replace c13 := Bool.eq_false_iff.mpr c13
        subst c13
        have H1 : ((bits_Apart.f kj4 l1 l2).bind fun bt535 => (if 0 ≤ (l1.length : Int) then (if ((l1.length : Int) : Int).toNat ≤ 281474976710656 then ((bits_Turn.f kj4 (List.replicate ((l1.length : Int) : Int).toNat 0) bt535.1).bind fun bt542 => ((bch_Encode.f kj4 a0 l1).bind fun bt546 => ((bch_Encode.f kj4 a0 l2).bind fun bt550 => ((bch_Encode.f kj4 a0 bt542.1).bind fun bt554 => ((bits_Apart.f kj4 bt546.1 bt550.1).bind fun bt558 => (if 0 ≤ (bt546.1.length : Int) then (if ((bt546.1.length : Int) : Int).toNat ≤ 281474976710656 then ((bits_Turn.f kj4 (List.replicate ((bt546.1.length : Int) : Int).toNat 0) bt558.1).bind fun bt565 => ((bch_Sums.f kj4 a0 l1 bt546.1).bind fun bt569 => ((bits_Turn.f kj4 l1 (([a3] : List Int))).bind fun bt576 => ((bch_Sums.f kj4 a0 bt576.1 bt546.1).bind fun bt580 => (if bt546.2 = 0 then (if bt550.2 = bt546.2 then (if bt554.2 = bt546.2 then (if bt558.2 = bt546.2 then (if bt565.2 = bt546.2 then (if bt569.2 = bt546.2 then (if bt580.2 = bt546.2 then (if (strOfNums bt554.1).toList = (strOfNums bt565.1).toList then (if (bt569.1.length : Int) = (wrap64 (2 * a0)) then (casematelaw05_BchLinear.j1 kj4 a0 bt569.1 bt580.1 ((bt580.1.length : Int) != (wrap64 (2 * a0)))) else (casematelaw05_BchLinear.j1 kj4 a0 bt569.1 bt580.1 true)) else (casematelaw05_BchLinear.j1 kj4 a0 bt569.1 bt580.1 true)) else (casematelaw05_BchLinear.j1 kj4 a0 bt569.1 bt580.1 true)) else (casematelaw05_BchLinear.j1 kj4 a0 bt569.1 bt580.1 true)) else (casematelaw05_BchLinear.j1 kj4 a0 bt569.1 bt580.1 true)) else (casematelaw05_BchLinear.j1 kj4 a0 bt569.1 bt580.1 true)) else (casematelaw05_BchLinear.j1 kj4 a0 bt569.1 bt580.1 true)) else (casematelaw05_BchLinear.j1 kj4 a0 bt569.1 bt580.1 true)) else (casematelaw05_BchLinear.j1 kj4 a0 bt569.1 bt580.1 true)))))) else (none)) else (none))))))) else (none)) else (none))) = some r := by rw [if_neg (show ¬ (false = true) by decide)] at H; exact H
        clear H
        have H := H1
        clear H1
        replace H := Option.bind_eq_some_iff.mp H
        obtain ⟨⟨t535, t536⟩, A140, H⟩ := H
        replace H : (if 0 ≤ (l1.length : Int) then (if ((l1.length : Int) : Int).toNat ≤ 281474976710656 then ((bits_Turn.f kj4 (List.replicate ((l1.length : Int) : Int).toNat 0) t535).bind fun bt542 => ((bch_Encode.f kj4 a0 l1).bind fun bt546 => ((bch_Encode.f kj4 a0 l2).bind fun bt550 => ((bch_Encode.f kj4 a0 bt542.1).bind fun bt554 => ((bits_Apart.f kj4 bt546.1 bt550.1).bind fun bt558 => (if 0 ≤ (bt546.1.length : Int) then (if ((bt546.1.length : Int) : Int).toNat ≤ 281474976710656 then ((bits_Turn.f kj4 (List.replicate ((bt546.1.length : Int) : Int).toNat 0) bt558.1).bind fun bt565 => ((bch_Sums.f kj4 a0 l1 bt546.1).bind fun bt569 => ((bits_Turn.f kj4 l1 (([a3] : List Int))).bind fun bt576 => ((bch_Sums.f kj4 a0 bt576.1 bt546.1).bind fun bt580 => (if bt546.2 = 0 then (if bt550.2 = bt546.2 then (if bt554.2 = bt546.2 then (if bt558.2 = bt546.2 then (if bt565.2 = bt546.2 then (if bt569.2 = bt546.2 then (if bt580.2 = bt546.2 then (if (strOfNums bt554.1).toList = (strOfNums bt565.1).toList then (if (bt569.1.length : Int) = (wrap64 (2 * a0)) then (casematelaw05_BchLinear.j1 kj4 a0 bt569.1 bt580.1 ((bt580.1.length : Int) != (wrap64 (2 * a0)))) else (casematelaw05_BchLinear.j1 kj4 a0 bt569.1 bt580.1 true)) else (casematelaw05_BchLinear.j1 kj4 a0 bt569.1 bt580.1 true)) else (casematelaw05_BchLinear.j1 kj4 a0 bt569.1 bt580.1 true)) else (casematelaw05_BchLinear.j1 kj4 a0 bt569.1 bt580.1 true)) else (casematelaw05_BchLinear.j1 kj4 a0 bt569.1 bt580.1 true)) else (casematelaw05_BchLinear.j1 kj4 a0 bt569.1 bt580.1 true)) else (casematelaw05_BchLinear.j1 kj4 a0 bt569.1 bt580.1 true)) else (casematelaw05_BchLinear.j1 kj4 a0 bt569.1 bt580.1 true)) else (casematelaw05_BchLinear.j1 kj4 a0 bt569.1 bt580.1 true)))))) else (none)) else (none))))))) else (none)) else (none)) = some r := H
        have A14 := Aside0.mk A140
        clear A140
        by_cases c15 : 0 ≤ (l1.length : Int)
        · rw [if_pos c15] at H
          have c15b0 := eq_true c15
          have c15b1 : decide (0 ≤ (l1.length : Int)) = true := decide_eq_true c15
          clear c15
          by_cases c16 : ((l1.length : Int) : Int).toNat ≤ 281474976710656
          · rw [if_pos c16] at H
            have c16b0 := eq_true c16
            have c16b1 : decide (((l1.length : Int) : Int).toNat ≤ 281474976710656) = true := decide_eq_true c16
            clear c16
            obtain ⟨y539, hy539⟩ : ∃ y_ : List Int, y_ = (List.replicate ((l1.length : Int) : Int).toNat 0) := ⟨_, rfl⟩
            replace H : ((bits_Turn.f kj4 y539 t535).bind fun bt542 => ((bch_Encode.f kj4 a0 l1).bind fun bt546 => ((bch_Encode.f kj4 a0 l2).bind fun bt550 => ((bch_Encode.f kj4 a0 bt542.1).bind fun bt554 => ((bits_Apart.f kj4 bt546.1 bt550.1).bind fun bt558 => (if 0 ≤ (bt546.1.length : Int) then (if ((bt546.1.length : Int) : Int).toNat ≤ 281474976710656 then ((bits_Turn.f kj4 (List.replicate ((bt546.1.length : Int) : Int).toNat 0) bt558.1).bind fun bt565 => ((bch_Sums.f kj4 a0 l1 bt546.1).bind fun bt569 => ((bits_Turn.f kj4 l1 (([a3] : List Int))).bind fun bt576 => ((bch_Sums.f kj4 a0 bt576.1 bt546.1).bind fun bt580 => (if bt546.2 = 0 then (if bt550.2 = bt546.2 then (if bt554.2 = bt546.2 then (if bt558.2 = bt546.2 then (if bt565.2 = bt546.2 then (if bt569.2 = bt546.2 then (if bt580.2 = bt546.2 then (if (strOfNums bt554.1).toList = (strOfNums bt565.1).toList then (if (bt569.1.length : Int) = (wrap64 (2 * a0)) then (casematelaw05_BchLinear.j1 kj4 a0 bt569.1 bt580.1 ((bt580.1.length : Int) != (wrap64 (2 * a0)))) else (casematelaw05_BchLinear.j1 kj4 a0 bt569.1 bt580.1 true)) else (casematelaw05_BchLinear.j1 kj4 a0 bt569.1 bt580.1 true)) else (casematelaw05_BchLinear.j1 kj4 a0 bt569.1 bt580.1 true)) else (casematelaw05_BchLinear.j1 kj4 a0 bt569.1 bt580.1 true)) else (casematelaw05_BchLinear.j1 kj4 a0 bt569.1 bt580.1 true)) else (casematelaw05_BchLinear.j1 kj4 a0 bt569.1 bt580.1 true)) else (casematelaw05_BchLinear.j1 kj4 a0 bt569.1 bt580.1 true)) else (casematelaw05_BchLinear.j1 kj4 a0 bt569.1 bt580.1 true)) else (casematelaw05_BchLinear.j1 kj4 a0 bt569.1 bt580.1 true)))))) else (none)) else (none))))))) = some r := by first | (rw [hy539]; with_reducible exact H) | (have H2_ := (Option.bind_some _ _).symm.trans H; rw [hy539]; with_reducible exact H2_) | (have H2_ := (Option.bind_some _ _).symm.trans H; with_reducible exact H2_) | with_reducible exact H | (rw [hy539]; exact H) | exact H
            have Ny539 := Aside0.mk hy539
            clear hy539
            replace H := Option.bind_eq_some_iff.mp H
            obtain ⟨⟨t542, t543⟩, A170, H⟩ := H
            replace H : ((bch_Encode.f kj4 a0 l1).bind fun bt546 => ((bch_Encode.f kj4 a0 l2).bind fun bt550 => ((bch_Encode.f kj4 a0 t542).bind fun bt554 => ((bits_Apart.f kj4 bt546.1 bt550.1).bind fun bt558 => (if 0 ≤ (bt546.1.length : Int) then (if ((bt546.1.length : Int) : Int).toNat ≤ 281474976710656 then ((bits_Turn.f kj4 (List.replicate ((bt546.1.length : Int) : Int).toNat 0) bt558.1).bind fun bt565 => ((bch_Sums.f kj4 a0 l1 bt546.1).bind fun bt569 => ((bits_Turn.f kj4 l1 (([a3] : List Int))).bind fun bt576 => ((bch_Sums.f kj4 a0 bt576.1 bt546.1).bind fun bt580 => (if bt546.2 = 0 then (if bt550.2 = bt546.2 then (if bt554.2 = bt546.2 then (if bt558.2 = bt546.2 then (if bt565.2 = bt546.2 then (if bt569.2 = bt546.2 then (if bt580.2 = bt546.2 then (if (strOfNums bt554.1).toList = (strOfNums bt565.1).toList then (if (bt569.1.length : Int) = (wrap64 (2 * a0)) then (casematelaw05_BchLinear.j1 kj4 a0 bt569.1 bt580.1 ((bt580.1.length : Int) != (wrap64 (2 * a0)))) else (casematelaw05_BchLinear.j1 kj4 a0 bt569.1 bt580.1 true)) else (casematelaw05_BchLinear.j1 kj4 a0 bt569.1 bt580.1 true)) else (casematelaw05_BchLinear.j1 kj4 a0 bt569.1 bt580.1 true)) else (casematelaw05_BchLinear.j1 kj4 a0 bt569.1 bt580.1 true)) else (casematelaw05_BchLinear.j1 kj4 a0 bt569.1 bt580.1 true)) else (casematelaw05_BchLinear.j1 kj4 a0 bt569.1 bt580.1 true)) else (casematelaw05_BchLinear.j1 kj4 a0 bt569.1 bt580.1 true)) else (casematelaw05_BchLinear.j1 kj4 a0 bt569.1 bt580.1 true)) else (casematelaw05_BchLinear.j1 kj4 a0 bt569.1 bt580.1 true)))))) else (none)) else (none)))))) = some r := H
            have A17 := Aside0.mk A170
            clear A170
            replace H := Option.bind_eq_some_iff.mp H
            obtain ⟨⟨t546, t547⟩, A180, H⟩ := H
            replace H : ((bch_Encode.f kj4 a0 l2).bind fun bt550 => ((bch_Encode.f kj4 a0 t542).bind fun bt554 => ((bits_Apart.f kj4 t546 bt550.1).bind fun bt558 => (if 0 ≤ (t546.length : Int) then (if ((t546.length : Int) : Int).toNat ≤ 281474976710656 then ((bits_Turn.f kj4 (List.replicate ((t546.length : Int) : Int).toNat 0) bt558.1).bind fun bt565 => ((bch_Sums.f kj4 a0 l1 t546).bind fun bt569 => ((bits_Turn.f kj4 l1 (([a3] : List Int))).bind fun bt576 => ((bch_Sums.f kj4 a0 bt576.1 t546).bind fun bt580 => (if t547 = 0 then (if bt550.2 = t547 then (if bt554.2 = t547 then (if bt558.2 = t547 then (if bt565.2 = t547 then (if bt569.2 = t547 then (if bt580.2 = t547 then (if (strOfNums bt554.1).toList = (strOfNums bt565.1).toList then (if (bt569.1.length : Int) = (wrap64 (2 * a0)) then (casematelaw05_BchLinear.j1 kj4 a0 bt569.1 bt580.1 ((bt580.1.length : Int) != (wrap64 (2 * a0)))) else (casematelaw05_BchLinear.j1 kj4 a0 bt569.1 bt580.1 true)) else (casematelaw05_BchLinear.j1 kj4 a0 bt569.1 bt580.1 true)) else (casematelaw05_BchLinear.j1 kj4 a0 bt569.1 bt580.1 true)) else (casematelaw05_BchLinear.j1 kj4 a0 bt569.1 bt580.1 true)) else (casematelaw05_BchLinear.j1 kj4 a0 bt569.1 bt580.1 true)) else (casematelaw05_BchLinear.j1 kj4 a0 bt569.1 bt580.1 true)) else (casematelaw05_BchLinear.j1 kj4 a0 bt569.1 bt580.1 true)) else (casematelaw05_BchLinear.j1 kj4 a0 bt569.1 bt580.1 true)) else (casematelaw05_BchLinear.j1 kj4 a0 bt569.1 bt580.1 true)))))) else (none)) else (none))))) = some r := H
            have A18 := Aside0.mk A180
            clear A180
            replace H := Option.bind_eq_some_iff.mp H
            obtain ⟨⟨t550, t551⟩, A190, H⟩ := H
            replace H : ((bch_Encode.f kj4 a0 t542).bind fun bt554 => ((bits_Apart.f kj4 t546 t550).bind fun bt558 => (if 0 ≤ (t546.length : Int) then (if ((t546.length : Int) : Int).toNat ≤ 281474976710656 then ((bits_Turn.f kj4 (List.replicate ((t546.length : Int) : Int).toNat 0) bt558.1).bind fun bt565 => ((bch_Sums.f kj4 a0 l1 t546).bind fun bt569 => ((bits_Turn.f kj4 l1 (([a3] : List Int))).bind fun bt576 => ((bch_Sums.f kj4 a0 bt576.1 t546).bind fun bt580 => (if t547 = 0 then (if t551 = t547 then (if bt554.2 = t547 then (if bt558.2 = t547 then (if bt565.2 = t547 then (if bt569.2 = t547 then (if bt580.2 = t547 then (if (strOfNums bt554.1).toList = (strOfNums bt565.1).toList then (if (bt569.1.length : Int) = (wrap64 (2 * a0)) then (casematelaw05_BchLinear.j1 kj4 a0 bt569.1 bt580.1 ((bt580.1.length : Int) != (wrap64 (2 * a0)))) else (casematelaw05_BchLinear.j1 kj4 a0 bt569.1 bt580.1 true)) else (casematelaw05_BchLinear.j1 kj4 a0 bt569.1 bt580.1 true)) else (casematelaw05_BchLinear.j1 kj4 a0 bt569.1 bt580.1 true)) else (casematelaw05_BchLinear.j1 kj4 a0 bt569.1 bt580.1 true)) else (casematelaw05_BchLinear.j1 kj4 a0 bt569.1 bt580.1 true)) else (casematelaw05_BchLinear.j1 kj4 a0 bt569.1 bt580.1 true)) else (casematelaw05_BchLinear.j1 kj4 a0 bt569.1 bt580.1 true)) else (casematelaw05_BchLinear.j1 kj4 a0 bt569.1 bt580.1 true)) else (casematelaw05_BchLinear.j1 kj4 a0 bt569.1 bt580.1 true)))))) else (none)) else (none)))) = some r := H
            have A19 := Aside0.mk A190
            clear A190
            replace H := Option.bind_eq_some_iff.mp H
            obtain ⟨⟨t554, t555⟩, A200, H⟩ := H
            replace H : ((bits_Apart.f kj4 t546 t550).bind fun bt558 => (if 0 ≤ (t546.length : Int) then (if ((t546.length : Int) : Int).toNat ≤ 281474976710656 then ((bits_Turn.f kj4 (List.replicate ((t546.length : Int) : Int).toNat 0) bt558.1).bind fun bt565 => ((bch_Sums.f kj4 a0 l1 t546).bind fun bt569 => ((bits_Turn.f kj4 l1 (([a3] : List Int))).bind fun bt576 => ((bch_Sums.f kj4 a0 bt576.1 t546).bind fun bt580 => (if t547 = 0 then (if t551 = t547 then (if t555 = t547 then (if bt558.2 = t547 then (if bt565.2 = t547 then (if bt569.2 = t547 then (if bt580.2 = t547 then (if (strOfNums t554).toList = (strOfNums bt565.1).toList then (if (bt569.1.length : Int) = (wrap64 (2 * a0)) then (casematelaw05_BchLinear.j1 kj4 a0 bt569.1 bt580.1 ((bt580.1.length : Int) != (wrap64 (2 * a0)))) else (casematelaw05_BchLinear.j1 kj4 a0 bt569.1 bt580.1 true)) else (casematelaw05_BchLinear.j1 kj4 a0 bt569.1 bt580.1 true)) else (casematelaw05_BchLinear.j1 kj4 a0 bt569.1 bt580.1 true)) else (casematelaw05_BchLinear.j1 kj4 a0 bt569.1 bt580.1 true)) else (casematelaw05_BchLinear.j1 kj4 a0 bt569.1 bt580.1 true)) else (casematelaw05_BchLinear.j1 kj4 a0 bt569.1 bt580.1 true)) else (casematelaw05_BchLinear.j1 kj4 a0 bt569.1 bt580.1 true)) else (casematelaw05_BchLinear.j1 kj4 a0 bt569.1 bt580.1 true)) else (casematelaw05_BchLinear.j1 kj4 a0 bt569.1 bt580.1 true)))))) else (none)) else (none))) = some r := H
            have A20 := Aside0.mk A200
            clear A200
            replace H := Option.bind_eq_some_iff.mp H
            obtain ⟨⟨t558, t559⟩, A210, H⟩ := H
            replace H : (if 0 ≤ (t546.length : Int) then (if ((t546.length : Int) : Int).toNat ≤ 281474976710656 then ((bits_Turn.f kj4 (List.replicate ((t546.length : Int) : Int).toNat 0) t558).bind fun bt565 => ((bch_Sums.f kj4 a0 l1 t546).bind fun bt569 => ((bits_Turn.f kj4 l1 (([a3] : List Int))).bind fun bt576 => ((bch_Sums.f kj4 a0 bt576.1 t546).bind fun bt580 => (if t547 = 0 then (if t551 = t547 then (if t555 = t547 then (if t559 = t547 then (if bt565.2 = t547 then (if bt569.2 = t547 then (if bt580.2 = t547 then (if (strOfNums t554).toList = (strOfNums bt565.1).toList then (if (bt569.1.length : Int) = (wrap64 (2 * a0)) then (casematelaw05_BchLinear.j1 kj4 a0 bt569.1 bt580.1 ((bt580.1.length : Int) != (wrap64 (2 * a0)))) else (casematelaw05_BchLinear.j1 kj4 a0 bt569.1 bt580.1 true)) else (casematelaw05_BchLinear.j1 kj4 a0 bt569.1 bt580.1 true)) else (casematelaw05_BchLinear.j1 kj4 a0 bt569.1 bt580.1 true)) else (casematelaw05_BchLinear.j1 kj4 a0 bt569.1 bt580.1 true)) else (casematelaw05_BchLinear.j1 kj4 a0 bt569.1 bt580.1 true)) else (casematelaw05_BchLinear.j1 kj4 a0 bt569.1 bt580.1 true)) else (casematelaw05_BchLinear.j1 kj4 a0 bt569.1 bt580.1 true)) else (casematelaw05_BchLinear.j1 kj4 a0 bt569.1 bt580.1 true)) else (casematelaw05_BchLinear.j1 kj4 a0 bt569.1 bt580.1 true)))))) else (none)) else (none)) = some r := H
            have A21 := Aside0.mk A210
            clear A210
            by_cases c22 : 0 ≤ (t546.length : Int)
            · rw [if_pos c22] at H
              have c22b0 := eq_true c22
              have c22b1 : decide (0 ≤ (t546.length : Int)) = true := decide_eq_true c22
              clear c22
              by_cases c23 : ((t546.length : Int) : Int).toNat ≤ 281474976710656
              · rw [if_pos c23] at H
                have c23b0 := eq_true c23
                have c23b1 : decide (((t546.length : Int) : Int).toNat ≤ 281474976710656) = true := decide_eq_true c23
                clear c23
                obtain ⟨y562, hy562⟩ : ∃ y_ : List Int, y_ = (List.replicate ((t546.length : Int) : Int).toNat 0) := ⟨_, rfl⟩
                replace H : ((bits_Turn.f kj4 y562 t558).bind fun bt565 => ((bch_Sums.f kj4 a0 l1 t546).bind fun bt569 => ((bits_Turn.f kj4 l1 (([a3] : List Int))).bind fun bt576 => ((bch_Sums.f kj4 a0 bt576.1 t546).bind fun bt580 => (if t547 = 0 then (if t551 = t547 then (if t555 = t547 then (if t559 = t547 then (if bt565.2 = t547 then (if bt569.2 = t547 then (if bt580.2 = t547 then (if (strOfNums t554).toList = (strOfNums bt565.1).toList then (if (bt569.1.length : Int) = (wrap64 (2 * a0)) then (casematelaw05_BchLinear.j1 kj4 a0 bt569.1 bt580.1 ((bt580.1.length : Int) != (wrap64 (2 * a0)))) else (casematelaw05_BchLinear.j1 kj4 a0 bt569.1 bt580.1 true)) else (casematelaw05_BchLinear.j1 kj4 a0 bt569.1 bt580.1 true)) else (casematelaw05_BchLinear.j1 kj4 a0 bt569.1 bt580.1 true)) else (casematelaw05_BchLinear.j1 kj4 a0 bt569.1 bt580.1 true)) else (casematelaw05_BchLinear.j1 kj4 a0 bt569.1 bt580.1 true)) else (casematelaw05_BchLinear.j1 kj4 a0 bt569.1 bt580.1 true)) else (casematelaw05_BchLinear.j1 kj4 a0 bt569.1 bt580.1 true)) else (casematelaw05_BchLinear.j1 kj4 a0 bt569.1 bt580.1 true)) else (casematelaw05_BchLinear.j1 kj4 a0 bt569.1 bt580.1 true)))))) = some r := by first | (rw [hy562]; with_reducible exact H) | (have H2_ := (Option.bind_some _ _).symm.trans H; rw [hy562]; with_reducible exact H2_) | (have H2_ := (Option.bind_some _ _).symm.trans H; with_reducible exact H2_) | with_reducible exact H | (rw [hy562]; exact H) | exact H
                have Ny562 := Aside0.mk hy562
                clear hy562
                replace H := Option.bind_eq_some_iff.mp H
                obtain ⟨⟨t565, t566⟩, A240, H⟩ := H
                replace H : ((bch_Sums.f kj4 a0 l1 t546).bind fun bt569 => ((bits_Turn.f kj4 l1 (([a3] : List Int))).bind fun bt576 => ((bch_Sums.f kj4 a0 bt576.1 t546).bind fun bt580 => (if t547 = 0 then (if t551 = t547 then (if t555 = t547 then (if t559 = t547 then (if t566 = t547 then (if bt569.2 = t547 then (if bt580.2 = t547 then (if (strOfNums t554).toList = (strOfNums t565).toList then (if (bt569.1.length : Int) = (wrap64 (2 * a0)) then (casematelaw05_BchLinear.j1 kj4 a0 bt569.1 bt580.1 ((bt580.1.length : Int) != (wrap64 (2 * a0)))) else (casematelaw05_BchLinear.j1 kj4 a0 bt569.1 bt580.1 true)) else (casematelaw05_BchLinear.j1 kj4 a0 bt569.1 bt580.1 true)) else (casematelaw05_BchLinear.j1 kj4 a0 bt569.1 bt580.1 true)) else (casematelaw05_BchLinear.j1 kj4 a0 bt569.1 bt580.1 true)) else (casematelaw05_BchLinear.j1 kj4 a0 bt569.1 bt580.1 true)) else (casematelaw05_BchLinear.j1 kj4 a0 bt569.1 bt580.1 true)) else (casematelaw05_BchLinear.j1 kj4 a0 bt569.1 bt580.1 true)) else (casematelaw05_BchLinear.j1 kj4 a0 bt569.1 bt580.1 true)) else (casematelaw05_BchLinear.j1 kj4 a0 bt569.1 bt580.1 true))))) = some r := H
                have A24 := Aside0.mk A240
                clear A240
                replace H := Option.bind_eq_some_iff.mp H
                obtain ⟨⟨t569, t570⟩, A250, H⟩ := H
                replace H : ((bits_Turn.f kj4 l1 (([a3] : List Int))).bind fun bt576 => ((bch_Sums.f kj4 a0 bt576.1 t546).bind fun bt580 => (if t547 = 0 then (if t551 = t547 then (if t555 = t547 then (if t559 = t547 then (if t566 = t547 then (if t570 = t547 then (if bt580.2 = t547 then (if (strOfNums t554).toList = (strOfNums t565).toList then (if (t569.length : Int) = (wrap64 (2 * a0)) then (casematelaw05_BchLinear.j1 kj4 a0 t569 bt580.1 ((bt580.1.length : Int) != (wrap64 (2 * a0)))) else (casematelaw05_BchLinear.j1 kj4 a0 t569 bt580.1 true)) else (casematelaw05_BchLinear.j1 kj4 a0 t569 bt580.1 true)) else (casematelaw05_BchLinear.j1 kj4 a0 t569 bt580.1 true)) else (casematelaw05_BchLinear.j1 kj4 a0 t569 bt580.1 true)) else (casematelaw05_BchLinear.j1 kj4 a0 t569 bt580.1 true)) else (casematelaw05_BchLinear.j1 kj4 a0 t569 bt580.1 true)) else (casematelaw05_BchLinear.j1 kj4 a0 t569 bt580.1 true)) else (casematelaw05_BchLinear.j1 kj4 a0 t569 bt580.1 true)) else (casematelaw05_BchLinear.j1 kj4 a0 t569 bt580.1 true)))) = some r := H
                have A25 := Aside0.mk A250
                clear A250
                obtain ⟨y573, hy573⟩ : ∃ y_ : List Int, y_ = (([a3] : List Int)) := ⟨_, rfl⟩
                replace H : ((bits_Turn.f kj4 l1 y573).bind fun bt576 => ((bch_Sums.f kj4 a0 bt576.1 t546).bind fun bt580 => (if t547 = 0 then (if t551 = t547 then (if t555 = t547 then (if t559 = t547 then (if t566 = t547 then (if t570 = t547 then (if bt580.2 = t547 then (if (strOfNums t554).toList = (strOfNums t565).toList then (if (t569.length : Int) = (wrap64 (2 * a0)) then (casematelaw05_BchLinear.j1 kj4 a0 t569 bt580.1 ((bt580.1.length : Int) != (wrap64 (2 * a0)))) else (casematelaw05_BchLinear.j1 kj4 a0 t569 bt580.1 true)) else (casematelaw05_BchLinear.j1 kj4 a0 t569 bt580.1 true)) else (casematelaw05_BchLinear.j1 kj4 a0 t569 bt580.1 true)) else (casematelaw05_BchLinear.j1 kj4 a0 t569 bt580.1 true)) else (casematelaw05_BchLinear.j1 kj4 a0 t569 bt580.1 true)) else (casematelaw05_BchLinear.j1 kj4 a0 t569 bt580.1 true)) else (casematelaw05_BchLinear.j1 kj4 a0 t569 bt580.1 true)) else (casematelaw05_BchLinear.j1 kj4 a0 t569 bt580.1 true)) else (casematelaw05_BchLinear.j1 kj4 a0 t569 bt580.1 true)))) = some r := by first | (rw [hy573]; with_reducible exact H) | (have H2_ := (Option.bind_some _ _).symm.trans H; rw [hy573]; with_reducible exact H2_) | (have H2_ := (Option.bind_some _ _).symm.trans H; with_reducible exact H2_) | with_reducible exact H | (rw [hy573]; exact H) | exact H
                have Ny573 := Aside0.mk hy573
                clear hy573
                replace H := Option.bind_eq_some_iff.mp H
                obtain ⟨⟨t576, t577⟩, A260, H⟩ := H
                replace H : ((bch_Sums.f kj4 a0 t576 t546).bind fun bt580 => (if t547 = 0 then (if t551 = t547 then (if t555 = t547 then (if t559 = t547 then (if t566 = t547 then (if t570 = t547 then (if bt580.2 = t547 then (if (strOfNums t554).toList = (strOfNums t565).toList then (if (t569.length : Int) = (wrap64 (2 * a0)) then (casematelaw05_BchLinear.j1 kj4 a0 t569 bt580.1 ((bt580.1.length : Int) != (wrap64 (2 * a0)))) else (casematelaw05_BchLinear.j1 kj4 a0 t569 bt580.1 true)) else (casematelaw05_BchLinear.j1 kj4 a0 t569 bt580.1 true)) else (casematelaw05_BchLinear.j1 kj4 a0 t569 bt580.1 true)) else (casematelaw05_BchLinear.j1 kj4 a0 t569 bt580.1 true)) else (casematelaw05_BchLinear.j1 kj4 a0 t569 bt580.1 true)) else (casematelaw05_BchLinear.j1 kj4 a0 t569 bt580.1 true)) else (casematelaw05_BchLinear.j1 kj4 a0 t569 bt580.1 true)) else (casematelaw05_BchLinear.j1 kj4 a0 t569 bt580.1 true)) else (casematelaw05_BchLinear.j1 kj4 a0 t569 bt580.1 true))) = some r := H
                have A26 := Aside0.mk A260
                clear A260
                replace H := Option.bind_eq_some_iff.mp H
                obtain ⟨⟨t580, t581⟩, A270, H⟩ := H
                replace H : (if t547 = 0 then (if t551 = t547 then (if t555 = t547 then (if t559 = t547 then (if t566 = t547 then (if t570 = t547 then (if t581 = t547 then (if (strOfNums t554).toList = (strOfNums t565).toList then (if (t569.length : Int) = (wrap64 (2 * a0)) then (casematelaw05_BchLinear.j1 kj4 a0 t569 t580 ((t580.length : Int) != (wrap64 (2 * a0)))) else (casematelaw05_BchLinear.j1 kj4 a0 t569 t580 true)) else (casematelaw05_BchLinear.j1 kj4 a0 t569 t580 true)) else (casematelaw05_BchLinear.j1 kj4 a0 t569 t580 true)) else (casematelaw05_BchLinear.j1 kj4 a0 t569 t580 true)) else (casematelaw05_BchLinear.j1 kj4 a0 t569 t580 true)) else (casematelaw05_BchLinear.j1 kj4 a0 t569 t580 true)) else (casematelaw05_BchLinear.j1 kj4 a0 t569 t580 true)) else (casematelaw05_BchLinear.j1 kj4 a0 t569 t580 true)) else (casematelaw05_BchLinear.j1 kj4 a0 t569 t580 true)) = some r := H
                have A27 := Aside0.mk A270
                clear A270
                have HC28 := Aside0.mk H
                clear H
                go_upto_region 13 with (first | ((with_reducible refine gate_callee (f := 26) rfl ?_); refine goesL_ (some 69) rfl rfl Try.func26 (by kernel_rfl) rfl #[.slice A1 l1.length c1, .slice A2 l2.length c2] rfl (by (try simp only [List.map_toArray, List.map_cons, List.map_nil]); first | done | rfl | (simp only [List.length_drop, List.length_take]; rfl)) ?_; (with_reducible refine (bits_Apart.calls kj4 _ _ l1 _ _ l2 t535 t536 _ ?side1 ?side2 ?side3 ?side4 A14.out).mono ?_); (case side1 => repeat (first | exact (Kd.C_below HR1.out HB.out) | (with_reducible refine Kd.C_alloc ?_ _) | (with_reducible refine Kd.C_drewN ?_ _) | (with_reducible refine Kd.C_drew ?_))); (case side2 => exact HC1.out); (case side3 => repeat (first | exact (Kd.C_below HR2.out HB.out) | (with_reducible refine Kd.C_alloc ?_ _) | (with_reducible refine Kd.C_drewN ?_ _) | (with_reducible refine Kd.C_drew ?_))); (case side4 => exact HC2.out); rintro e w29 ⟨v537, rfl, ho0, hb⟩; refine ⟨_, rfl, ?_⟩; have n0_ := Aside0.mk (Kd.R_lower ho0 (below_size (by repeat (first | (with_reducible first | exact HB.out | apply below_alloc | apply pw_below_drewN | apply below_drew1) | exact HB.out)))); have n1_ := Aside0.mk (below_step (by repeat (first | (with_reducible first | exact HB.out | apply below_alloc | apply pw_below_drewN | apply below_drew1) | exact HB.out)) hb); clear HB; have HO538 := n0_; have HB := n1_; clear n0_ n1_; (try clear hb); (try clear hb2); (try clear hk); (try clear hi); (try clear ho0)) | ((with_reducible refine gate_dst (N := 75) rfl ?_); (try (refine gate_guard (by rfl) ?_; dsimp only)); refine Kd.R_make (Kd.int .u8) _ 5 rfl (N := 75) rfl 22 _ _ rfl (l1.length : Int) rfl rfl Try.underlying22 (.int .u8 0) 1 info5 rfl (by decide) (by omega) 0 (ok := fun _ => True) (okp := fun _ => True) rfl (fun _ hk => hk) trivial (of_decide_eq_true (by first | (with_reducible assumption) | assumption)) (Nat.le_trans (Nat.mul_le_mul_right _ (of_decide_eq_true (by first | (with_reducible assumption) | assumption) : (l1.length : Int).toNat ≤ 281474976710656)) (by omega)) (Below.refl _ _) (Nat.le_refl _) ?_; intro v540 w30 ho31 hb hg_ hnew_; clear hg_ hnew_; (first | rw [← Ny539.out] at ho31 | (simp only [Int.reduceToNat] at ho31; rw [← Ny539.out] at ho31)); have n0_ := Aside0.mk (Kd.R_below (by (with_reducible repeat (first | apply Kd.R_alloc | apply Kd.R_drewN | apply Kd.R_drew)); exact HO538.out) hb); have n1_ := Aside0.mk (Kd.R_lower ho31 (below_size (by repeat (first | (with_reducible first | exact HB.out | apply below_alloc | apply pw_below_drewN | apply below_drew1) | exact HB.out)))); have n2_ := Aside0.mk (below_step (by repeat (first | (with_reducible first | exact HB.out | apply below_alloc | apply pw_below_drewN | apply below_drew1) | exact HB.out)) hb); clear HO538; clear HB; have HO538 := n0_; have HO541 := n1_; have HB := n2_; clear n0_ n1_ n2_; clear hb ho31; obtain ⟨Ao32, co32, eo32⟩ := Kd.R_slice HO541.out; subst eo32; obtain ⟨Ao33, co33, eo33⟩ := Kd.R_slice HO538.out; subst eo33) | ((with_reducible refine gate_callee (f := 25) rfl ?_); refine goesL_ (some 77) rfl rfl Try.func25 (by kernel_rfl) rfl #[.slice Ao32 y539.length co32, .slice Ao33 t535.length co33] rfl (by (try simp only [List.map_toArray, List.map_cons, List.map_nil]); first | done | rfl | (simp only [List.length_drop, List.length_take]; rfl)) ?_; (with_reducible refine (bits_Turn.calls kj4 _ _ y539 _ _ t535 t542 t543 _ ?side1 ?side2 ?side3 ?side4 A17.out).mono ?_); (case side1 => repeat (first | exact (Kd.R_reads' HO541.out).2.2 | (with_reducible refine Kd.C_alloc ?_ _) | (with_reducible refine Kd.C_drewN ?_ _) | (with_reducible refine Kd.C_drew ?_))); (case side2 => exact (Kd.R_reads' HO541.out).2.1); (case side3 => repeat (first | exact (Kd.R_reads' HO538.out).2.2 | (with_reducible refine Kd.C_alloc ?_ _) | (with_reducible refine Kd.C_drewN ?_ _) | (with_reducible refine Kd.C_drew ?_))); (case side4 => exact (Kd.R_reads' HO538.out).2.1); rintro e w34 ⟨v544, rfl, ho0, hb⟩; refine ⟨_, rfl, ?_⟩; have n0_ := Aside0.mk (Kd.R_below (by (with_reducible repeat (first | apply Kd.R_alloc | apply Kd.R_drewN | apply Kd.R_drew)); exact HO538.out) hb); have n1_ := Aside0.mk (Kd.R_elder' (by (with_reducible repeat (first | apply Kd.R_alloc | apply Kd.R_drewN | apply Kd.R_drew)); exact HO541.out) (Kd.R_base ho0) hb); have n2_ := Aside0.mk (Kd.R_lower (Kd.R_new' ho0 (Kd.R_lt (by (with_reducible repeat (first | apply Kd.R_alloc | apply Kd.R_drewN | apply Kd.R_drew)); exact HO541.out))) (below_size (by repeat (first | (with_reducible first | exact HB.out | apply below_alloc | apply pw_below_drewN | apply below_drew1) | exact HB.out)))); have n3_ := Aside0.mk (below_step (by repeat (first | (with_reducible first | exact HB.out | apply below_alloc | apply pw_below_drewN | apply below_drew1) | exact HB.out)) hb); clear HO538; clear HO541; clear HB; have HO538 := n0_; have HO541 := n1_; have HO545 := n2_; have HB := n3_; clear n0_ n1_ n2_ n3_; (try clear hb); (try clear hb2); (try clear hk); (try clear hi); (try clear ho0)) | ((with_reducible refine gate_callee (f := 11) rfl ?_); refine goesL_ (some 83) rfl rfl Try.func11 (by kernel_rfl) rfl #[.int .i64 a0, .slice A1 l1.length c1] rfl (by (try simp only [List.map_toArray, List.map_cons, List.map_nil]); first | done | rfl | (simp only [List.length_drop, List.length_take]; rfl)) ?_; (with_reducible refine (bch_Encode.calls kj4 a0 _ _ l1 t546 t547 _ ?side1 ?side2 A18.out).mono ?_); (case side1 => repeat (first | exact (Kd.C_below HR1.out HB.out) | (with_reducible refine Kd.C_alloc ?_ _) | (with_reducible refine Kd.C_drewN ?_ _) | (with_reducible refine Kd.C_drew ?_))); (case side2 => exact HC1.out); rintro e w35 ⟨v548, rfl, ho0, hb⟩; refine ⟨_, rfl, ?_⟩; have n0_ := Aside0.mk (Kd.R_below (by (with_reducible repeat (first | apply Kd.R_alloc | apply Kd.R_drewN | apply Kd.R_drew)); exact HO538.out) hb); have n1_ := Aside0.mk (Kd.R_elder' (by (with_reducible repeat (first | apply Kd.R_alloc | apply Kd.R_drewN | apply Kd.R_drew)); exact HO541.out) (Kd.R_base ho0) hb); have n2_ := Aside0.mk (Kd.R_elder' (by (with_reducible repeat (first | apply Kd.R_alloc | apply Kd.R_drewN | apply Kd.R_drew)); exact HO545.out) (Kd.R_base ho0) hb); have n3_ := Aside0.mk (Kd.R_lower (Kd.R_new' (Kd.R_new' ho0 (Kd.R_lt (by (with_reducible repeat (first | apply Kd.R_alloc | apply Kd.R_drewN | apply Kd.R_drew)); exact HO541.out))) (Kd.R_lt (by (with_reducible repeat (first | apply Kd.R_alloc | apply Kd.R_drewN | apply Kd.R_drew)); exact HO545.out))) (below_size (by repeat (first | (with_reducible first | exact HB.out | apply below_alloc | apply pw_below_drewN | apply below_drew1) | exact HB.out)))); have n4_ := Aside0.mk (below_step (by repeat (first | (with_reducible first | exact HB.out | apply below_alloc | apply pw_below_drewN | apply below_drew1) | exact HB.out)) hb); clear HO538; clear HO541; clear HO545; clear HB; have HO538 := n0_; have HO541 := n1_; have HO545 := n2_; have HO549 := n3_; have HB := n4_; clear n0_ n1_ n2_ n3_ n4_; (try clear hb); (try clear hb2); (try clear hk); (try clear hi); (try clear ho0)) | ((with_reducible refine gate_callee (f := 11) rfl ?_); refine goesL_ (some 89) rfl rfl Try.func11 (by kernel_rfl) rfl #[.int .i64 a0, .slice A2 l2.length c2] rfl (by (try simp only [List.map_toArray, List.map_cons, List.map_nil]); first | done | rfl | (simp only [List.length_drop, List.length_take]; rfl)) ?_; (with_reducible refine (bch_Encode.calls kj4 a0 _ _ l2 t550 t551 _ ?side1 ?side2 A19.out).mono ?_); (case side1 => repeat (first | exact (Kd.C_below HR2.out HB.out) | (with_reducible refine Kd.C_alloc ?_ _) | (with_reducible refine Kd.C_drewN ?_ _) | (with_reducible refine Kd.C_drew ?_))); (case side2 => exact HC2.out); rintro e w36 ⟨v552, rfl, ho0, hb⟩; refine ⟨_, rfl, ?_⟩; have n0_ := Aside0.mk (Kd.R_below (by (with_reducible repeat (first | apply Kd.R_alloc | apply Kd.R_drewN | apply Kd.R_drew)); exact HO538.out) hb); have n1_ := Aside0.mk (Kd.R_elder' (by (with_reducible repeat (first | apply Kd.R_alloc | apply Kd.R_drewN | apply Kd.R_drew)); exact HO541.out) (Kd.R_base ho0) hb); have n2_ := Aside0.mk (Kd.R_elder' (by (with_reducible repeat (first | apply Kd.R_alloc | apply Kd.R_drewN | apply Kd.R_drew)); exact HO545.out) (Kd.R_base ho0) hb); have n3_ := Aside0.mk (Kd.R_elder' (by (with_reducible repeat (first | apply Kd.R_alloc | apply Kd.R_drewN | apply Kd.R_drew)); exact HO549.out) (Kd.R_base ho0) hb); have n4_ := Aside0.mk (Kd.R_lower (Kd.R_new' (Kd.R_new' (Kd.R_new' ho0 (Kd.R_lt (by (with_reducible repeat (first | apply Kd.R_alloc | apply Kd.R_drewN | apply Kd.R_drew)); exact HO541.out))) (Kd.R_lt (by (with_reducible repeat (first | apply Kd.R_alloc | apply Kd.R_drewN | apply Kd.R_drew)); exact HO545.out))) (Kd.R_lt (by (with_reducible repeat (first | apply Kd.R_alloc | apply Kd.R_drewN | apply Kd.R_drew)); exact HO549.out))) (below_size (by repeat (first | (with_reducible first | exact HB.out | apply below_alloc | apply pw_below_drewN | apply below_drew1) | exact HB.out)))); have n5_ := Aside0.mk (below_step (by repeat (first | (with_reducible first | exact HB.out | apply below_alloc | apply pw_below_drewN | apply below_drew1) | exact HB.out)) hb); clear HO538; clear HO541; clear HO545; clear HO549; clear HB; have HO538 := n0_; have HO541 := n1_; have HO545 := n2_; have HO549 := n3_; have HO553 := n4_; have HB := n5_; clear n0_ n1_ n2_ n3_ n4_ n5_; (try clear hb); (try clear hb2); (try clear hk); (try clear hi); (try clear ho0); obtain ⟨Ao37, co37, eo37⟩ := Kd.R_slice HO545.out; subst eo37) | ((with_reducible refine gate_callee (f := 11) rfl ?_); refine goesL_ (some 95) rfl rfl Try.func11 (by kernel_rfl) rfl #[.int .i64 a0, .slice Ao37 t542.length co37] rfl (by (try simp only [List.map_toArray, List.map_cons, List.map_nil]); first | done | rfl | (simp only [List.length_drop, List.length_take]; rfl)) ?_; (with_reducible refine (bch_Encode.calls kj4 a0 _ _ t542 t554 t555 _ ?side1 ?side2 A20.out).mono ?_); (case side1 => repeat (first | exact (Kd.R_reads' HO545.out).2.2 | (with_reducible refine Kd.C_alloc ?_ _) | (with_reducible refine Kd.C_drewN ?_ _) | (with_reducible refine Kd.C_drew ?_))); (case side2 => exact (Kd.R_reads' HO545.out).2.1); rintro e w38 ⟨v556, rfl, ho0, hb⟩; refine ⟨_, rfl, ?_⟩; have n0_ := Aside0.mk (Kd.R_below (by (with_reducible repeat (first | apply Kd.R_alloc | apply Kd.R_drewN | apply Kd.R_drew)); exact HO538.out) hb); have n1_ := Aside0.mk (Kd.R_elder' (by (with_reducible repeat (first | apply Kd.R_alloc | apply Kd.R_drewN | apply Kd.R_drew)); exact HO541.out) (Kd.R_base ho0) hb); have n2_ := Aside0.mk (Kd.R_elder' (by (with_reducible repeat (first | apply Kd.R_alloc | apply Kd.R_drewN | apply Kd.R_drew)); exact HO545.out) (Kd.R_base ho0) hb); have n3_ := Aside0.mk (Kd.R_elder' (by (with_reducible repeat (first | apply Kd.R_alloc | apply Kd.R_drewN | apply Kd.R_drew)); exact HO549.out) (Kd.R_base ho0) hb); have n4_ := Aside0.mk (Kd.R_elder' (by (with_reducible repeat (first | apply Kd.R_alloc | apply Kd.R_drewN | apply Kd.R_drew)); exact HO553.out) (Kd.R_base ho0) hb); have n5_ := Aside0.mk (Kd.R_lower (Kd.R_new' (Kd.R_new' (Kd.R_new' (Kd.R_new' ho0 (Kd.R_lt (by (with_reducible repeat (first | apply Kd.R_alloc | apply Kd.R_drewN | apply Kd.R_drew)); exact HO541.out))) (Kd.R_lt (by (with_reducible repeat (first | apply Kd.R_alloc | apply Kd.R_drewN | apply Kd.R_drew)); exact HO545.out))) (Kd.R_lt (by (with_reducible repeat (first | apply Kd.R_alloc | apply Kd.R_drewN | apply Kd.R_drew)); exact HO549.out))) (Kd.R_lt (by (with_reducible repeat (first | apply Kd.R_alloc | apply Kd.R_drewN | apply Kd.R_drew)); exact HO553.out))) (below_size (by repeat (first | (with_reducible first | exact HB.out | apply below_alloc | apply pw_below_drewN | apply below_drew1) | exact HB.out)))); have n6_ := Aside0.mk (below_step (by repeat (first | (with_reducible first | exact HB.out | apply below_alloc | apply pw_below_drewN | apply below_drew1) | exact HB.out)) hb); clear HO538; clear HO541; clear HO545; clear HO549; clear HO553; clear HB; have HO538 := n0_; have HO541 := n1_; have HO545 := n2_; have HO549 := n3_; have HO553 := n4_; have HO557 := n5_; have HB := n6_; clear n0_ n1_ n2_ n3_ n4_ n5_ n6_; (try clear hb); (try clear hb2); (try clear hk); (try clear hi); (try clear ho0); obtain ⟨Ao39, co39, eo39⟩ := Kd.R_slice HO549.out; subst eo39; obtain ⟨Ao40, co40, eo40⟩ := Kd.R_slice HO553.out; subst eo40) | ((with_reducible refine gate_callee (f := 26) rfl ?_); refine goesL_ (some 101) rfl rfl Try.func26 (by kernel_rfl) rfl #[.slice Ao39 t546.length co39, .slice Ao40 t550.length co40] rfl (by (try simp only [List.map_toArray, List.map_cons, List.map_nil]); first | done | rfl | (simp only [List.length_drop, List.length_take]; rfl)) ?_; (with_reducible refine (bits_Apart.calls kj4 _ _ t546 _ _ t550 t558 t559 _ ?side1 ?side2 ?side3 ?side4 A21.out).mono ?_); (case side1 => repeat (first | exact (Kd.R_reads' HO549.out).2.2 | (with_reducible refine Kd.C_alloc ?_ _) | (with_reducible refine Kd.C_drewN ?_ _) | (with_reducible refine Kd.C_drew ?_))); (case side2 => exact (Kd.R_reads' HO549.out).2.1); (case side3 => repeat (first | exact (Kd.R_reads' HO553.out).2.2 | (with_reducible refine Kd.C_alloc ?_ _) | (with_reducible refine Kd.C_drewN ?_ _) | (with_reducible refine Kd.C_drew ?_))); (case side4 => exact (Kd.R_reads' HO553.out).2.1); rintro e w41 ⟨v560, rfl, ho0, hb⟩; refine ⟨_, rfl, ?_⟩; have n0_ := Aside0.mk (Kd.R_elder' (by (with_reducible repeat (first | apply Kd.R_alloc | apply Kd.R_drewN | apply Kd.R_drew)); exact HO538.out) (Kd.R_base ho0) hb); have n1_ := Aside0.mk (Kd.R_below (by (with_reducible repeat (first | apply Kd.R_alloc | apply Kd.R_drewN | apply Kd.R_drew)); exact HO541.out) hb); have n2_ := Aside0.mk (Kd.R_below (by (with_reducible repeat (first | apply Kd.R_alloc | apply Kd.R_drewN | apply Kd.R_drew)); exact HO545.out) hb); have n3_ := Aside0.mk (Kd.R_below (by (with_reducible repeat (first | apply Kd.R_alloc | apply Kd.R_drewN | apply Kd.R_drew)); exact HO549.out) hb); have n4_ := Aside0.mk (Kd.R_below (by (with_reducible repeat (first | apply Kd.R_alloc | apply Kd.R_drewN | apply Kd.R_drew)); exact HO553.out) hb); have n5_ := Aside0.mk (Kd.R_below (by (with_reducible repeat (first | apply Kd.R_alloc | apply Kd.R_drewN | apply Kd.R_drew)); exact HO557.out) hb); have n6_ := Aside0.mk (Kd.R_lower (Kd.R_new' ho0 (Kd.R_lt (by (with_reducible repeat (first | apply Kd.R_alloc | apply Kd.R_drewN | apply Kd.R_drew)); exact HO538.out))) (below_size (by repeat (first | (with_reducible first | exact HB.out | apply below_alloc | apply pw_below_drewN | apply below_drew1) | exact HB.out)))); have n7_ := Aside0.mk (below_step (by repeat (first | (with_reducible first | exact HB.out | apply below_alloc | apply pw_below_drewN | apply below_drew1) | exact HB.out)) hb); clear HO538; clear HO541; clear HO545; clear HO549; clear HO553; clear HO557; clear HB; have HO538 := n0_; have HO541 := n1_; have HO545 := n2_; have HO549 := n3_; have HO553 := n4_; have HO557 := n5_; have HO561 := n6_; have HB := n7_; clear n0_ n1_ n2_ n3_ n4_ n5_ n6_ n7_; (try clear hb); (try clear hb2); (try clear hk); (try clear hi); (try clear ho0)) | ((with_reducible refine gate_dst (N := 107) rfl ?_); (try (refine gate_guard (by rfl) ?_; dsimp only)); refine Kd.R_make (Kd.int .u8) _ 5 rfl (N := 107) rfl 22 _ _ rfl (t546.length : Int) rfl rfl Try.underlying22 (.int .u8 0) 1 info5 rfl (by decide) (by omega) 0 (ok := fun _ => True) (okp := fun _ => True) rfl (fun _ hk => hk) trivial (of_decide_eq_true (by first | (with_reducible assumption) | assumption)) (Nat.le_trans (Nat.mul_le_mul_right _ (of_decide_eq_true (by first | (with_reducible assumption) | assumption) : (t546.length : Int).toNat ≤ 281474976710656)) (by omega)) (Below.refl _ _) (Nat.le_refl _) ?_; intro v563 w42 ho43 hb hg_ hnew_; clear hg_ hnew_; (first | rw [← Ny562.out] at ho43 | (simp only [Int.reduceToNat] at ho43; rw [← Ny562.out] at ho43)); have n0_ := Aside0.mk (Kd.R_below (by (with_reducible repeat (first | apply Kd.R_alloc | apply Kd.R_drewN | apply Kd.R_drew)); exact HO538.out) hb); have n1_ := Aside0.mk (Kd.R_elder' (by (with_reducible repeat (first | apply Kd.R_alloc | apply Kd.R_drewN | apply Kd.R_drew)); exact HO541.out) (Kd.R_base ho43) hb); have n2_ := Aside0.mk (Kd.R_elder' (by (with_reducible repeat (first | apply Kd.R_alloc | apply Kd.R_drewN | apply Kd.R_drew)); exact HO545.out) (Kd.R_base ho43) hb); have n3_ := Aside0.mk (Kd.R_elder' (by (with_reducible repeat (first | apply Kd.R_alloc | apply Kd.R_drewN | apply Kd.R_drew)); exact HO549.out) (Kd.R_base ho43) hb); have n4_ := Aside0.mk (Kd.R_elder' (by (with_reducible repeat (first | apply Kd.R_alloc | apply Kd.R_drewN | apply Kd.R_drew)); exact HO553.out) (Kd.R_base ho43) hb); have n5_ := Aside0.mk (Kd.R_elder' (by (with_reducible repeat (first | apply Kd.R_alloc | apply Kd.R_drewN | apply Kd.R_drew)); exact HO557.out) (Kd.R_base ho43) hb); have n6_ := Aside0.mk (Kd.R_below (by (with_reducible repeat (first | apply Kd.R_alloc | apply Kd.R_drewN | apply Kd.R_drew)); exact HO561.out) hb); have n7_ := Aside0.mk (Kd.R_lower (Kd.R_new' (Kd.R_new' (Kd.R_new' (Kd.R_new' (Kd.R_new' ho43 (Kd.R_lt (by (with_reducible repeat (first | apply Kd.R_alloc | apply Kd.R_drewN | apply Kd.R_drew)); exact HO541.out))) (Kd.R_lt (by (with_reducible repeat (first | apply Kd.R_alloc | apply Kd.R_drewN | apply Kd.R_drew)); exact HO545.out))) (Kd.R_lt (by (with_reducible repeat (first | apply Kd.R_alloc | apply Kd.R_drewN | apply Kd.R_drew)); exact HO549.out))) (Kd.R_lt (by (with_reducible repeat (first | apply Kd.R_alloc | apply Kd.R_drewN | apply Kd.R_drew)); exact HO553.out))) (Kd.R_lt (by (with_reducible repeat (first | apply Kd.R_alloc | apply Kd.R_drewN | apply Kd.R_drew)); exact HO557.out))) (below_size (by repeat (first | (with_reducible first | exact HB.out | apply below_alloc | apply pw_below_drewN | apply below_drew1) | exact HB.out)))); have n8_ := Aside0.mk (below_step (by repeat (first | (with_reducible first | exact HB.out | apply below_alloc | apply pw_below_drewN | apply below_drew1) | exact HB.out)) hb); clear HO538; clear HO541; clear HO545; clear HO549; clear HO553; clear HO557; clear HO561; clear HB; have HO538 := n0_; have HO541 := n1_; have HO545 := n2_; have HO549 := n3_; have HO553 := n4_; have HO557 := n5_; have HO561 := n6_; have HO564 := n7_; have HB := n8_; clear n0_ n1_ n2_ n3_ n4_ n5_ n6_ n7_ n8_; clear hb ho43; obtain ⟨Ao44, co44, eo44⟩ := Kd.R_slice HO564.out; subst eo44; obtain ⟨Ao45, co45, eo45⟩ := Kd.R_slice HO561.out; subst eo45) | ((with_reducible refine gate_callee (f := 25) rfl ?_); refine goesL_ (some 109) rfl rfl Try.func25 (by kernel_rfl) rfl #[.slice Ao44 y562.length co44, .slice Ao45 t558.length co45] rfl (by (try simp only [List.map_toArray, List.map_cons, List.map_nil]); first | done | rfl | (simp only [List.length_drop, List.length_take]; rfl)) ?_; (with_reducible refine (bits_Turn.calls kj4 _ _ y562 _ _ t558 t565 t566 _ ?side1 ?side2 ?side3 ?side4 A24.out).mono ?_); (case side1 => repeat (first | exact (Kd.R_reads' HO564.out).2.2 | (with_reducible refine Kd.C_alloc ?_ _) | (with_reducible refine Kd.C_drewN ?_ _) | (with_reducible refine Kd.C_drew ?_))); (case side2 => exact (Kd.R_reads' HO564.out).2.1); (case side3 => repeat (first | exact (Kd.R_reads' HO561.out).2.2 | (with_reducible refine Kd.C_alloc ?_ _) | (with_reducible refine Kd.C_drewN ?_ _) | (with_reducible refine Kd.C_drew ?_))); (case side4 => exact (Kd.R_reads' HO561.out).2.1); rintro e w46 ⟨v567, rfl, ho0, hb⟩; refine ⟨_, rfl, ?_⟩; have n0_ := Aside0.mk (Kd.R_below (by (with_reducible repeat (first | apply Kd.R_alloc | apply Kd.R_drewN | apply Kd.R_drew)); exact HO538.out) hb); have n1_ := Aside0.mk (Kd.R_elder' (by (with_reducible repeat (first | apply Kd.R_alloc | apply Kd.R_drewN | apply Kd.R_drew)); exact HO541.out) (Kd.R_base ho0) hb); have n2_ := Aside0.mk (Kd.R_elder' (by (with_reducible repeat (first | apply Kd.R_alloc | apply Kd.R_drewN | apply Kd.R_drew)); exact HO545.out) (Kd.R_base ho0) hb); have n3_ := Aside0.mk (Kd.R_elder' (by (with_reducible repeat (first | apply Kd.R_alloc | apply Kd.R_drewN | apply Kd.R_drew)); exact HO549.out) (Kd.R_base ho0) hb); have n4_ := Aside0.mk (Kd.R_elder' (by (with_reducible repeat (first | apply Kd.R_alloc | apply Kd.R_drewN | apply Kd.R_drew)); exact HO553.out) (Kd.R_base ho0) hb); have n5_ := Aside0.mk (Kd.R_elder' (by (with_reducible repeat (first | apply Kd.R_alloc | apply Kd.R_drewN | apply Kd.R_drew)); exact HO557.out) (Kd.R_base ho0) hb); have n6_ := Aside0.mk (Kd.R_below (by (with_reducible repeat (first | apply Kd.R_alloc | apply Kd.R_drewN | apply Kd.R_drew)); exact HO561.out) hb); have n7_ := Aside0.mk (Kd.R_elder' (by (with_reducible repeat (first | apply Kd.R_alloc | apply Kd.R_drewN | apply Kd.R_drew)); exact HO564.out) (Kd.R_base ho0) hb); have n8_ := Aside0.mk (Kd.R_lower (Kd.R_new' (Kd.R_new' (Kd.R_new' (Kd.R_new' (Kd.R_new' (Kd.R_new' ho0 (Kd.R_lt (by (with_reducible repeat (first | apply Kd.R_alloc | apply Kd.R_drewN | apply Kd.R_drew)); exact HO541.out))) (Kd.R_lt (by (with_reducible repeat (first | apply Kd.R_alloc | apply Kd.R_drewN | apply Kd.R_drew)); exact HO545.out))) (Kd.R_lt (by (with_reducible repeat (first | apply Kd.R_alloc | apply Kd.R_drewN | apply Kd.R_drew)); exact HO549.out))) (Kd.R_lt (by (with_reducible repeat (first | apply Kd.R_alloc | apply Kd.R_drewN | apply Kd.R_drew)); exact HO553.out))) (Kd.R_lt (by (with_reducible repeat (first | apply Kd.R_alloc | apply Kd.R_drewN | apply Kd.R_drew)); exact HO557.out))) (Kd.R_lt (by (with_reducible repeat (first | apply Kd.R_alloc | apply Kd.R_drewN | apply Kd.R_drew)); exact HO564.out))) (below_size (by repeat (first | (with_reducible first | exact HB.out | apply below_alloc | apply pw_below_drewN | apply below_drew1) | exact HB.out)))); have n9_ := Aside0.mk (below_step (by repeat (first | (with_reducible first | exact HB.out | apply below_alloc | apply pw_below_drewN | apply below_drew1) | exact HB.out)) hb); clear HO538; clear HO541; clear HO545; clear HO549; clear HO553; clear HO557; clear HO561; clear HO564; clear HB; have HO538 := n0_; have HO541 := n1_; have HO545 := n2_; have HO549 := n3_; have HO553 := n4_; have HO557 := n5_; have HO561 := n6_; have HO564 := n7_; have HO568 := n8_; have HB := n9_; clear n0_ n1_ n2_ n3_ n4_ n5_ n6_ n7_ n8_ n9_; (try clear hb); (try clear hb2); (try clear hk); (try clear hi); (try clear ho0)) | ((with_reducible refine gate_callee (f := 22) rfl ?_); refine goesL_ (some 116) rfl rfl Try.func22 (by kernel_rfl) rfl #[.int .i64 a0, .slice A1 l1.length c1, .slice Ao39 t546.length co39] rfl (by (try simp only [List.map_toArray, List.map_cons, List.map_nil]); first | done | rfl | (simp only [List.length_drop, List.length_take]; rfl)) ?_; (with_reducible refine (bch_Sums.calls kj4 a0 _ _ l1 _ _ t546 t569 t570 _ ?side1 ?side2 ?side3 ?side4 A25.out).mono ?_); (case side1 => repeat (first | exact (Kd.C_below HR1.out HB.out) | (with_reducible refine Kd.C_alloc ?_ _) | (with_reducible refine Kd.C_drewN ?_ _) | (with_reducible refine Kd.C_drew ?_))); (case side2 => exact HC1.out); (case side3 => repeat (first | exact (Kd.R_reads' HO549.out).2.2 | (with_reducible refine Kd.C_alloc ?_ _) | (with_reducible refine Kd.C_drewN ?_ _) | (with_reducible refine Kd.C_drew ?_))); (case side4 => exact (Kd.R_reads' HO549.out).2.1); rintro e w47 ⟨v571, rfl, ho0, hb⟩; refine ⟨_, rfl, ?_⟩; have n0_ := Aside0.mk (Kd.R_elder' (by (with_reducible repeat (first | apply Kd.R_alloc | apply Kd.R_drewN | apply Kd.R_drew)); exact HO538.out) (Kd.R_base ho0) hb); have n1_ := Aside0.mk (Kd.R_below (by (with_reducible repeat (first | apply Kd.R_alloc | apply Kd.R_drewN | apply Kd.R_drew)); exact HO541.out) hb); have n2_ := Aside0.mk (Kd.R_below (by (with_reducible repeat (first | apply Kd.R_alloc | apply Kd.R_drewN | apply Kd.R_drew)); exact HO545.out) hb); have n3_ := Aside0.mk (Kd.R_below (by (with_reducible repeat (first | apply Kd.R_alloc | apply Kd.R_drewN | apply Kd.R_drew)); exact HO549.out) hb); have n4_ := Aside0.mk (Kd.R_below (by (with_reducible repeat (first | apply Kd.R_alloc | apply Kd.R_drewN | apply Kd.R_drew)); exact HO553.out) hb); have n5_ := Aside0.mk (Kd.R_below (by (with_reducible repeat (first | apply Kd.R_alloc | apply Kd.R_drewN | apply Kd.R_drew)); exact HO557.out) hb); have n6_ := Aside0.mk (Kd.R_elder' (by (with_reducible repeat (first | apply Kd.R_alloc | apply Kd.R_drewN | apply Kd.R_drew)); exact HO561.out) (Kd.R_base ho0) hb); have n7_ := Aside0.mk (Kd.R_below (by (with_reducible repeat (first | apply Kd.R_alloc | apply Kd.R_drewN | apply Kd.R_drew)); exact HO564.out) hb); have n8_ := Aside0.mk (Kd.R_below (by (with_reducible repeat (first | apply Kd.R_alloc | apply Kd.R_drewN | apply Kd.R_drew)); exact HO568.out) hb); have n9_ := Aside0.mk (Kd.R_lower (Kd.R_new' (Kd.R_new' ho0 (Kd.R_lt (by (with_reducible repeat (first | apply Kd.R_alloc | apply Kd.R_drewN | apply Kd.R_drew)); exact HO538.out))) (Kd.R_lt (by (with_reducible repeat (first | apply Kd.R_alloc | apply Kd.R_drewN | apply Kd.R_drew)); exact HO561.out))) (below_size (by repeat (first | (with_reducible first | exact HB.out | apply below_alloc | apply pw_below_drewN | apply below_drew1) | exact HB.out)))); have n10_ := Aside0.mk (below_step (by repeat (first | (with_reducible first | exact HB.out | apply below_alloc | apply pw_below_drewN | apply below_drew1) | exact HB.out)) hb); clear HO538; clear HO541; clear HO545; clear HO549; clear HO553; clear HO557; clear HO561; clear HO564; clear HO568; clear HB; have HO538 := n0_; have HO541 := n1_; have HO545 := n2_; have HO549 := n3_; have HO553 := n4_; have HO557 := n5_; have HO561 := n6_; have HO564 := n7_; have HO568 := n8_; have HO572 := n9_; have HB := n10_; clear n0_ n1_ n2_ n3_ n4_ n5_ n6_ n7_ n8_ n9_ n10_; (try clear hb); (try clear hb2); (try clear hk); (try clear hi); (try clear ho0)) | ((with_reducible refine gate_dst (N := 122) rfl ?_); (try (refine gate_guard (by rfl) ?_; dsimp only)); refine Kd.R_lit (Kd.int .i64) _ 3 ?hg (N := 122) ?hd (xs := ([a3] : List Int)) (inner := [.int .i64 a3]) (ok := fun _ => True) (okp := fun _ => True) ?hr ?hp (fun _ hk => hk) trivial (Below.refl _ _) (Nat.le_refl _) (by simp) ?_; (case hd => rfl); (case hg => rfl); (case hr => first | (go_simp; done) | (go_simp; rfl)); (case hp => exact (Reps.one (show Kd.M (Kd.int .i64) _ _ _ a3 [.int .i64 a3] from rfl) (Reps.none _ _))); intro v574 w48 ho49 hb hg_ hnew_; clear hg_ hnew_; (first | rw [← Ny573.out] at ho49 | (simp only [Int.reduceToNat] at ho49; rw [← Ny573.out] at ho49)); have n0_ := Aside0.mk (Kd.R_elder' (by (with_reducible repeat (first | apply Kd.R_alloc | apply Kd.R_drewN | apply Kd.R_drew)); exact HO538.out) (Kd.R_base ho49) hb); have n1_ := Aside0.mk (Kd.R_below (by (with_reducible repeat (first | apply Kd.R_alloc | apply Kd.R_drewN | apply Kd.R_drew)); exact HO541.out) hb); have n2_ := Aside0.mk (Kd.R_below (by (with_reducible repeat (first | apply Kd.R_alloc | apply Kd.R_drewN | apply Kd.R_drew)); exact HO545.out) hb); have n3_ := Aside0.mk (Kd.R_below (by (with_reducible repeat (first | apply Kd.R_alloc | apply Kd.R_drewN | apply Kd.R_drew)); exact HO549.out) hb); have n4_ := Aside0.mk (Kd.R_below (by (with_reducible repeat (first | apply Kd.R_alloc | apply Kd.R_drewN | apply Kd.R_drew)); exact HO553.out) hb); have n5_ := Aside0.mk (Kd.R_below (by (with_reducible repeat (first | apply Kd.R_alloc | apply Kd.R_drewN | apply Kd.R_drew)); exact HO557.out) hb); have n6_ := Aside0.mk (Kd.R_elder' (by (with_reducible repeat (first | apply Kd.R_alloc | apply Kd.R_drewN | apply Kd.R_drew)); exact HO561.out) (Kd.R_base ho49) hb); have n7_ := Aside0.mk (Kd.R_below (by (with_reducible repeat (first | apply Kd.R_alloc | apply Kd.R_drewN | apply Kd.R_drew)); exact HO564.out) hb); have n8_ := Aside0.mk (Kd.R_below (by (with_reducible repeat (first | apply Kd.R_alloc | apply Kd.R_drewN | apply Kd.R_drew)); exact HO568.out) hb); have n9_ := Aside0.mk (Kd.R_elder' (by (with_reducible repeat (first | apply Kd.R_alloc | apply Kd.R_drewN | apply Kd.R_drew)); exact HO572.out) (Kd.R_base ho49) hb); have n10_ := Aside0.mk (Kd.R_lower (Kd.R_new' (Kd.R_new' (Kd.R_new' ho49 (Kd.R_lt (by (with_reducible repeat (first | apply Kd.R_alloc | apply Kd.R_drewN | apply Kd.R_drew)); exact HO538.out))) (Kd.R_lt (by (with_reducible repeat (first | apply Kd.R_alloc | apply Kd.R_drewN | apply Kd.R_drew)); exact HO561.out))) (Kd.R_lt (by (with_reducible repeat (first | apply Kd.R_alloc | apply Kd.R_drewN | apply Kd.R_drew)); exact HO572.out))) (below_size (by repeat (first | (with_reducible first | exact HB.out | apply below_alloc | apply pw_below_drewN | apply below_drew1) | exact HB.out)))); have n11_ := Aside0.mk (below_step (by repeat (first | (with_reducible first | exact HB.out | apply below_alloc | apply pw_below_drewN | apply below_drew1) | exact HB.out)) hb); clear HO538; clear HO541; clear HO545; clear HO549; clear HO553; clear HO557; clear HO561; clear HO564; clear HO568; clear HO572; clear HB; have HO538 := n0_; have HO541 := n1_; have HO545 := n2_; have HO549 := n3_; have HO553 := n4_; have HO557 := n5_; have HO561 := n6_; have HO564 := n7_; have HO568 := n8_; have HO572 := n9_; have HO575 := n10_; have HB := n11_; clear n0_ n1_ n2_ n3_ n4_ n5_ n6_ n7_ n8_ n9_ n10_ n11_; clear hb ho49; obtain ⟨Ao50, co50, eo50⟩ := Kd.R_slice HO575.out; subst eo50) | ((with_reducible refine gate_callee (f := 25) rfl ?_); refine goesL_ (some 123) rfl rfl Try.func25 (by kernel_rfl) rfl #[.slice A1 l1.length c1, .slice Ao50 y573.length co50] rfl (by (try simp only [List.map_toArray, List.map_cons, List.map_nil]); first | done | rfl | (simp only [List.length_drop, List.length_take]; rfl)) ?_; (with_reducible refine (bits_Turn.calls kj4 _ _ l1 _ _ y573 t576 t577 _ ?side1 ?side2 ?side3 ?side4 A26.out).mono ?_); (case side1 => repeat (first | exact (Kd.C_below HR1.out HB.out) | (with_reducible refine Kd.C_alloc ?_ _) | (with_reducible refine Kd.C_drewN ?_ _) | (with_reducible refine Kd.C_drew ?_))); (case side2 => exact HC1.out); (case side3 => repeat (first | exact (Kd.R_reads' HO575.out).2.2 | (with_reducible refine Kd.C_alloc ?_ _) | (with_reducible refine Kd.C_drewN ?_ _) | (with_reducible refine Kd.C_drew ?_))); (case side4 => exact (Kd.R_reads' HO575.out).2.1); rintro e w51 ⟨v578, rfl, ho0, hb⟩; refine ⟨_, rfl, ?_⟩; have n0_ := Aside0.mk (Kd.R_below (by (with_reducible repeat (first | apply Kd.R_alloc | apply Kd.R_drewN | apply Kd.R_drew)); exact HO538.out) hb); have n1_ := Aside0.mk (Kd.R_elder' (by (with_reducible repeat (first | apply Kd.R_alloc | apply Kd.R_drewN | apply Kd.R_drew)); exact HO541.out) (Kd.R_base ho0) hb); have n2_ := Aside0.mk (Kd.R_elder' (by (with_reducible repeat (first | apply Kd.R_alloc | apply Kd.R_drewN | apply Kd.R_drew)); exact HO545.out) (Kd.R_base ho0) hb); have n3_ := Aside0.mk (Kd.R_elder' (by (with_reducible repeat (first | apply Kd.R_alloc | apply Kd.R_drewN | apply Kd.R_drew)); exact HO549.out) (Kd.R_base ho0) hb); have n4_ := Aside0.mk (Kd.R_elder' (by (with_reducible repeat (first | apply Kd.R_alloc | apply Kd.R_drewN | apply Kd.R_drew)); exact HO553.out) (Kd.R_base ho0) hb); have n5_ := Aside0.mk (Kd.R_elder' (by (with_reducible repeat (first | apply Kd.R_alloc | apply Kd.R_drewN | apply Kd.R_drew)); exact HO557.out) (Kd.R_base ho0) hb); have n6_ := Aside0.mk (Kd.R_below (by (with_reducible repeat (first | apply Kd.R_alloc | apply Kd.R_drewN | apply Kd.R_drew)); exact HO561.out) hb); have n7_ := Aside0.mk (Kd.R_elder' (by (with_reducible repeat (first | apply Kd.R_alloc | apply Kd.R_drewN | apply Kd.R_drew)); exact HO564.out) (Kd.R_base ho0) hb); have n8_ := Aside0.mk (Kd.R_elder' (by (with_reducible repeat (first | apply Kd.R_alloc | apply Kd.R_drewN | apply Kd.R_drew)); exact HO568.out) (Kd.R_base ho0) hb); have n9_ := Aside0.mk (Kd.R_below (by (with_reducible repeat (first | apply Kd.R_alloc | apply Kd.R_drewN | apply Kd.R_drew)); exact HO572.out) hb); have n10_ := Aside0.mk (Kd.R_below (by (with_reducible repeat (first | apply Kd.R_alloc | apply Kd.R_drewN | apply Kd.R_drew)); exact HO575.out) hb); have n11_ := Aside0.mk (Kd.R_lower (Kd.R_new' (Kd.R_new' (Kd.R_new' (Kd.R_new' (Kd.R_new' (Kd.R_new' (Kd.R_new' ho0 (Kd.R_lt (by (with_reducible repeat (first | apply Kd.R_alloc | apply Kd.R_drewN | apply Kd.R_drew)); exact HO541.out))) (Kd.R_lt (by (with_reducible repeat (first | apply Kd.R_alloc | apply Kd.R_drewN | apply Kd.R_drew)); exact HO545.out))) (Kd.R_lt (by (with_reducible repeat (first | apply Kd.R_alloc | apply Kd.R_drewN | apply Kd.R_drew)); exact HO549.out))) (Kd.R_lt (by (with_reducible repeat (first | apply Kd.R_alloc | apply Kd.R_drewN | apply Kd.R_drew)); exact HO553.out))) (Kd.R_lt (by (with_reducible repeat (first | apply Kd.R_alloc | apply Kd.R_drewN | apply Kd.R_drew)); exact HO557.out))) (Kd.R_lt (by (with_reducible repeat (first | apply Kd.R_alloc | apply Kd.R_drewN | apply Kd.R_drew)); exact HO564.out))) (Kd.R_lt (by (with_reducible repeat (first | apply Kd.R_alloc | apply Kd.R_drewN | apply Kd.R_drew)); exact HO568.out))) (below_size (by repeat (first | (with_reducible first | exact HB.out | apply below_alloc | apply pw_below_drewN | apply below_drew1) | exact HB.out)))); have n12_ := Aside0.mk (below_step (by repeat (first | (with_reducible first | exact HB.out | apply below_alloc | apply pw_below_drewN | apply below_drew1) | exact HB.out)) hb); clear HO538; clear HO541; clear HO545; clear HO549; clear HO553; clear HO557; clear HO561; clear HO564; clear HO568; clear HO572; clear HO575; clear HB; have HO538 := n0_; have HO541 := n1_; have HO545 := n2_; have HO549 := n3_; have HO553 := n4_; have HO557 := n5_; have HO561 := n6_; have HO564 := n7_; have HO568 := n8_; have HO572 := n9_; have HO575 := n10_; have HO579 := n11_; have HB := n12_; clear n0_ n1_ n2_ n3_ n4_ n5_ n6_ n7_ n8_ n9_ n10_ n11_ n12_; (try clear hb); (try clear hb2); (try clear hk); (try clear hi); (try clear ho0); obtain ⟨Ao52, co52, eo52⟩ := Kd.R_slice HO579.out; subst eo52) | ((with_reducible refine gate_callee (f := 22) rfl ?_); refine goesL_ (some 130) rfl rfl Try.func22 (by kernel_rfl) rfl #[.int .i64 a0, .slice Ao52 t576.length co52, .slice Ao39 t546.length co39] rfl (by (try simp only [List.map_toArray, List.map_cons, List.map_nil]); first | done | rfl | (simp only [List.length_drop, List.length_take]; rfl)) ?_; (with_reducible refine (bch_Sums.calls kj4 a0 _ _ t576 _ _ t546 t580 t581 _ ?side1 ?side2 ?side3 ?side4 A27.out).mono ?_); (case side1 => repeat (first | exact (Kd.R_reads' HO579.out).2.2 | (with_reducible refine Kd.C_alloc ?_ _) | (with_reducible refine Kd.C_drewN ?_ _) | (with_reducible refine Kd.C_drew ?_))); (case side2 => exact (Kd.R_reads' HO579.out).2.1); (case side3 => repeat (first | exact (Kd.R_reads' HO549.out).2.2 | (with_reducible refine Kd.C_alloc ?_ _) | (with_reducible refine Kd.C_drewN ?_ _) | (with_reducible refine Kd.C_drew ?_))); (case side4 => exact (Kd.R_reads' HO549.out).2.1); rintro e w53 ⟨v582, rfl, ho0, hb⟩; refine ⟨_, rfl, ?_⟩; have n0_ := Aside0.mk (Kd.R_elder' (by (with_reducible repeat (first | apply Kd.R_alloc | apply Kd.R_drewN | apply Kd.R_drew)); exact HO538.out) (Kd.R_base ho0) hb); have n1_ := Aside0.mk (Kd.R_below (by (with_reducible repeat (first | apply Kd.R_alloc | apply Kd.R_drewN | apply Kd.R_drew)); exact HO541.out) hb); have n2_ := Aside0.mk (Kd.R_below (by (with_reducible repeat (first | apply Kd.R_alloc | apply Kd.R_drewN | apply Kd.R_drew)); exact HO545.out) hb); have n3_ := Aside0.mk (Kd.R_below (by (with_reducible repeat (first | apply Kd.R_alloc | apply Kd.R_drewN | apply Kd.R_drew)); exact HO549.out) hb); have n4_ := Aside0.mk (Kd.R_below (by (with_reducible repeat (first | apply Kd.R_alloc | apply Kd.R_drewN | apply Kd.R_drew)); exact HO553.out) hb); have n5_ := Aside0.mk (Kd.R_below (by (with_reducible repeat (first | apply Kd.R_alloc | apply Kd.R_drewN | apply Kd.R_drew)); exact HO557.out) hb); have n6_ := Aside0.mk (Kd.R_elder' (by (with_reducible repeat (first | apply Kd.R_alloc | apply Kd.R_drewN | apply Kd.R_drew)); exact HO561.out) (Kd.R_base ho0) hb); have n7_ := Aside0.mk (Kd.R_below (by (with_reducible repeat (first | apply Kd.R_alloc | apply Kd.R_drewN | apply Kd.R_drew)); exact HO564.out) hb); have n8_ := Aside0.mk (Kd.R_below (by (with_reducible repeat (first | apply Kd.R_alloc | apply Kd.R_drewN | apply Kd.R_drew)); exact HO568.out) hb); have n9_ := Aside0.mk (Kd.R_elder' (by (with_reducible repeat (first | apply Kd.R_alloc | apply Kd.R_drewN | apply Kd.R_drew)); exact HO572.out) (Kd.R_base ho0) hb); have n10_ := Aside0.mk (Kd.R_elder' (by (with_reducible repeat (first | apply Kd.R_alloc | apply Kd.R_drewN | apply Kd.R_drew)); exact HO575.out) (Kd.R_base ho0) hb); have n11_ := Aside0.mk (Kd.R_below (by (with_reducible repeat (first | apply Kd.R_alloc | apply Kd.R_drewN | apply Kd.R_drew)); exact HO579.out) hb); have n12_ := Aside0.mk (Kd.R_lower (Kd.R_new' (Kd.R_new' (Kd.R_new' (Kd.R_new' ho0 (Kd.R_lt (by (with_reducible repeat (first | apply Kd.R_alloc | apply Kd.R_drewN | apply Kd.R_drew)); exact HO538.out))) (Kd.R_lt (by (with_reducible repeat (first | apply Kd.R_alloc | apply Kd.R_drewN | apply Kd.R_drew)); exact HO561.out))) (Kd.R_lt (by (with_reducible repeat (first | apply Kd.R_alloc | apply Kd.R_drewN | apply Kd.R_drew)); exact HO572.out))) (Kd.R_lt (by (with_reducible repeat (first | apply Kd.R_alloc | apply Kd.R_drewN | apply Kd.R_drew)); exact HO575.out))) (below_size (by repeat (first | (with_reducible first | exact HB.out | apply below_alloc | apply pw_below_drewN | apply below_drew1) | exact HB.out)))); have n13_ := Aside0.mk (below_step (by repeat (first | (with_reducible first | exact HB.out | apply below_alloc | apply pw_below_drewN | apply below_drew1) | exact HB.out)) hb); clear HO538; clear HO541; clear HO545; clear HO549; clear HO553; clear HO557; clear HO561; clear HO564; clear HO568; clear HO572; clear HO575; clear HO579; clear HB; have HO538 := n0_; have HO541 := n1_; have HO545 := n2_; have HO549 := n3_; have HO553 := n4_; have HO557 := n5_; have HO561 := n6_; have HO564 := n7_; have HO568 := n8_; have HO572 := n9_; have HO575 := n10_; have HO579 := n11_; have HO583 := n12_; have HB := n13_; clear n0_ n1_ n2_ n3_ n4_ n5_ n6_ n7_ n8_ n9_ n10_ n11_ n12_ n13_; (try clear hb); (try clear hb2); (try clear hk); (try clear hi); (try clear ho0)))
                (try simp only [Act.put, List.setIfInBounds_toArray, List.set_cons_zero, List.set_cons_succ])
                go_cut [185] (fun v185 wc => ∃ (kq : Nat) (x185_27 : Bool), v185 = .bool x185_27 ∧ Aside0 (casematelaw05_BchLinear.j1 kq a0 t569 t580 x185_27 = some r) ∧ Aside0 (kq ≤ kj4) ∧ Aside0 (Kd.R (Kd.int .i64) 3 wc w.heap.size (fun k_ => some k_ ≠ (v582 : Value).ownBlock) v571 t569) ∧ Aside0 (Kd.R (Kd.int .i64) 3 wc w.heap.size (fun k_ => some k_ ≠ (v571 : Value).ownBlock) v582 t580) ∧ Aside0 (Below w.heap.size w wc))
                case first =>
                  have H := HC28.out
                  clear HC28
                  by_cases c54 : t547 = 0
                  · rw [if_pos c54] at H
                    have c54b0 : (t547 == 0) = true := beq_iff_eq.mpr c54
                    have c54b1 : (t547 != 0) = false := bne_eq_false_iff_eq.mpr c54
                    clear c54
                    (first | rw [c54b0] | (simp only [i64_w, i32_w]; rw [c54b0]) | skip)
                    by_cases c55 : t551 = t547
                    · rw [if_pos c55] at H
                      have c55b0 : (t551 == t547) = true := beq_iff_eq.mpr c55
                      have c55b1 : (t551 != t547) = false := bne_eq_false_iff_eq.mpr c55
                      clear c55
                      by_cases c56 : t555 = t547
                      · rw [if_pos c56] at H
                        have c56b0 : (t555 == t547) = true := beq_iff_eq.mpr c56
                        have c56b1 : (t555 != t547) = false := bne_eq_false_iff_eq.mpr c56
                        clear c56
                        by_cases c57 : t559 = t547
                        · rw [if_pos c57] at H
                          have c57b0 : (t559 == t547) = true := beq_iff_eq.mpr c57
                          have c57b1 : (t559 != t547) = false := bne_eq_false_iff_eq.mpr c57
                          clear c57
                          by_cases c58 : t566 = t547
                          · rw [if_pos c58] at H
                            have c58b0 : (t566 == t547) = true := beq_iff_eq.mpr c58
                            have c58b1 : (t566 != t547) = false := bne_eq_false_iff_eq.mpr c58
                            clear c58
                            by_cases c59 : t570 = t547
                            · rw [if_pos c59] at H
                              have c59b0 : (t570 == t547) = true := beq_iff_eq.mpr c59
                              have c59b1 : (t570 != t547) = false := bne_eq_false_iff_eq.mpr c59
                              clear c59
                              by_cases c60 : t581 = t547
                              · rw [if_pos c60] at H
                                have c60b0 : (t581 == t547) = true := beq_iff_eq.mpr c60
                                have c60b1 : (t581 != t547) = false := bne_eq_false_iff_eq.mpr c60
                                clear c60
                                by_cases c61 : (strOfNums t554).toList = (strOfNums t565).toList
                                · rw [if_pos c61] at H
                                  have c61b0 : ((strOfNums t554).toList == (strOfNums t565).toList) = true := beq_iff_eq.mpr c61
                                  have c61b1 : ((strOfNums t554).toList != (strOfNums t565).toList) = false := bne_eq_false_iff_eq.mpr c61
                                  clear c61
                                  by_cases c62 : (t569.length : Int) = (wrap64 (2 * a0))
                                  · rw [if_pos c62] at H
                                    have c62b0 : ((t569.length : Int) == (wrap64 (2 * a0))) = true := beq_iff_eq.mpr c62
                                    have c62b1 : ((t569.length : Int) != (wrap64 (2 * a0))) = false := bne_eq_false_iff_eq.mpr c62
                                    clear c62
                                    have H' := Aside0.mk H
                                    clear H
                                    have hcv63 := own_string (P := Try.prog) Try.underlying22 Try.underlying5 Try.underlying9 (Kd.own_of_R HO557.out)
                                    have hcv64 := own_string (P := Try.prog) Try.underlying22 Try.underlying5 Try.underlying9 (Kd.own_of_R HO568.out)
                                    obtain ⟨Ao65, co65, eo65⟩ := Kd.R_slice HO572.out
                                    subst eo65
                                    obtain ⟨Ao66, co66, eo66⟩ := Kd.R_slice HO583.out
                                    subst eo66
                                    go_wp2
                                    go_meet
                                    case rel => exact ⟨_, (((t580.length : Int) != (wrap64 (2 * a0)))), (by first | rfl | (simp; done) | (simp [*]; done)), H', ⟨by have := HJ4.out; first | omega | exact Nat.le_refl _⟩, ⟨by (with_reducible repeat (first | apply Kd.R_alloc | apply Kd.R_drewN | apply Kd.R_drew)); exact Kd.R_mono HO572.out (fun _ hk => hk.2)⟩, ⟨by (with_reducible repeat (first | apply Kd.R_alloc | apply Kd.R_drewN | apply Kd.R_drew)); exact Kd.R_mono HO583.out (fun _ hk => hk.1.2)⟩, ⟨by repeat (first | (with_reducible first | exact HB.out | apply below_alloc | apply pw_below_drewN | apply below_drew1) | exact HB.out)⟩⟩
                                  · rw [if_neg c62] at H
                                    (try rw [hr_.out] at H)
                                    exact absurd H (casematelaw05_BchLinear.j1_no _ _ _ _)
                                · rw [if_neg c61] at H
                                  (try rw [hr_.out] at H)
                                  exact absurd H (casematelaw05_BchLinear.j1_no _ _ _ _)
                              · rw [if_neg c60] at H
                                (try rw [hr_.out] at H)
                                exact absurd H (casematelaw05_BchLinear.j1_no _ _ _ _)
                            · rw [if_neg c59] at H
                              (try rw [hr_.out] at H)
                              exact absurd H (casematelaw05_BchLinear.j1_no _ _ _ _)
                          · rw [if_neg c58] at H
                            (try rw [hr_.out] at H)
                            exact absurd H (casematelaw05_BchLinear.j1_no _ _ _ _)
                        · rw [if_neg c57] at H
                          (try rw [hr_.out] at H)
                          exact absurd H (casematelaw05_BchLinear.j1_no _ _ _ _)
                      · rw [if_neg c56] at H
                        (try rw [hr_.out] at H)
                        exact absurd H (casematelaw05_BchLinear.j1_no _ _ _ _)
                    · rw [if_neg c55] at H
                      (try rw [hr_.out] at H)
                      exact absurd H (casematelaw05_BchLinear.j1_no _ _ _ _)
                  · rw [if_neg c54] at H
                    (try rw [hr_.out] at H)
                    exact absurd H (casematelaw05_BchLinear.j1_no _ _ _ _)
                case rest =>
                  clear HC28
                  try clear c1
                  try clear c2
                  try clear p2
                  try clear c5
                  try clear c6
                  try clear p6
                  try clear hcv6
                  try clear c7
                  try clear hcv7
                  try clear c8
                  try clear c8b0
                  try clear c8b1
                  try clear c8b2
                  try clear c9
                  try clear c9b0
                  try clear c9b1
                  try clear c9b2
                  try clear c10
                  try clear c10b0
                  try clear c11
                  try clear c11b0
                  try clear c12
                  try clear c12b0
                  try clear c13
                  try clear c15
                  try clear c15b0
                  try clear c15b1
                  try clear c16
                  try clear c16b0
                  try clear c16b1
                  try clear c22
                  try clear c22b0
                  try clear c22b1
                  try clear c23
                  try clear c23b0
                  try clear c23b1
                  try clear c25
                  try clear c26
                  try clear c54
                  try clear c54b0
                  try clear c54b1
                  try clear c55
                  try clear c55b0
                  try clear c55b1
                  try clear c56
                  try clear c56b0
                  try clear c56b1
                  try clear c57
                  try clear c57b0
                  try clear c57b1
                  try clear c58
                  try clear c58b0
                  try clear c58b1
                  try clear c59
                  try clear c59b0
                  try clear c59b1
                  try clear c60
                  try clear c60b0
                  try clear c60b1
                  try clear c61
                  try clear c61b0
                  try clear c61b1
                  try clear c62
                  try clear c62b0
                  try clear c62b1
                  try clear hcv63
                  try clear p64
                  try clear hcv64
                  try clear hcv67
                  try clear hcv68
                  try clear hcv70
                  try clear hcv71
                  try clear p2
                  try clear p6
                  obtain ⟨kq, x185_27, rfl, HA, HJ27, HO_23, HO_27, HB⟩ := hcut
                  cases kq with
                  | zero => exact absurd HA.out (by simp [casematelaw05_BchLinear.j1])
                  | succ kj27 =>
                    have H := HA.out
                    clear HA
                    simp only [casematelaw05_BchLinear.j1] at H
                    by_cases c72 : x185_27 = true
                    · subst c72
                      have H1 : (some false) = some r := by rw [if_pos rfl] at H; exact H
                      rw [hr_.out] at H1
                      exact absurd H1 (by simp)
                    · replace c72 := Bool.eq_false_iff.mpr c72
                      subst c72
                      have H1 : (casematelaw05_BchLinear.l0 kj27 a0 t569 t580 false 0) = some r := by rw [if_neg (show ¬ (false = true) by decide)] at H; exact H
                      clear H
                      have H := H1
                      clear H1
                      have H' := Aside0.mk H
                      clear H
                      go_wp2
                      go_loopg [29, 30] kj27 (fun kq v29 v30 w' => ∃ (x29_3 : Bool) (x30_3 : Int), v29 = .bool x29_3 ∧ v30 = .int .i64 x30_3 ∧ Aside0 (casematelaw05_BchLinear.l0 kq a0 t569 t580 x29_3 x30_3 = some r) ∧ Aside0 (kq ≤ kj27) ∧ Aside0 (Kd.R (Kd.int .i64) 3 w' w.heap.size (fun k_ => some k_ ≠ (v582 : Value).ownBlock) v571 t569) ∧ Aside0 (Kd.R (Kd.int .i64) 3 w' w.heap.size (fun k_ => some k_ ≠ (v571 : Value).ownBlock) v582 t580) ∧ Aside0 (Below w.heap.size w w'))
                      case atStart => exact ⟨(false), (0), (by first | rfl | (simp; done) | (simp [*]; done)), (by first | rfl | (simp; done) | (simp [*]; done)), H', ⟨Nat.le_refl _⟩, ⟨by (with_reducible repeat (first | apply Kd.R_alloc | apply Kd.R_drewN | apply Kd.R_drew)); exact HO_23.out⟩, ⟨by (with_reducible repeat (first | apply Kd.R_alloc | apply Kd.R_drewN | apply Kd.R_drew)); exact HO_27.out⟩, ⟨by repeat (first | (with_reducible first | exact HB.out | apply below_alloc | apply pw_below_drewN | apply below_drew1) | exact HB.out)⟩⟩
                      case round =>
                        clear H'
                        try clear c1
                        try clear c2
                        try clear p2
                        try clear c5
                        try clear c6
                        try clear p6
                        try clear hcv6
                        try clear c7
                        try clear hcv7
                        try clear c8
                        try clear c8b0
                        try clear c8b1
                        try clear c8b2
                        try clear c9
                        try clear c9b0
                        try clear c9b1
                        try clear c9b2
                        try clear c10
                        try clear c10b0
                        try clear c11
                        try clear c11b0
                        try clear c12
                        try clear c12b0
                        try clear c13
                        try clear c15
                        try clear c15b0
                        try clear c15b1
                        try clear c16
                        try clear c16b0
                        try clear c16b1
                        try clear c22
                        try clear c22b0
                        try clear c22b1
                        try clear c23
                        try clear c23b0
                        try clear c23b1
                        try clear c25
                        try clear c26
                        try clear c54
                        try clear c54b0
                        try clear c54b1
                        try clear c55
                        try clear c55b0
                        try clear c55b1
                        try clear c56
                        try clear c56b0
                        try clear c56b1
                        try clear c57
                        try clear c57b0
                        try clear c57b1
                        try clear c58
                        try clear c58b0
                        try clear c58b1
                        try clear c59
                        try clear c59b0
                        try clear c59b1
                        try clear c60
                        try clear c60b0
                        try clear c60b1
                        try clear c61
                        try clear c61b0
                        try clear c61b1
                        try clear c62
                        try clear c62b0
                        try clear c62b1
                        try clear hcv63
                        try clear p64
                        try clear hcv64
                        try clear hcv67
                        try clear hcv68
                        try clear hcv70
                        try clear hcv71
                        try clear c72
                        try clear p2
                        try clear p6
                        try clear p64
                        obtain ⟨x29_3, x30_3, rfl, rfl, HA, HK3, HO_23, HO_27, HB⟩ := hrel
                        cases gk with
                        | zero => exact absurd HA.out (by simp [casematelaw05_BchLinear.l0])
                        | succ k3 =>
                          have H := HA.out
                          clear HA
                          simp only [casematelaw05_BchLinear.l0] at H
                          by_cases c73 : x30_3 < (wrap64 (2 * a0))
                          · rw [if_pos c73] at H
                            have c73b0 : decide (x30_3 < (wrap64 (2 * a0))) = true := decide_eq_true c73
                            clear c73
                            by_cases c74 : 0 ≤ x30_3
                            · rw [if_pos c74] at H
                              have c74b0 : decide (0 ≤ x30_3) = true := decide_eq_true c74
                              clear c74
                              by_cases c75 : x30_3 < (t569.length : Int)
                              · rw [if_pos c75] at H
                                have c75b0 : decide (x30_3 < (t569.length : Int)) = true := decide_eq_true c75
                                clear c75
                                by_cases c76 : (rd t569 x30_3) = 0
                                · rw [if_pos c76] at H
                                  have c76b0 : ((rd t569 x30_3) == 0) = true := beq_iff_eq.mpr c76
                                  have c76b1 : ((rd t569 x30_3) != 0) = false := bne_eq_false_iff_eq.mpr c76
                                  clear c76
                                  by_cases c77 : x29_3 = true
                                  · subst c77
                                    have H1 : (casematelaw05_BchLinear.l0 k3 a0 t569 t580 true (wrap64 (x30_3 + 1))) = some r := by rw [if_pos rfl] at H; exact H
                                    clear H
                                    have H := H1
                                    clear H1
                                    have H' := Aside0.mk H
                                    clear H
                                    obtain ⟨Ao78, co78, eo78⟩ := Kd.R_slice HO_23.out
                                    subst eo78
                                    have p584 : 0 ≤ (x30_3 : Int) := of_decide_eq_true (by first | (with_reducible assumption) | assumption)
                                    have q584 : x30_3 < (t569.length : Int) := of_decide_eq_true (by first | (with_reducible assumption) | assumption)
                                    obtain ⟨ad584, e584, hx584_0⟩ := Kd.at_int (Kd.R_reads' HO_23.out).2.2 x30_3 p584 q584
                                    cases e584
                                    replace p584 := eq_true p584
                                    replace q584 := eq_true q584
                                    go_wp2
                                    go_roundg k3
                                    case measure => have := HJ4.out; have := HJ27.out; have := HK3.out; omega
                                    case rel => exact ⟨(true), (wrap64 (x30_3 + 1)), (by first | rfl | (simp; done) | (simp [*]; done)), (by first | rfl | (simp; done) | (simp [*]; done)), H', ⟨by have := HJ4.out; have := HJ27.out; have := HK3.out; omega⟩, ⟨by (with_reducible repeat (first | apply Kd.R_alloc | apply Kd.R_drewN | apply Kd.R_drew)); exact HO_23.out⟩, ⟨by (with_reducible repeat (first | apply Kd.R_alloc | apply Kd.R_drewN | apply Kd.R_drew)); exact HO_27.out⟩, ⟨by repeat (first | (with_reducible first | exact HB.out | apply below_alloc | apply pw_below_drewN | apply below_drew1) | exact HB.out)⟩⟩
                                  · replace c77 := Bool.eq_false_iff.mpr c77
                                    subst c77
                                    have H1 : (if x30_3 < (t580.length : Int) then (casematelaw05_BchLinear.l0 k3 a0 t569 t580 ((rd t580 x30_3) != 0) (wrap64 (x30_3 + 1))) else (none)) = some r := by rw [if_neg (show ¬ (false = true) by decide)] at H; exact H
                                    clear H
                                    have H := H1
                                    clear H1
                                    by_cases c79 : x30_3 < (t580.length : Int)
                                    · rw [if_pos c79] at H
                                      have c79b0 : decide (x30_3 < (t580.length : Int)) = true := decide_eq_true c79
                                      clear c79
                                      have H' := Aside0.mk H
                                      clear H
                                      obtain ⟨Ao80, co80, eo80⟩ := Kd.R_slice HO_23.out
                                      subst eo80
                                      have p584 : 0 ≤ (x30_3 : Int) := of_decide_eq_true (by first | (with_reducible assumption) | assumption)
                                      have q584 : x30_3 < (t569.length : Int) := of_decide_eq_true (by first | (with_reducible assumption) | assumption)
                                      obtain ⟨ad584, e584, hx584_0⟩ := Kd.at_int (Kd.R_reads' HO_23.out).2.2 x30_3 p584 q584
                                      cases e584
                                      replace p584 := eq_true p584
                                      replace q584 := eq_true q584
                                      obtain ⟨Ao81, co81, eo81⟩ := Kd.R_slice HO_27.out
                                      subst eo81
                                      have p585 : 0 ≤ (x30_3 : Int) := of_decide_eq_true (by first | (with_reducible assumption) | assumption)
                                      have q585 : x30_3 < (t580.length : Int) := of_decide_eq_true (by first | (with_reducible assumption) | assumption)
                                      obtain ⟨ad585, e585, hx585_0⟩ := Kd.at_int (Kd.R_reads' HO_27.out).2.2 x30_3 p585 q585
                                      cases e585
                                      replace p585 := eq_true p585
                                      replace q585 := eq_true q585
                                      go_wp2
                                      go_roundg k3
                                      case measure => have := HJ4.out; have := HJ27.out; have := HK3.out; omega
                                      case rel => exact ⟨(((rd t580 x30_3) != 0)), (wrap64 (x30_3 + 1)), (by first | rfl | (simp; done) | (simp [*]; done)), (by first | rfl | (simp; done) | (simp [*]; done)), H', ⟨by have := HJ4.out; have := HJ27.out; have := HK3.out; omega⟩, ⟨by (with_reducible repeat (first | apply Kd.R_alloc | apply Kd.R_drewN | apply Kd.R_drew)); exact HO_23.out⟩, ⟨by (with_reducible repeat (first | apply Kd.R_alloc | apply Kd.R_drewN | apply Kd.R_drew)); exact HO_27.out⟩, ⟨by repeat (first | (with_reducible first | exact HB.out | apply below_alloc | apply pw_below_drewN | apply below_drew1) | exact HB.out)⟩⟩
                                    · rw [if_neg c79] at H
                                      exact absurd H (by simp)
                                · rw [if_neg c76] at H
                                  (try rw [hr_.out] at H)
                                  exact absurd H (by simp)
                              · rw [if_neg c75] at H
                                exact absurd H (by simp)
                            · rw [if_neg c74] at H
                              exact absurd H (by simp)
                          · rw [if_neg c73] at H
                            have c73b0 : decide (x30_3 < (wrap64 (2 * a0))) = false := decide_eq_false c73
                            clear c73
                            replace H := Option.bind_eq_some_iff.mp H
                            obtain ⟨t586, A830, H⟩ := H
                            replace H : (if t586 = true then (some x29_3) else (some false)) = some r := H
                            have A83 := Aside0.mk A830
                            clear A830
                            by_cases c84 : t586 = true
                            · subst c84
                              have H1 : (some x29_3) = some r := by rw [if_pos rfl] at H; exact H
                              clear H
                              have H := H1
                              clear H1
                              obtain rfl := Option.some.inj H
                              go_wp2_with (first | ((with_reducible refine gate_callee (f := 13) rfl ?_); refine goesL_ (some 205) rfl rfl Try.func13 (by kernel_rfl) rfl #[] rfl (by (try simp only [List.map_toArray, List.map_cons, List.map_nil]); first | done | rfl | (simp only [List.length_drop, List.length_take]; rfl)) ?_; (with_reducible refine (casematelaw05_awake.calls k3  true _ A83.out).mono ?_); rintro e w85 ⟨rfl, hb⟩; refine ⟨_, rfl, ?_⟩; have n0_ := Aside0.mk (Kd.R_below (by (with_reducible repeat (first | apply Kd.R_alloc | apply Kd.R_drewN | apply Kd.R_drew)); exact HO_23.out) hb); have n1_ := Aside0.mk (Kd.R_below (by (with_reducible repeat (first | apply Kd.R_alloc | apply Kd.R_drewN | apply Kd.R_drew)); exact HO_27.out) hb); have n2_ := Aside0.mk (below_step (by repeat (first | (with_reducible first | exact HB.out | apply below_alloc | apply pw_below_drewN | apply below_drew1) | exact HB.out)) hb); clear HO_23; clear HO_27; clear HB; have HO_23 := n0_; have HO_27 := n1_; have HB := n2_; clear n0_ n1_ n2_; (try clear hb); (try clear hb2); (try clear hk); (try clear hi)))
                              go_ret
                              exact ⟨by first | rfl | (simp [errW_none, errW_some] <;> rfl) | (simp [*, errW_none, errW_some] <;> rfl), by repeat (first | (with_reducible first | exact HB.out | apply below_alloc | apply pw_below_drewN | apply below_drew1) | exact HB.out)⟩
                            · replace c84 := Bool.eq_false_iff.mpr c84
                              subst c84
                              have H1 : (some false) = some r := by rw [if_neg (show ¬ (false = true) by decide)] at H; exact H
                              rw [hr_.out] at H1
                              exact absurd H1 (by simp)
              · rw [if_neg c23] at H
                exact absurd H (by simp)
            · rw [if_neg c22] at H
              exact absurd H (by simp)
          · rw [if_neg c16] at H
            exact absurd H (by simp)
        · rw [if_neg c15] at H
          exact absurd H (by simp)
/-- THE ONE PURE STATEMENT of casematelaw05_BchLinear: yours. -/
def casematelaw05_BchLinear.Pure : Prop := ∀ (a0 : Int) (l1 : List Int) (l2 : List Int) (a3 : Int), (Lit.int .i64 a0).wf = true → l1.length ≤ maxLen → l1.length * 1 ≤ 140737488351232 → (∀ x ∈ l1, (Lit.int .u8 x).wf = true) → l2.length ≤ maxLen → l2.length * 1 ≤ 140737488351232 → (∀ x ∈ l2, (Lit.int .u8 x).wf = true) → (Lit.int .i64 a3).wf = true → ∃ k, casematelaw05_BchLinear.f k a0 l1 l2 a3 = some true
theorem casematelaw05_BchLinear.walk (P : casematelaw05_BchLinear.Pure) (a0 : Int) (a1 : Option Addr) (len1 cap1 : Nat) (z1 : List Int) (a2 : Option Addr) (len2 cap2 : Nat) (z2 : List Int) (a3 : Int) (w : World) (w0 : (Lit.int .i64 a0).wf = true) (w1 : (a1 = none ∧ len1 = 0 ∧ cap1 = 0 ∧ z1 = []) ∨ ∃ x, a1 = some x ∧ len1 ≤ cap1 ∧ cap1 ≤ maxLen ∧ z1.length = cap1 ∧ (∀ i, i < z1.length → w.cell? (x.add i) = some (.int .u8 (z1.getD i 0))) ∧ ∀ n ∈ z1, (Lit.int .u8 n).wf = true) (y1 : len1 * 1 ≤ 140737488351232) (w2 : (a2 = none ∧ len2 = 0 ∧ cap2 = 0 ∧ z2 = []) ∨ ∃ x, a2 = some x ∧ len2 ≤ cap2 ∧ cap2 ≤ maxLen ∧ z2.length = cap2 ∧ (∀ i, i < z2.length → w.cell? (x.add i) = some (.int .u8 (z2.getD i 0))) ∧ ∀ n ∈ z2, (Lit.int .u8 n).wf = true) (y2 : len2 * 1 ≤ 140737488351232) (w3 : (Lit.int .i64 a3).wf = true) :
    Calls Try.prog 9 #[.int .i64 a0, .slice a1 len1 cap1, .slice a2 len2 cap2, .int .i64 a3] w fun e w' => e = .returned (.bool true) ∧ Below w.heap.size w w' := by
  obtain ⟨l1, rfl, hr1, hm1, hw1, hc1⟩ := ReadsInt.ofRowC w1
  obtain ⟨l2, rfl, hr2, hm2, hw2, hc2⟩ := ReadsInt.ofRowC w2
  obtain ⟨k, h⟩ := P a0 l1 l2 a3 w0 hm1 y1 hw1 hm2 y2 hw2 w3
  refine (casematelaw05_BchLinear.calls k a0 _ _ l1 _ _ l2 a3 true rfl w (Kd.C_of_reads (d := (0 : Int)) (h1 := fun _ => rfl) hr1) hc1 (Kd.C_of_reads (d := (0 : Int)) (h1 := fun _ => rfl) hr2) hc2 h).mono ?_
  rintro e w' ⟨rfl, hd⟩
  exact ⟨rfl, hd⟩
end Go.Proofs.Ytbaiildpabdlpaa.P

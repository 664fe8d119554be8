/- What Go functions of the translation come to, as plain functions, and that their calls come to just that. No condition but that the plain function answers. (Written by a program of this session.) -/
import Derived.Test.YtbaiildpabdlpaaPx0
import Derived.Test.YtbaiildpabdlpaaPx1
namespace Go.Proofs.Ytbaiildpabdlpaa.P
open Go.RowKit Go.Proofs.YtbaiildpabdlpaaW.PrintWords Go.Proofs.YtbaiildpabdlpaaW.PrintLast Go.Proofs.YtbaiildpabdlpaaW.PrintMore
attribute [local go_sem] max2_int min2_int max_two min_two max_three min_three max_four min_four   -- for this text's walks alone
set_option linter.unusedVariables false
set_option linter.unusedSimpArgs false
def gf_Mul.f (k : Nat) (a0 : Int) (a1 : Int) : Option (Int × Int) := (gf_is.f a0).bind fun t123 => (if t123 = true then ((gf_is.f a1).bind fun t124 => (if t124 = true then ((gf_mul.f k a0 a1).bind fun t125 => (some (t125, 0))) else (some (0, 1)))) else (some (0, 1)))
theorem gf_Mul.mono : ∀ a0 a1 k, LeO (gf_Mul.f k a0 a1) (gf_Mul.f (k + 1) a0 a1) := by
  intro a0 a1 k
  unfold gf_Mul.f
  repeat' first
      | (with_reducible exact gf_mul.mono _ _ _)
      | (with_reducible exact LeO.refl _)
      | (with_reducible exact LeO.none _)
      | (with_reducible refine LeO.ite ?_ ?_)
      | (with_reducible refine LeO.bind ?_ (fun _ => ?_))
      | exact gf_mul.mono _ _ _
      | exact LeO.none _
      | refine LeO.ite ?_ ?_
      | refine LeO.bind ?_ (fun _ => ?_)
set_option maxHeartbeats 8000000 in
set_option maxRecDepth 100000 in
theorem gf_Mul.calls (k : Nat) (a0 : Int) (a1 : Int) (r1 : Int) (r2 : Int) (w : World) (h : gf_Mul.f k a0 a1 = some (r1, r2)) :
    Calls Try.prog 62 #[.int .i64 a0, .int .i64 a1] w fun e w' => e = .returned (.tuple #[.int .i64 r1, .int .i64 r2]) ∧ Drawn0 w w' := by
  have H : ((gf_is.f a0).bind fun t123 => (if t123 = true then ((gf_is.f a1).bind fun t124 => (if t124 = true then ((gf_mul.f k a0 a1).bind fun t125 => (some (t125, 0))) else (some (0, 1)))) else (some (0, 1)))) = some (r1, r2) := h
  clear h
  replace H := Option.bind_eq_some_iff.mp H
  obtain ⟨t123, A30, H⟩ := H
  replace H : (if t123 = true then ((gf_is.f a1).bind fun t124 => (if t124 = true then ((gf_mul.f k a0 a1).bind fun t125 => (some (t125, 0))) else (some (0, 1)))) else (some (0, 1))) = some (r1, r2) := H
  have A3 := Aside0.mk A30
  clear A30
  by_cases c4 : t123 = true
  · subst c4
    have H1 : ((gf_is.f a1).bind fun t124 => (if t124 = true then ((gf_mul.f k a0 a1).bind fun t125 => (some (t125, 0))) else (some (0, 1)))) = some (r1, r2) := by rw [if_pos rfl] at H; exact H
    clear H
    have H := H1
    clear H1
    replace H := Option.bind_eq_some_iff.mp H
    obtain ⟨t124, A50, H⟩ := H
    replace H : (if t124 = true then ((gf_mul.f k a0 a1).bind fun t125 => (some (t125, 0))) else (some (0, 1))) = some (r1, r2) := H
    have A5 := Aside0.mk A50
    clear A50
    by_cases c6 : t124 = true
    · subst c6
      have H1 : ((gf_mul.f k a0 a1).bind fun t125 => (some (t125, 0))) = some (r1, r2) := by rw [if_pos rfl] at H; exact H
      clear H
      have H := H1
      clear H1
      replace H := Option.bind_eq_some_iff.mp H
      obtain ⟨t125, A70, H⟩ := H
      replace H : (some (t125, 0)) = some (r1, r2) := H
      have A7 := Aside0.mk A70
      clear A70
      simp only [Option.some.injEq, Prod.mk.injEq] at H
      obtain ⟨rfl, rfl⟩ := H
      go_enter Try.func62, Try.ntmps62
      go_wp2_with (first | ((with_reducible refine gate_callee (f := 67) rfl ?_); refine goesL_ (some 7) rfl rfl Try.func67 (by kernel_rfl) rfl #[.int .i64 a0] rfl (by (try simp only [List.map_toArray, List.map_cons, List.map_nil]); first | done | rfl | (simp only [List.length_drop, List.length_take]; rfl)) ?_; (with_reducible refine (gf_is.calls a0 true _ A3.out).mono ?_); rintro e w' ⟨rfl, ⟨nd, rfl⟩⟩; refine ⟨_, rfl, ?_⟩) | (go_at_call 67; (with_reducible refine (gf_is.calls a1 true _ A5.out).mono ?_); rintro e w' ⟨rfl, ⟨nd, rfl⟩⟩) | ((with_reducible refine gate_callee (f := 68) rfl ?_); refine goesL_ (some 16) rfl rfl Try.func68 (by kernel_rfl) rfl #[.int .i64 a0, .int .i64 a1] rfl (by (try simp only [List.map_toArray, List.map_cons, List.map_nil]); first | done | rfl | (simp only [List.length_drop, List.length_take]; rfl)) ?_; (with_reducible refine (gf_mul.calls k a0 a1 t125 _ A7.out).mono ?_); rintro e w' ⟨rfl, ⟨nd, rfl⟩⟩; refine ⟨_, rfl, ?_⟩))
      go_ret2
      exact ⟨by first | rfl | (simp; done) | (simp [*]; done), by repeat (first | exact Drawn0.refl _ | apply Drawn0.step)⟩
    · replace c6 := Bool.eq_false_iff.mpr c6
      subst c6
      have H1 : (some (0, 1)) = some (r1, r2) := by rw [if_neg (show ¬ (false = true) by decide)] at H; exact H
      clear H
      have H := H1
      clear H1
      simp only [Option.some.injEq, Prod.mk.injEq] at H
      obtain ⟨rfl, rfl⟩ := H
      go_enter Try.func62, Try.ntmps62
      go_wp2_with (first | ((with_reducible refine gate_callee (f := 67) rfl ?_); refine goesL_ (some 7) rfl rfl Try.func67 (by kernel_rfl) rfl #[.int .i64 a0] rfl (by (try simp only [List.map_toArray, List.map_cons, List.map_nil]); first | done | rfl | (simp only [List.length_drop, List.length_take]; rfl)) ?_; (with_reducible refine (gf_is.calls a0 true _ A3.out).mono ?_); rintro e w' ⟨rfl, ⟨nd, rfl⟩⟩; refine ⟨_, rfl, ?_⟩) | (go_at_call 67; (with_reducible refine (gf_is.calls a1 false _ A5.out).mono ?_); rintro e w' ⟨rfl, ⟨nd, rfl⟩⟩))
      go_ret2
      exact ⟨by first | rfl | (simp; done) | (simp [*]; done), by repeat (first | exact Drawn0.refl _ | apply Drawn0.step)⟩
  · replace c4 := Bool.eq_false_iff.mpr c4
    subst c4
    have H1 : (some (0, 1)) = some (r1, r2) := by rw [if_neg (show ¬ (false = true) by decide)] at H; exact H
    clear H
    have H := H1
    clear H1
    simp only [Option.some.injEq, Prod.mk.injEq] at H
    obtain ⟨rfl, rfl⟩ := H
    go_enter Try.func62, Try.ntmps62
    go_wp2_with (first | ((with_reducible refine gate_callee (f := 67) rfl ?_); refine goesL_ (some 7) rfl rfl Try.func67 (by kernel_rfl) rfl #[.int .i64 a0] rfl (by (try simp only [List.map_toArray, List.map_cons, List.map_nil]); first | done | rfl | (simp only [List.length_drop, List.length_take]; rfl)) ?_; (with_reducible refine (gf_is.calls a0 false _ A3.out).mono ?_); rintro e w' ⟨rfl, ⟨nd, rfl⟩⟩; refine ⟨_, rfl, ?_⟩))
    go_ret2
    exact ⟨by first | rfl | (simp; done) | (simp [*]; done), by repeat (first | exact Drawn0.refl _ | apply Drawn0.step)⟩
mutual
def poly_is.l0 : Nat → List (List Int) → Int → Int → Option (Bool)
  | 0, _, _, _ => none
  | k + 1, x9, x10, x11 => if x11 < x10 then (if 0 ≤ x11 then (if x11 < (x9.length : Int) then (poly_is.l1 k x9 x10 x11 (rd_L2 x9 x11) ((rd_L2 x9 x11).length : Int) 0) else (none)) else (none)) else (some true)
def poly_is.l1 : Nat → List (List Int) → Int → Int → List Int → Int → Int → Option (Bool)
  | 0, _, _, _, _, _, _ => none
  | k + 1, x9, x10, x11, x15, x16, x17 => if x17 < x16 then (if 0 ≤ x17 then (if x17 < (x15.length : Int) then ((gf_Mul.f k (rd x15 x17) 0).bind fun bt128 => (if bt128.2 = 0 then (poly_is.l1 k x9 x10 x11 x15 x16 (wrap64 (x17 + 1))) else (some false))) else (none)) else (none)) else (poly_is.l0 k x9 x10 (wrap64 (x11 + 1)))
end
def poly_is.f (k : Nat) (l0 : List (List Int)) : Option (Bool) := poly_is.l0 k l0 (l0.length : Int) 0
theorem poly_is.mono_l : ∀ k, (∀ y0 y1 y2, LeO (poly_is.l0 k y0 y1 y2) (poly_is.l0 (k + 1) y0 y1 y2)) ∧ (∀ y0 y1 y2 y3 y4 y5, LeO (poly_is.l1 k y0 y1 y2 y3 y4 y5) (poly_is.l1 (k + 1) y0 y1 y2 y3 y4 y5))
  | 0 => ⟨fun _ _ _ r h => by simp [poly_is.l0] at h, fun _ _ _ _ _ _ r h => by simp [poly_is.l1] at h⟩
  | k + 1 => by
    obtain ⟨ih0, ih1⟩ := poly_is.mono_l k
    refine ⟨?_, ?_⟩
    · intro y0 y1 y2
      unfold poly_is.l0
      repeat' first
      | (with_reducible exact ih0 _ _ _)
      | (with_reducible exact ih1 _ _ _ _ _ _)
      | (with_reducible exact gf_Mul.mono _ _ _)
      | (with_reducible exact LeO.refl _)
      | (with_reducible exact LeO.none _)
      | (with_reducible refine LeO.ite ?_ ?_)
      | (with_reducible refine LeO.bind ?_ (fun _ => ?_))
      | exact ih0 _ _ _
      | exact ih1 _ _ _ _ _ _
      | exact gf_Mul.mono _ _ _
      | exact LeO.none _
      | refine LeO.ite ?_ ?_
      | refine LeO.bind ?_ (fun _ => ?_)
    · intro y0 y1 y2 y3 y4 y5
      unfold poly_is.l1
      repeat' first
      | (with_reducible exact ih0 _ _ _)
      | (with_reducible exact ih1 _ _ _ _ _ _)
      | (with_reducible exact gf_Mul.mono _ _ _)
      | (with_reducible exact LeO.refl _)
      | (with_reducible exact LeO.none _)
      | (with_reducible refine LeO.ite ?_ ?_)
      | (with_reducible refine LeO.bind ?_ (fun _ => ?_))
      | exact ih0 _ _ _
      | exact ih1 _ _ _ _ _ _
      | exact gf_Mul.mono _ _ _
      | exact LeO.none _
      | refine LeO.ite ?_ ?_
      | refine LeO.bind ?_ (fun _ => ?_)
theorem poly_is.mono : ∀ a0 k, LeO (poly_is.f k a0) (poly_is.f (k + 1) a0) := by
  intro a0 k
  obtain ⟨ih0, ih1⟩ := poly_is.mono_l k
  unfold poly_is.f
  repeat' first
      | (with_reducible exact ih0 _ _ _)
      | (with_reducible exact ih1 _ _ _ _ _ _)
      | (with_reducible exact gf_Mul.mono _ _ _)
      | (with_reducible exact LeO.refl _)
      | (with_reducible exact LeO.none _)
      | (with_reducible refine LeO.ite ?_ ?_)
      | (with_reducible refine LeO.bind ?_ (fun _ => ?_))
      | exact ih0 _ _ _
      | exact ih1 _ _ _ _ _ _
      | exact gf_Mul.mono _ _ _
      | exact LeO.none _
      | refine LeO.ite ?_ ?_
      | refine LeO.bind ?_ (fun _ => ?_)
set_option maxHeartbeats 8000000 in
set_option maxRecDepth 100000 in
theorem poly_is.calls (k : Nat) (A0 : Option Addr) (c0 : Nat) (l0 : List (List Int)) (r : Bool) (w : World) (hr0 : Kd.C (Kd.slice 3 (Kd.int .i64)) w A0 l0.length l0) (hc0 : l0.length ≤ c0) (h : poly_is.f k l0 = some r) :
    Calls Try.prog 70 #[.slice A0 l0.length c0] w fun e w' => e = .returned (.bool r) ∧ Drawn0 w w' := by
  have HR0 := Aside0.mk hr0
  have HC0 := Aside0.mk hc0
  clear hr0 hc0
  have H : (poly_is.l0 k l0 (l0.length : Int) 0) = some r := h
  clear h
  have H' := Aside0.mk H
  clear H
  go_enter Try.func70, Try.ntmps70
  go_wp2
  go_loopg [11] k (fun kq v11 w' => ∃ (x11_1 : Int), v11 = .int .i64 x11_1 ∧ Aside0 (poly_is.l0 kq l0 (l0.length : Int) x11_1 = some r) ∧ Aside0 (kq ≤ k) ∧ Drawn0 w w')
  case atStart => exact ⟨(0), (by first | rfl | (simp; done) | (simp [*]; done)), H', ⟨Nat.le_refl _⟩, by repeat (first | exact Drawn0.refl _ | apply Drawn0.step)⟩
  case round =>
    clear H'
    obtain ⟨x11_1, rfl, HA, HK1, ⟨m1, rfl⟩⟩ := hrel
    cases gk with
    | zero => exact absurd HA.out (by simp [poly_is.l0])
    | succ k1 =>
      have H := HA.out
      clear HA
      simp only [poly_is.l0] at H
      by_cases c2 : x11_1 < (l0.length : Int)
      · rw [if_pos c2] at H
        have c2b0 : decide (x11_1 < (l0.length : Int)) = true := decide_eq_true c2
        clear c2
        by_cases c3 : 0 ≤ x11_1
        · rw [if_pos c3] at H
          have c3b0 : decide (0 ≤ x11_1) = true := decide_eq_true c3
          clear c3
          by_cases c4 : x11_1 < (l0.length : Int)
          · rw [if_pos c4] at H
            have c4b0 : decide (x11_1 < (l0.length : Int)) = true := decide_eq_true c4
            clear c4
            have H' := Aside0.mk H
            clear H
            have p126 : 0 ≤ (x11_1 : Int) := of_decide_eq_true (by first | (with_reducible assumption) | assumption)
            have q126 : x11_1 < (l0.length : Int) := of_decide_eq_true (by first | (with_reducible assumption) | assumption)
            obtain ⟨ad126, A126_0, c126_0, e126, hx126_0, hl126_0, hi126_0⟩ := at_L2 HR0.out x11_1 p126 q126
            cases e126
            have HR126_0 := Aside0.mk hi126_0
            have HC126_0 := Aside0.mk hl126_0
            clear hi126_0 hl126_0
            replace p126 := eq_true p126
            replace q126 := eq_true q126
            go_wp2
            go_loopg [17] k1 (fun kq v17 w' => ∃ (x17_2 : Int), v17 = .int .i64 x17_2 ∧ Aside0 (poly_is.l1 kq l0 (l0.length : Int) x11_1 (rd_L2 l0 x11_1) ((rd_L2 l0 x11_1).length : Int) x17_2 = some r) ∧ Aside0 (kq ≤ k1) ∧ Drawn0 w w')
            case atStart => exact ⟨(0), (by first | rfl | (simp; done) | (simp [*]; done)), H', ⟨Nat.le_refl _⟩, by repeat (first | exact Drawn0.refl _ | apply Drawn0.step)⟩
            case round =>
              clear H'
              try clear c1
              try clear p1
              try clear q1
              try clear hx1
              try clear c2
              try clear c2b0
              try clear p2
              try clear c3
              try clear c3b0
              try clear c4
              try clear c4b0
              try clear hx126_0
              try clear p126
              try clear q126
              obtain ⟨x17_2, rfl, HA, HK2, ⟨m2, rfl⟩⟩ := hrel
              cases gk with
              | zero => exact absurd HA.out (by simp [poly_is.l1])
              | succ k2 =>
                have H := HA.out
                clear HA
                simp only [poly_is.l1] at H
                by_cases c5 : x17_2 < ((rd_L2 l0 x11_1).length : Int)
                · rw [if_pos c5] at H
                  have c5b0 : decide (x17_2 < ((rd_L2 l0 x11_1).length : Int)) = true := decide_eq_true c5
                  clear c5
                  by_cases c6 : 0 ≤ x17_2
                  · rw [if_pos c6] at H
                    have c6b0 : decide (0 ≤ x17_2) = true := decide_eq_true c6
                    clear c6
                    by_cases c7 : x17_2 < ((rd_L2 l0 x11_1).length : Int)
                    · rw [if_pos c7] at H
                      have c7b0 : decide (x17_2 < ((rd_L2 l0 x11_1).length : Int)) = true := decide_eq_true c7
                      clear c7
                      replace H := Option.bind_eq_some_iff.mp H
                      obtain ⟨⟨t128, t129⟩, A80, H⟩ := H
                      replace H : (if t129 = 0 then (poly_is.l1 k2 l0 (l0.length : Int) x11_1 (rd_L2 l0 x11_1) ((rd_L2 l0 x11_1).length : Int) (wrap64 (x17_2 + 1))) else (some false)) = some r := H
                      have A8 := Aside0.mk A80
                      clear A80
                      by_cases c9 : t129 = 0
                      · rw [if_pos c9] at H
                        have c9b0 : (t129 == 0) = true := beq_iff_eq.mpr c9
                        have c9b1 : (t129 != 0) = false := bne_eq_false_iff_eq.mpr c9
                        clear c9
                        have H' := Aside0.mk H
                        clear H
                        have p127 : 0 ≤ (x17_2 : Int) := of_decide_eq_true (by first | (with_reducible assumption) | assumption)
                        have q127 : x17_2 < ((rd_L2 l0 x11_1).length : Int) := of_decide_eq_true (by first | (with_reducible assumption) | assumption)
                        obtain ⟨ad127, e127, hx127_0⟩ := Kd.at_int HR126_0.out x17_2 p127 q127
                        cases e127
                        replace p127 := eq_true p127
                        replace q127 := eq_true q127
                        go_wp2_with (first | ((with_reducible refine gate_callee (f := 62) rfl ?_); refine goesL_ (some 23) rfl rfl Try.func62 (by kernel_rfl) rfl #[.int .i64 (rd (rd_L2 l0 x11_1) x17_2), .int .i64 0] rfl (by (try simp only [List.map_toArray, List.map_cons, List.map_nil]); first | done | rfl | (simp only [List.length_drop, List.length_take]; rfl)) ?_; (with_reducible refine (gf_Mul.calls k2 (rd (rd_L2 l0 x11_1) x17_2) 0 t128 t129 _ A8.out).mono ?_); rintro e w' ⟨rfl, ⟨nd, rfl⟩⟩; refine ⟨_, rfl, ?_⟩))
                        go_roundg k2
                        case measure => have := HK1.out; have := HK2.out; omega
                        case rel => exact ⟨(wrap64 (x17_2 + 1)), (by first | rfl | (simp; done) | (simp [*]; done)), H', ⟨by have := HK1.out; have := HK2.out; omega⟩, by repeat (first | exact Drawn0.refl _ | apply Drawn0.step)⟩
                      · rw [if_neg c9] at H
                        have c9b0 : (t129 == 0) = false := beq_eq_false_iff_ne.mpr c9
                        have c9b1 : (t129 != 0) = true := bne_iff_ne.mpr c9
                        obtain rfl := Option.some.inj H
                        have p127 : 0 ≤ (x17_2 : Int) := of_decide_eq_true (by first | (with_reducible assumption) | assumption)
                        have q127 : x17_2 < ((rd_L2 l0 x11_1).length : Int) := of_decide_eq_true (by first | (with_reducible assumption) | assumption)
                        obtain ⟨ad127, e127, hx127_0⟩ := Kd.at_int HR126_0.out x17_2 p127 q127
                        cases e127
                        replace p127 := eq_true p127
                        replace q127 := eq_true q127
                        go_wp2_with (first | ((with_reducible refine gate_callee (f := 62) rfl ?_); refine goesL_ (some 23) rfl rfl Try.func62 (by kernel_rfl) rfl #[.int .i64 (rd (rd_L2 l0 x11_1) x17_2), .int .i64 0] rfl (by (try simp only [List.map_toArray, List.map_cons, List.map_nil]); first | done | rfl | (simp only [List.length_drop, List.length_take]; rfl)) ?_; (with_reducible refine (gf_Mul.calls k2 (rd (rd_L2 l0 x11_1) x17_2) 0 t128 t129 _ A8.out).mono ?_); rintro e w' ⟨rfl, ⟨nd, rfl⟩⟩; refine ⟨_, rfl, ?_⟩))
                        go_ret
                        exact ⟨by first | rfl | (simp; done) | (simp [*]; done), by repeat (first | exact Drawn0.refl _ | apply Drawn0.step)⟩
                    · rw [if_neg c7] at H
                      exact absurd H (by simp)
                  · rw [if_neg c6] at H
                    exact absurd H (by simp)
                · rw [if_neg c5] at H
                  have c5b0 : decide (x17_2 < ((rd_L2 l0 x11_1).length : Int)) = false := decide_eq_false c5
                  clear c5
                  have H' := Aside0.mk H
                  clear H
                  go_wp2
                  go_roundg k2
                  case measure => have := HK1.out; have := HK2.out; omega
                  case rel => exact ⟨(wrap64 (x11_1 + 1)), (by first | rfl | (simp; done) | (simp [*]; done)), H', ⟨by have := HK1.out; have := HK2.out; omega⟩, by repeat (first | exact Drawn0.refl _ | apply Drawn0.step)⟩
          · rw [if_neg c4] at H
            exact absurd H (by simp)
        · rw [if_neg c3] at H
          exact absurd H (by simp)
      · rw [if_neg c2] at H
        have c2b0 : decide (x11_1 < (l0.length : Int)) = false := decide_eq_false c2
        clear c2
        obtain rfl := Option.some.inj H
        go_wp2
        go_ret
        exact ⟨by first | rfl | (simp; done) | (simp [*]; done), by repeat (first | exact Drawn0.refl _ | apply Drawn0.step)⟩
def poly_norm.l0 : Nat → List Int → Option (List Int)
  | 0, _ => none
  | k + 1, x0 => if (x0.length : Int) > 0 then (if 0 ≤ (wrap64 ((x0.length : Int) - 1)) then (if (wrap64 ((x0.length : Int) - 1)) < (x0.length : Int) then (if (rd x0 (wrap64 ((x0.length : Int) - 1))) = 0 then (if (wrap64 ((x0.length : Int) - 1)) ≤ (x0.length : Int) then (poly_norm.l0 k (x0.take ((wrap64 ((x0.length : Int) - 1)) : Int).toNat)) else (none)) else (some x0)) else (none)) else (none)) else (some x0)
def poly_norm.f (k : Nat) (l0 : List Int) : Option (List Int) := poly_norm.l0 k l0
def poly_mul.f (k : Nat) (a0 : Int) (a1 : Int) : Option (Int) := (gf_Mul.f k a0 a1).bind fun bt136 => (some bt136.1)
theorem poly_mul.mono : ∀ a0 a1 k, LeO (poly_mul.f k a0 a1) (poly_mul.f (k + 1) a0 a1) := by
  intro a0 a1 k
  unfold poly_mul.f
  repeat' first
      | (with_reducible exact gf_Mul.mono _ _ _)
      | (with_reducible exact LeO.refl _)
      | (with_reducible exact LeO.none _)
      | (with_reducible refine LeO.ite ?_ ?_)
      | (with_reducible refine LeO.bind ?_ (fun _ => ?_))
      | exact gf_Mul.mono _ _ _
      | exact LeO.none _
      | refine LeO.ite ?_ ?_
      | refine LeO.bind ?_ (fun _ => ?_)
set_option maxHeartbeats 8000000 in
set_option maxRecDepth 100000 in
theorem poly_mul.calls (k : Nat) (a0 : Int) (a1 : Int) (r : Int) (w : World) (h : poly_mul.f k a0 a1 = some r) :
    Calls Try.prog 76 #[.int .i64 a0, .int .i64 a1] w fun e w' => e = .returned (.int .i64 r) ∧ Drawn0 w w' := by
  have H : ((gf_Mul.f k a0 a1).bind fun bt136 => (some bt136.1)) = some r := h
  clear h
  replace H := Option.bind_eq_some_iff.mp H
  obtain ⟨⟨t136, t137⟩, A30, H⟩ := H
  replace H : (some t136) = some r := H
  have A3 := Aside0.mk A30
  clear A30
  obtain rfl := Option.some.inj H
  go_enter Try.func76, Try.ntmps76
  go_wp2_with (first | ((with_reducible refine gate_callee (f := 62) rfl ?_); refine goesL_ (some 10) rfl rfl Try.func62 (by kernel_rfl) rfl #[.int .i64 a0, .int .i64 a1] rfl (by (try simp only [List.map_toArray, List.map_cons, List.map_nil]); first | done | rfl | (simp only [List.length_drop, List.length_take]; rfl)) ?_; (with_reducible refine (gf_Mul.calls k a0 a1 t136 t137 _ A3.out).mono ?_); rintro e w' ⟨rfl, ⟨nd, rfl⟩⟩; refine ⟨_, rfl, ?_⟩))
  go_ret
  exact ⟨by first | rfl | (simp; done) | (simp [*]; done), by repeat (first | exact Drawn0.refl _ | apply Drawn0.step)⟩
theorem ginfo_int : (Try.prog.info? 3).map (fun i => (i.zero, i.size, i.bytes)) = some (some (.int .i64 0), 1, 8) := by kernel_rfl
/-- out[i] ^= a, out in a box. -/
theorem put_calls (B g i n cap : Nat) (x a : Int) (w : World) (hb : w.cell? ⟨B, 0, none⟩ = some (.slice (some ⟨g, 0, none⟩) n cap)) (hi : i < n) (hm : n ≤ 9223372036854775807) (hx : w.cell? ⟨g, i, none⟩ = some (.int .i64 x)) (hf : w.frozen? ⟨g, i, none⟩ = false) :
    Calls Try.prog 74 #[.int .i64 (i : Int), .int .i64 a, .pointer (some ⟨B, 0, none⟩)] w fun e w' => e = .returned (.tuple #[]) ∧ w' = w.setCell ⟨g, i, none⟩ (.int .i64 (Go.bits .xor .i64 x a)) := by
  go_enter Try.func74, Try.ntmps74
  go_wp2
  go_end0
  exact ⟨rfl, rfl⟩
theorem rd_nat' (xs : List Int) (i : Nat) : rd xs (i : Int) = xs.getD i 0 := by unfold rd; rw [Int.toNat_natCast]
/-- What norm answers: how many are left. -/
def NormAns (l : List Int) (A : Option Addr) (c : Nat) (w : World) (e : Ending) (w' : World) : Prop := ∃ m : Nat, m ≤ l.length ∧ e = .returned (.slice A m c) ∧ (∀ j, m ≤ j → l.getD j 0 = 0) ∧ (0 < m → l.getD (m - 1) 0 ≠ 0) ∧ w = w'
theorem norm_calls (A : Option Addr) (c : Nat) (l : List Int) (w : World) (hr : Kd.C (Kd.int .i64) w A l.length l) (hc : l.length ≤ c) :
    Calls Try.prog 75 #[.slice A l.length c] w (NormAns l A c w) := by
  have hm : l.length ≤ 9223372036854775807 := hr.2.1
  go_enter Try.func75, Try.ntmps75
  go_wp2
  go_loop [0] (fun v => ∃ m : Nat, m ≤ l.length ∧ v = .slice A m c ∧ (∀ j, m ≤ j → l.getD j 0 = 0)) (fun v => match v with | .slice _ m _ => m | _ => 0)
  case atStart => exact ⟨l.length, Nat.le_refl _, rfl, fun j hj => by simp [List.getElem?_eq_none hj]⟩
  case round =>
    obtain ⟨m, hml, rfl, hz⟩ := hrel
    have HZ := Aside0.mk hz
    clear hz
    by_cases h0 : 0 < m
    · obtain ⟨ad, rfl, hx0⟩ := Kd.at_int hr ((m - 1 : Nat) : Int) (by omega) (by omega)
      obtain ⟨z, hz⟩ : ∃ z, z = l.getD (m - 1) 0 := ⟨_, rfl⟩
      have hx : w.cell? (ad.add (m - 1)) = some (.int .i64 z) := by
        have := hx0
        rw [rd_nat', Int.toNat_natCast] at this
        rw [hz]; exact this
      have HV := Aside0.mk hz
      have hd : decide (0 < (m : Int)) = true := decide_eq_true (by omega)
      have hd2 : decide (0 < m) = true := decide_eq_true h0
      clear hx0 hz
      by_cases hz0 : z = 0
      · have hb : (z == 0) = true := beq_iff_eq.2 hz0
        have H0 := Aside0.mk hz0
        clear hz0
        go_wp2
        go_round
        case rel =>
          refine ⟨m - 1, by omega, rfl, fun j hj => ?_⟩
          by_cases e : j = m - 1
          · subst e; rw [← HV.out, H0.out]
          · exact HZ.out j (by omega)
        case measure => show m - 1 < m; omega
      · have hb : (z == 0) = false := beq_eq_false_iff_ne.2 hz0
        have H0 := Aside0.mk hz0
        clear hz0
        go_wp2
        go_ret
        exact ⟨m, hml, rfl, HZ.out, fun _ => by rw [← HV.out]; exact H0.out, rfl⟩
    · have hm0 : m = 0 := by omega
      subst hm0
      go_wp2
      go_ret
      exact ⟨0, hml, rfl, HZ.out, fun h => absurd h (by omega), rfl⟩
/-- A row of the call's own, behind a box that holds it. -/
structure PutSt (w0 : World) (B g cap : Nat) (l : List Int) (w : World) : Prop where
  box : w.heap[B]? = some (.cells #[.slice (some ⟨g, 0, none⟩) l.length cap] 38 (0, 0))
  row : w.ownsRow w0.heap.size 3 1 (.slice (some ⟨g, 0, none⟩) l.length cap) l.length (encs (Value.int .i64) l)
  below : Below w0.heap.size w0 w
  ge : w0.heap.size ≤ B
  ne : g ≠ B
theorem PutSt.drewN {w0 : World} {B g cap : Nat} {l : List Int} {w : World} (h : PutSt w0 B g cap l w) (n : Nat) : PutSt w0 B g cap l (w.drewN n) :=
  ⟨h.box, own_move h.row (fun _ _ => rfl), pw_below_drewN h.below n, h.ge, h.ne⟩
theorem PutSt.maxl {w0 : World} {B g cap : Nat} {l : List Int} {w : World} (h : PutSt w0 B g cap l w) : l.length ≤ 9223372036854775807 ∧ l.length ≤ cap := by
  rcases h.row.2 with ⟨h', _⟩ | ⟨g', cap', cur, h', _, hh, h1, h2, _⟩
  · cases h'
  · have : cap = cap' := by injection h'
    subst this
    unfold maxLen at h2
    omega
theorem PutSt.cells {w0 : World} {B g cap : Nat} {l : List Int} {w : World} (h : PutSt w0 B g cap l w) : w.cell? ⟨B, 0, none⟩ = some (.slice (some ⟨g, 0, none⟩) l.length cap) := by
  rw [cell_of_row w B _ _ _ _ h.box]; rfl
theorem PutSt.at {w0 : World} {B g cap : Nat} {l : List Int} {w : World} (h : PutSt w0 B g cap l w) {i : Nat} (hi : i < l.length) : w.cell? ⟨g, i, none⟩ = some (.int .i64 (l.getD i 0)) ∧ w.frozen? ⟨g, i, none⟩ = false := by
  have := own_at_of (enc := Value.int .i64) (d := (0 : Int)) h.row (i : Int) (by omega) (by omega)
  simpa [rdOf] using this
theorem PutSt.set {w0 : World} {B g cap : Nat} {l : List Int} {w : World} (h : PutSt w0 B g cap l w) (i : Nat) (x : Int) : PutSt w0 B g cap (l.set i x) (w.setCell ⟨g, i, none⟩ (.int .i64 x)) := by
  have := own_store_of (enc := Value.int .i64) h.row (i : Int) x
  rw [Int.toNat_natCast] at this
  have hg : w0.heap.size ≤ g := own_base h.row g (by simp [Value.ownBlock])
  refine ⟨?_, by rw [List.length_set]; exact this.1, h.below.setCell (p := ⟨g, i, none⟩) hg _, h.ge, h.ne⟩
  rw [List.length_set]
  exact (Below.heap_setCell w ⟨g, i, none⟩ _ B (fun e => h.ne e.symm)).trans h.box
theorem put_st {w0 : World} {B g cap : Nat} {l : List Int} {w : World} (h : PutSt w0 B g cap l w) (i : Nat) (hi : i < l.length) (a : Int) :
    Calls Try.prog 74 #[.int .i64 (i : Int), .int .i64 a, .pointer (some ⟨B, 0, none⟩)] w fun e w' => e = .returned (.tuple #[]) ∧ PutSt w0 B g cap (l.set i (Go.bits .xor .i64 (l.getD i 0) a)) w' := by
  refine (put_calls B g i l.length cap (l.getD i 0) a w h.cells hi h.maxl.1 (h.at hi).1 (h.at hi).2).mono ?_
  rintro e w' ⟨rfl, rfl⟩
  exact ⟨rfl, h.set i _⟩
def layL (m : Int → Option Int) : List Int → Nat → List Int → Option (List Int)
  | [], _, l => some l
  | a :: p, i, l => (m a).bind fun t => if i < l.length then layL m p (i + 1) (l.set i (Go.bits .xor .i64 (l.getD i 0) t)) else none
theorem lay_calls (k : Nat) (w0 : World) (B g cap : Nat) (A : Option Addr) (c : Nat) (p : List Int) (hr : Kd.C (Kd.int .i64) w0 A p.length p) (from_ : Nat) (by_ : Int) (l r : List Int) (w : World) (hst : PutSt w0 B g cap l w) (h : layL (fun a => poly_mul.f k a by_) p from_ l = some r) :
    Calls Try.prog 73 #[.func (.func 74) #[] #[.pointer (some ⟨B, 0, none⟩)], .slice A p.length c, .int .i64 (from_ : Int), .int .i64 by_] w fun e w' => e = .returned (.tuple #[]) ∧ PutSt w0 B g cap r w' := by
  have hpm : p.length ≤ 9223372036854775807 := hr.2.1
  have HR := Aside0.mk hr
  have HS := Aside0.mk hst
  have HL := Aside0.mk h
  clear hr hst h
  go_enter Try.func73, Try.ntmps73
  go_wp2
  go_loopw [12] (fun i w' => ∃ (j : Nat) (lj : List Int), j ≤ p.length ∧ i = .int .i64 (j : Int) ∧ Aside0 (PutSt w0 B g cap lj w') ∧ Aside0 (layL (fun a => poly_mul.f k a by_) (p.drop j) (from_ + j) lj = some r)) (fun i _ => p.length - (intOf i).toNat)
  case atStart => exact ⟨0, l, Nat.zero_le _, rfl, HS, HL⟩
  case round =>
    clear HS HL
    obtain ⟨j, lj, hj, rfl, HS, HL⟩ := hrel
    by_cases hlt : j < p.length
    · have hd : p.drop j = p[j] :: p.drop (j + 1) := List.drop_eq_getElem_cons hlt
      have HL' := HL.out
      rw [hd] at HL'
      simp only [layL] at HL'
      obtain ⟨t, ht, HL2⟩ := Option.bind_eq_some_iff.1 HL'
      by_cases hin : from_ + j < lj.length
      · rw [if_pos hin] at HL2
        have HT := Aside0.mk ht
        have HN := Aside0.mk HL2
        have hmx := HS.out.maxl.1
        obtain ⟨ad, hA, hx0⟩ := Kd.at_int (Kd.C_below HR.out HS.out.below) (j : Int) (by omega) (by omega)
        have hx : wr.cell? (ad.add j) = some (.int .i64 p[j]) := by
          have := hx0
          rw [rd_nat', Int.toNat_natCast] at this
          rw [this]; simp [hlt]
        have HA := Aside0.mk hA
        subst hA
        clear hx0 HL2 HL' ht hd HL
        have hb1 : (from_ : Int) + (j : Int) ≤ 9223372036854775807 := by omega
        generalize p[j] = pj at HT hx
        have hlt' : decide ((j : Int) < (p.length : Int)) = true := decide_eq_true (by omega)
        go_wp2_with (first | (go_at_call 76; (with_reducible refine (poly_mul.calls k pj by_ t _ HT.out).mono ?_); rintro e w' ⟨rfl, ⟨nd, rfl⟩⟩) | (go_at_call 74; have Hq := Aside0.mk (put_st (HS.out.drewN nd) (from_ + j) hin t); refine Hq.out.mono ?_; rintro e w' ⟨rfl, hs⟩; have HS2 := Aside0.mk hs; clear hs))
        go_roundw
        case rel =>
          refine ⟨j + 1, _, by omega, by go_num, HS2, ?_⟩
          have := HN.out
          rw [show from_ + j + 1 = from_ + (j + 1) from by omega] at this
          exact ⟨this⟩
        case measure => simp [intOf]; omega
      · rw [if_neg hin] at HL2; exact absurd HL2 (by simp)
    · have hje : j = p.length := by omega
      subst hje
      have HL' := HL.out
      rw [List.drop_length] at HL'
      have e := Option.some.inj HL'
      have HE := Aside0.mk e
      clear HL HL' e hlt
      have hlt' : decide ((p.length : Int) < (p.length : Int)) = false := by simp
      go_wp2
      go_end0
      exact ⟨rfl, by rw [← HE.out]; exact HS.out⟩
def normN (l : List Int) : Nat → Nat
  | 0 => 0
  | n + 1 => if l.getD n 0 = 0 then normN l n else n + 1
theorem normN_of {l : List Int} {m : Nat} (hz : ∀ j, m ≤ j → l.getD j 0 = 0) (hn : 0 < m → l.getD (m - 1) 0 ≠ 0) : ∀ n, m ≤ n → normN l n = m
  | 0, h => by have : m = 0 := by omega
               subst this; rfl
  | n + 1, h => by
    unfold normN
    by_cases e : m = n + 1
    · subst e; have := hn (by omega); rw [Nat.add_sub_cancel] at this; rw [if_neg this]
    · rw [if_pos (hz n (by omega))]; exact normN_of hz hn n (by omega)
def fin (l : List Int) : List Int := l.take (normN l l.length)
theorem made_form {w : World} {base n : Nat} {ok : Nat → Prop} {v : Value} {m : Nat} (h : (Kd.int .i64).R 3 w base ok v (List.replicate ((m : Int)).toNat 0)) (hb : ∃ b, v.ownBlock = some b ∧ n ≤ b) :
    ∃ g cap, v = .slice (some ⟨g, 0, none⟩) m cap ∧ base ≤ g ∧ n ≤ g ∧ g < w.heap.size ∧ w.ownsRow base 3 1 (.slice (some ⟨g, 0, none⟩) m cap) m (encs (Value.int .i64) (List.replicate m 0)) := by
  obtain ⟨b, hb, hle⟩ := hb
  have ho := Kd.own_of_R h
  rw [Int.toNat_natCast, List.length_replicate] at ho
  have hlt := own_lt ho b hb
  rcases ho.2 with ⟨rfl, _⟩ | ⟨g, cap, cur, rfl, hg, hh, _⟩
  · simp [Value.ownBlock] at hb
  · obtain rfl : g = b := by simpa [Value.ownBlock] using hb
    exact ⟨g, cap, rfl, hg, hle, hlt, ho⟩
theorem PutSt.start {W w5 : World} {n g cap : Nat} (ho : w5.ownsRow W.heap.size 3 1 (.slice (some ⟨g, 0, none⟩) n cap) n (encs (Value.int .i64) (List.replicate n 0))) (hb : Below W.heap.size W w5) (hg : g < w5.heap.size) :
    PutSt W w5.heap.size g cap (List.replicate n 0) (w5.alloc (.cells #[.slice (some ⟨g, 0, none⟩) n cap] 38)) := by
  refine ⟨?_, ?_, hb.alloc hb.size _, hb.size, by omega⟩
  · rw [List.length_replicate]; exact heap_alloc_new w5 _
  · rw [List.length_replicate]; exact ho.alloc _
theorem PutSt.reads {w0 : World} {B g cap : Nat} {l : List Int} {w : World} (h : PutSt w0 B g cap l w) : Kd.C (Kd.int .i64) w (some ⟨g, 0, none⟩) l.length l := by
  obtain ⟨A, c, he, _, hc⟩ := Kd.R_reads (Kd.R_of_own (h1 := fun _ => rfl) h.row (ok := fun _ => True) (fun _ _ => trivial))
  have : A = some ⟨g, 0, none⟩ := by injection he with h1 h2 h3; exact h1.symm
  rw [← this]; exact hc
theorem PutSt.cut {w0 : World} {B g cap : Nat} {l : List Int} {w : World} (h : PutSt w0 B g cap l w) {m : Nat} (hm : m ≤ l.length) (hz : ∀ j, m ≤ j → l.getD j 0 = 0) (hn : 0 < m → l.getD (m - 1) 0 ≠ 0) :
    m = (fin l).length ∧ w.ownsRow w0.heap.size 3 1 (.slice (some ⟨g, 0, none⟩) (fin l).length cap) (fin l).length (encs (Value.int .i64) (fin l)) := by
  have h1 := own_take h.row hm
  have h2 : fin l = l.take m := by unfold fin; rw [normN_of hz hn l.length hm]
  have h3 : (encs (Value.int .i64) l).take (m * 1) = encs (Value.int .i64) (l.take m) := by rw [Nat.mul_one]; simp [encs, List.map_take]
  rw [h3] at h1
  have h4 : (l.take m).length = m := by rw [List.length_take]; omega
  rw [h2, h4]
  exact ⟨rfl, h1⟩
/-- What build answers. -/
def BuildAns (W : World) (r : List Int) (e : Ending) (w' : World) : Prop := ∃ g cap : Nat, e = .returned (.slice (some ⟨g, 0, none⟩) (fin r).length cap) ∧ w'.ownsRow W.heap.size 3 1 (.slice (some ⟨g, 0, none⟩) (fin r).length cap) (fin r).length (encs (Value.int .i64) (fin r)) ∧ Below W.heap.size W w'
theorem layL_mono {m m' : Int → Option Int} (h : ∀ a, LeO (m a) (m' a)) : ∀ (p : List Int) (i : Nat) (l : List Int), LeO (layL m p i l) (layL m' p i l)
  | [], _, _ => LeO.refl _
  | a :: p, i, l => by
    unfold layL
    refine LeO.bind (h a) (fun t => LeO.ite (layL_mono h p _ _) (LeO.none _))
theorem box_at {W W1 : World} {b : Nat} {v : Value} (hb : Below W.heap.size W W1) (hc : W.cell? ⟨b, 0, none⟩ = some v) : W1.cell? ⟨b, 0, none⟩ = some v := (hb.cell (World.block_lt_of_cell? W _ hc)).trans hc
theorem C_two {w W : World} {A A' : Option Addr} {c c' b : Nat} {l l' : List Int} (hr : Kd.C (Kd.int .i64) w A l.length l) (hc : l.length ≤ c) (hr' : Kd.C (Kd.int .i64) w A' l'.length l') (hc' : l'.length ≤ c') (hB : Below w.heap.size w W) (hcell : W.cell? ⟨b, 0, none⟩ = some (.slice A l.length c)) (hcell' : W.cell? ⟨b, 1, none⟩ = some (.slice A' l'.length c')) :
    Kd.C (Kd.slice 3 (Kd.int .i64)) W (some ⟨b, 0, none⟩) 2 [l, l'] := by
  refine ⟨rfl, by omega, fun _ => ⟨_, rfl, fun j p hj => ?_⟩⟩
  have hj0 : j = 0 ∨ j = 1 := by
    match j, hj with
    | 0, _ => exact .inl rfl
    | 1, _ => exact .inr rfl
    | j + 2, hj => simp at hj
  rcases hj0 with rfl | rfl
  · obtain rfl : l = p := by simpa using hj
    refine ⟨[.slice A l.length c], rfl, ⟨A, c, rfl, hc, Kd.C_below hr hB⟩, fun i u hu => ?_⟩
    cases i with
    | zero =>
      obtain rfl : .slice A l.length c = u := by simpa using hu
      rw [Nat.zero_mul, Nat.add_zero, add_plain]; exact hcell
    | succ i => simp at hu
  · obtain rfl : l' = p := by simpa using hj
    refine ⟨[.slice A' l'.length c'], rfl, ⟨A', c', rfl, hc', Kd.C_below hr' hB⟩, fun i u hu => ?_⟩
    cases i with
    | zero =>
      obtain rfl : .slice A' l'.length c' = u := by simpa using hu
      rw [Nat.add_zero, add_plain]; exact hcell'
    | succ i => simp at hu
theorem build_calls_Mul (n : Nat) (W : World) (r : List Int) (hn : n ≤ 35184372088832) (b0 : Nat) (b1 : Nat)
    (H : ∀ (B g cap : Nat) (W1 : World), PutSt W B g cap (List.replicate n 0) W1 → Calls Try.prog 72 #[.func (.func 74) #[] #[.pointer (some ⟨B, 0, none⟩)], .pointer (some ⟨b0, 0, none⟩), .pointer (some ⟨b1, 0, none⟩)] W1 fun e w' => e = .returned (.tuple #[]) ∧ PutSt W B g cap r w') :
    Calls Try.prog 71 #[.int .i64 (n : Int), .func (.func 72) #[] #[.pointer (some ⟨b0, 0, none⟩), .pointer (some ⟨b1, 0, none⟩)]] W (BuildAns W r) := by
  have HH := Aside0.mk H
  clear H
  go_enter Try.func71, Try.ntmps71
  go_wp2_with (first | ((with_reducible refine gate_dst (N := 7) rfl ?_); refine Kd.R_make (Kd.int .i64) W.heap.size 3 rfl (N := 7) rfl 38 _ _ rfl (n : Int) rfl rfl Try.underlying38 (.int .i64 0) 8 ginfo_int rfl (by decide) (by omega) 0 (ok := fun _ => True) (okp := fun _ => True) rfl (fun _ hk => hk) trivial (by omega) (by rw [Int.toNat_natCast]; omega) (Below.refl _ _) (Nat.le_refl _) ?_; intro v w5 ho6 hb hg_ hnew_; obtain ⟨g, cap, rfl, hg1, hg2, hg3, ho7⟩ := made_form ho6 hnew_; have HO := Aside0.mk ho7; have HB := Aside0.mk hb; have HG := Aside0.mk hg3; clear ho6 ho7 hb hg_ hnew_ hg1 hg2 hg3))
  have HP := Aside0.mk (PutSt.start HO.out HB.out HG.out)
  refine (HH.out w5.heap.size g cap _ HP.out).mono ?_
  clear HP HO HB HG HH
  rintro e w' ⟨rfl, hs⟩
  have HS := Aside0.mk hs
  have hbc := hs.cells
  clear hs
  go_wp2_with (first | (go_at_call 75; have Hq := Aside0.mk (norm_calls (some ⟨g, 0, none⟩) cap r w' HS.out.reads HS.out.maxl.2); refine Hq.out.mono ?_; rintro e w'' ⟨m, hm, rfl, hz, hn0, rfl⟩; have HZ := Aside0.mk hz; have HN := Aside0.mk hn0; clear hz hn0 Hq))
  go_ret
  obtain ⟨h1, h2⟩ := HS.out.cut hm HZ.out HN.out
  exact ⟨g, cap, by rw [h1]; rfl, h2, HS.out.below⟩
def mulL (m : Int → Int → Option Int) (q : List Int) : List Int → Nat → List Int → Option (List Int)
  | [], _, l => some l
  | a :: p, i, l => (layL (fun x => m x a) q i l).bind fun l' => mulL m q p (i + 1) l'
theorem mulL_mono {m m' : Int → Int → Option Int} (h : ∀ x a, LeO (m x a) (m' x a)) (q : List Int) : ∀ (p : List Int) (i : Nat) (l : List Int), LeO (mulL m q p i l) (mulL m' q p i l)
  | [], _, _ => LeO.refl _
  | a :: p, i, l => by
    unfold mulL
    exact LeO.bind (layL_mono (fun x => h x a) q i l) (fun l' => mulL_mono h q p (i + 1) l')
set_option maxHeartbeats 1000000 in
theorem mul1_calls (k : Nat) (W : World) (B g cap : Nat) (b0 b1 : Nat) (A : Option Addr) (c : Nat) (p : List Int) (hr : Kd.C (Kd.int .i64) W A p.length p) (hb0 : W.cell? ⟨b0, 0, none⟩ = some (.slice A p.length c)) (A' : Option Addr) (c' : Nat) (q : List Int) (hr' : Kd.C (Kd.int .i64) W A' q.length q) (hb1 : W.cell? ⟨b1, 0, none⟩ = some (.slice A' q.length c')) (l r : List Int) (W1 : World) (hst : PutSt W B g cap l W1) (h : mulL (poly_mul.f k) q p 0 l = some r) :
    Calls Try.prog 72 #[.func (.func 74) #[] #[.pointer (some ⟨B, 0, none⟩)], .pointer (some ⟨b0, 0, none⟩), .pointer (some ⟨b1, 0, none⟩)] W1 fun e w' => e = .returned (.tuple #[]) ∧ PutSt W B g cap r w' := by
  have hpm : p.length ≤ 9223372036854775807 := hr.2.1
  have hbx := box_at hst.below hb0
  have HR := Aside0.mk hr
  have HR' := Aside0.mk hr'
  have HS := Aside0.mk hst
  have HL := Aside0.mk h
  have HB := Aside0.mk hb1
  clear hr hr' hst h hb1 hb0
  go_enter Try.func72, Try.ntmps72
  go_wp2
  clear hbx
  go_loopw [8] (fun i w' => ∃ (j : Nat) (lj : List Int), j ≤ p.length ∧ i = .int .i64 (j : Int) ∧ Aside0 (PutSt W B g cap lj w') ∧ Aside0 (mulL (poly_mul.f k) q (p.drop j) j lj = some r)) (fun i _ => p.length - (intOf i).toNat)
  case atStart => exact ⟨0, l, Nat.zero_le _, rfl, HS, HL⟩
  case round =>
    clear HS HL
    obtain ⟨j, lj, hj, rfl, HS, HL⟩ := hrel
    by_cases hlt : j < p.length
    · have hd : p.drop j = p[j] :: p.drop (j + 1) := List.drop_eq_getElem_cons hlt
      have HL' := HL.out
      rw [hd] at HL'
      simp only [mulL] at HL'
      obtain ⟨t, ht, HL2⟩ := Option.bind_eq_some_iff.1 HL'
      have HT := Aside0.mk ht
      have HN := Aside0.mk HL2
      obtain ⟨ad, hA, hx0⟩ := Kd.at_int (Kd.C_below HR.out HS.out.below) (j : Int) (by omega) (by omega)
      have hx : wr.cell? (ad.add j) = some (.int .i64 p[j]) := by
        have := hx0
        rw [rd_nat', Int.toNat_natCast] at this
        rw [this]; simp [hlt]
      have hbx := box_at HS.out.below HB.out
      subst hA
      clear hx0 HL2 HL' ht hd HL
      generalize p[j] = pj at HT hx
      have hlt' : decide ((j : Int) < (p.length : Int)) = true := decide_eq_true (by omega)
      go_wp2_with (first | (go_at_call 73; have Hq := Aside0.mk (lay_calls k W B g cap A' c' q HR'.out j pj lj t _ HS.out HT.out); refine Hq.out.mono ?_; rintro e w' ⟨rfl, hs⟩; have HS2 := Aside0.mk hs; clear hs Hq))
      go_roundw
      case rel => exact ⟨j + 1, _, by omega, by go_num, HS2, HN⟩
      case measure => simp [intOf]; omega
    · have hje : j = p.length := by omega
      subst hje
      have HL' := HL.out
      rw [List.drop_length] at HL'
      have e := Option.some.inj HL'
      have HE := Aside0.mk e
      clear HL HL' e hlt
      have hlt' : decide ((p.length : Int) < (p.length : Int)) = false := by simp
      go_wp2
      go_end0
      exact ⟨rfl, by rw [← HE.out]; exact HS.out⟩
def poly_Mul.L (k : Nat) (l0 l1 : List Int) : Option (List Int) := mulL (poly_mul.f k) l1 l0 0 (List.replicate (l0.length + l1.length) 0)
def poly_Mul.f (k : Nat) (l0 l1 : List Int) : Option (List Int × Int) := (poly_is.f k [l0, l1]).bind fun b => if b = true then (if l0.length + l1.length ≤ 35184372088832 then (poly_Mul.L k l0 l1).bind fun l => some (fin l, 0) else none) else some ([], 1)
theorem poly_Mul.mono : ∀ a0 a1 k, LeO (poly_Mul.f k a0 a1) (poly_Mul.f (k + 1) a0 a1) := by
  intro a0 a1 k
  unfold poly_Mul.f
  exact LeO.bind (poly_is.mono _ _) (fun b => LeO.ite (LeO.ite (LeO.bind (mulL_mono (fun x a => poly_mul.mono _ _ _) _ _ _ _) (fun l => LeO.refl _)) (LeO.refl _)) (LeO.refl _))
set_option maxHeartbeats 1000000 in
theorem poly_Mul.calls_yes (k : Nat) (A0 : Option Addr) (c0 : Nat) (l0 : List Int) (A1 : Option Addr) (c1 : Nat) (l1 : List Int) (l : List Int) (w : World) (hr0 : Kd.C (Kd.int .i64) w A0 l0.length l0) (hc0 : l0.length ≤ c0) (hr1 : Kd.C (Kd.int .i64) w A1 l1.length l1) (hc1 : l1.length ≤ c1) (hb : poly_is.f k [l0, l1] = some true) (hl : l0.length + l1.length ≤ 35184372088832) (hlay : poly_Mul.L k l0 l1 = some l) :
    Calls Try.prog 65 #[.slice A0 l0.length c0, .slice A1 l1.length c1] w fun e w' => ∃ g cap : Nat, e = .returned (.tuple #[.slice (some ⟨g, 0, none⟩) (fin l).length cap, .int .i64 0]) ∧ w'.ownsRow w.heap.size 3 1 (.slice (some ⟨g, 0, none⟩) (fin l).length cap) (fin l).length (encs (Value.int .i64) (fin l)) ∧ Below w.heap.size w w' := by
  have HR := Aside0.mk hr0
  have HC := Aside0.mk hc0
  have HR1 := Aside0.mk hr1
  have HC1 := Aside0.mk hc1
  have HI := Aside0.mk hb
  have HL := Aside0.mk hlay
  clear hr0 hc0 hr1 hc1 hb hlay
  go_enter Try.func65, Try.ntmps65
  go_wp2_with fail
  have hB2 : Below w.heap.size w (((w.alloc (.cells #[.slice A0 l0.length c0] 38)).alloc (.cells #[.slice A1 l1.length c1] 38)).alloc (.cells #[.slice A0 l0.length c0, .slice A1 l1.length c1] 38)) := below_alloc (below_alloc (below_alloc (Below.refl _ _) _) _) _
  have hc2 : (((w.alloc (.cells #[.slice A0 l0.length c0] 38)).alloc (.cells #[.slice A1 l1.length c1] 38)).alloc (.cells #[.slice A0 l0.length c0, .slice A1 l1.length c1] 38)).cell? ⟨w.heap.size + 1 + 1, 0, none⟩ = some (.slice A0 l0.length c0) := by go_simp
  have hc3 : (((w.alloc (.cells #[.slice A0 l0.length c0] 38)).alloc (.cells #[.slice A1 l1.length c1] 38)).alloc (.cells #[.slice A0 l0.length c0, .slice A1 l1.length c1] 38)).cell? ⟨w.heap.size + 1 + 1, 1, none⟩ = some (.slice A1 l1.length c1) := by go_simp
  have HX := Aside0.mk (C_two HR.out HC.out HR1.out HC1.out hB2 hc2 hc3)
  clear hB2 hc2 hc3
  refine (poly_is.calls k _ 2 [l0, l1] true _ HX.out (Nat.le_refl _) HI.out).mono ?_
  clear HX
  rintro e w' ⟨rfl, ⟨nd, rfl⟩⟩
  have hB3 : Below w.heap.size w ((((w.alloc (.cells #[.slice A0 l0.length c0] 38)).alloc (.cells #[.slice A1 l1.length c1] 38)).alloc (.cells #[.slice A0 l0.length c0, .slice A1 l1.length c1] 38)).drewN nd) := pw_below_drewN (below_alloc (below_alloc (below_alloc (Below.refl _ _) _) _) _) nd
  have hb3 : ((((w.alloc (.cells #[.slice A0 l0.length c0] 38)).alloc (.cells #[.slice A1 l1.length c1] 38)).alloc (.cells #[.slice A0 l0.length c0, .slice A1 l1.length c1] 38)).drewN nd).cell? ⟨w.heap.size, 0, none⟩ = some (.slice A0 l0.length c0) := by go_simp
  have hb4 : ((((w.alloc (.cells #[.slice A0 l0.length c0] 38)).alloc (.cells #[.slice A1 l1.length c1] 38)).alloc (.cells #[.slice A0 l0.length c0, .slice A1 l1.length c1] 38)).drewN nd).cell? ⟨w.heap.size + 1, 0, none⟩ = some (.slice A1 l1.length c1) := by go_simp
  have HB3 := Aside0.mk hB3
  have Hb3 := Aside0.mk hb3
  have Hb4 := Aside0.mk hb4
  clear hB3 hb3 hb4
  have hb5 : (l0.length : Int) + (l1.length : Int) ≤ 9223372036854775807 := by omega
  go_wp2_with fail
  have Hq := Aside0.mk (build_calls_Mul (l0.length + l1.length) _ l hl w.heap.size (w.heap.size + 1) (fun B g cap W1 hst => mul1_calls k _ B g cap w.heap.size (w.heap.size + 1) A0 c0 l0 (Kd.C_below HR.out HB3.out) Hb3.out A1 c1 l1 (Kd.C_below HR1.out HB3.out) Hb4.out _ l W1 hst HL.out))
  refine Hq.out.mono ?_
  clear Hq
  rintro e w' ⟨g, cap, rfl, ho, hb⟩
  have HO := Aside0.mk (own_weaken ho HB3.out.size)
  have HB := Aside0.mk (below_then HB3.out HB3.out.size hb)
  clear ho hb HB3 Hb3 Hb4
  go_wp2
  go_ret2
  exact ⟨g, cap, rfl, HO.out, HB.out⟩
set_option maxHeartbeats 1000000 in
theorem poly_Mul.calls (k : Nat) (A0 : Option Addr) (c0 : Nat) (l0 : List Int) (A1 : Option Addr) (c1 : Nat) (l1 : List Int) (r1 : List Int) (r2 : Int) (w : World) (hr0 : Kd.C (Kd.int .i64) w A0 l0.length l0) (hc0 : l0.length ≤ c0) (hr1 : Kd.C (Kd.int .i64) w A1 l1.length l1) (hc1 : l1.length ≤ c1) (h : poly_Mul.f k l0 l1 = some (r1, r2)) :
    Calls Try.prog 65 #[.slice A0 l0.length c0, .slice A1 l1.length c1] w fun e w' => ∃ v0_ : Value, e = .returned (.tuple #[v0_, .int .i64 r2]) ∧ Kd.R (Kd.int .i64) 3 w' w.heap.size (fun _ => True) v0_ r1 ∧ Below w.heap.size w w' := by
  unfold poly_Mul.f at h
  obtain ⟨b, hb, h⟩ := Option.bind_eq_some_iff.1 h
  cases b with
  | false =>
    have HI := Aside0.mk hb
    have HR := Aside0.mk hr0
    have HC := Aside0.mk hc0
    have HR1 := Aside0.mk hr1
    have HC1 := Aside0.mk hc1
    rw [if_neg (by simp)] at h
    simp only [Option.some.injEq, Prod.mk.injEq] at h
    obtain ⟨rfl, rfl⟩ := h
    clear hr0 hc0 hr1 hc1 hb
    go_enter Try.func65, Try.ntmps65
    go_wp2_with fail
    have hB2 : Below w.heap.size w (((w.alloc (.cells #[.slice A0 l0.length c0] 38)).alloc (.cells #[.slice A1 l1.length c1] 38)).alloc (.cells #[.slice A0 l0.length c0, .slice A1 l1.length c1] 38)) := below_alloc (below_alloc (below_alloc (Below.refl _ _) _) _) _
    have hc2 : (((w.alloc (.cells #[.slice A0 l0.length c0] 38)).alloc (.cells #[.slice A1 l1.length c1] 38)).alloc (.cells #[.slice A0 l0.length c0, .slice A1 l1.length c1] 38)).cell? ⟨w.heap.size + 1 + 1, 0, none⟩ = some (.slice A0 l0.length c0) := by go_simp
    have hc3 : (((w.alloc (.cells #[.slice A0 l0.length c0] 38)).alloc (.cells #[.slice A1 l1.length c1] 38)).alloc (.cells #[.slice A0 l0.length c0, .slice A1 l1.length c1] 38)).cell? ⟨w.heap.size + 1 + 1, 1, none⟩ = some (.slice A1 l1.length c1) := by go_simp
    have HX := Aside0.mk (C_two HR.out HC.out HR1.out HC1.out hB2 hc2 hc3)
    clear hB2 hc2 hc3
    refine (poly_is.calls k _ 2 [l0, l1] false _ HX.out (Nat.le_refl _) HI.out).mono ?_
    clear HX
    rintro e w' ⟨rfl, ⟨nd, rfl⟩⟩
    go_wp2
    go_ret2
    exact ⟨_, rfl, Kd.R_nil _ _ _ _ _, pw_below_drewN (below_alloc (below_alloc (below_alloc (Below.refl _ _) _) _) _) nd⟩
  | true =>
    rw [if_pos rfl] at h
    by_cases hl : l0.length + l1.length ≤ 35184372088832
    · rw [if_pos hl] at h
      obtain ⟨l, hlay, h⟩ := Option.bind_eq_some_iff.1 h
      simp only [Option.some.injEq, Prod.mk.injEq] at h
      obtain ⟨rfl, rfl⟩ := h
      refine (poly_Mul.calls_yes k A0 c0 l0 A1 c1 l1 l w hr0 hc0 hr1 hc1 hb hl hlay).mono ?_
      rintro e w' ⟨g, cap, rfl, ho, hb⟩
      exact ⟨_, rfl, Kd.R_of_own (h1 := fun _ => rfl) ho (fun _ _ => trivial), hb⟩
    · rw [if_neg hl] at h; exact absurd h (by simp)
end Go.Proofs.Ytbaiildpabdlpaa.P

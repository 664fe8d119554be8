/- What Go functions of the translation come to, as plain functions, and that their calls come to just that. No condition but that the plain function answers. (Written by a program of this session.) -/
import Derived.Test.YtbpjhlkcolgmjaaPx0
import Derived.Test.YtbpjhlkcolgmjaaPx1
import Derived.Test.YtbpjhlkcolgmjaaPx2
import Derived.Test.YtbpjhlkcolgmjaaPx4
namespace Go.Proofs.Ytbpjhlkcolgmjaa.P
open Go.RowKit Go.Proofs.YtbpjhlkcolgmjaaW.PrintWords Go.Proofs.YtbpjhlkcolgmjaaW.PrintLast Go.Proofs.YtbpjhlkcolgmjaaW.PrintMore
attribute [local go_sem] max2_int min2_int max_two min_two max_three min_three max_four min_four   -- for this text's walks alone
set_option linter.unusedVariables false
set_option linter.unusedSimpArgs false

/-! ### casematelaw02_GfLaws: function 4 -/
def casematelaw02_GfLaws.j0 : Nat → Int → Int → Int → Bool → Option (Bool)
  | 0, _, _, _, _ => none
  | k + 1, x0, x1, x2, x20 => if x20 = true then (some true) else ((casemateref02_Sum.f k x0 x1).bind fun t141 => ((casematelaw02_awake.f k).bind fun t142 => (if t142 = true then ((casematelaw02_mul.f k x0 x1).bind fun t143 => ((casematelaw02_mul.f k x1 x0).bind fun t144 => (if t143 = t144 then ((casematelaw02_mul.f k x0 x1).bind fun t145 => ((casematelaw02_mul.f k t145 x2).bind fun t146 => ((casematelaw02_mul.f k x1 x2).bind fun t147 => ((casematelaw02_mul.f k x0 t147).bind fun t148 => (if t146 = t148 then ((casematelaw02_mul.f k t141 x2).bind fun t149 => ((casematelaw02_mul.f k x0 x2).bind fun t150 => ((casematelaw02_mul.f k x1 x2).bind fun t151 => ((casemateref02_Sum.f k t150 t151).bind fun t152 => (if t149 = t152 then ((casematelaw02_mul.f k t141 t141).bind fun t153 => ((casematelaw02_mul.f k x0 x0).bind fun t154 => ((casematelaw02_mul.f k x1 x1).bind fun t155 => ((casemateref02_Sum.f k t154 t155).bind fun t156 => (if t153 = t156 then ((casematelaw02_mul.f k x0 1).bind fun t157 => (if t157 = x0 then ((casematelaw02_mul.f k x0 0).bind fun t158 => (some (t158 == 0))) else (some false))) else (some false)))))) else (some false)))))) else (some false)))))) else (some false)))) else (some false))))
def casematelaw02_GfLaws.f (k : Nat) (a0 : Int) (a1 : Int) (a2 : Int) : Option (Bool) := (casemateref02_Is.f a0).bind fun t138 => (if t138 = true then ((casemateref02_Is.f a1).bind fun t139 => (if t139 = true then ((casemateref02_Is.f a2).bind fun t140 => (casematelaw02_GfLaws.j0 k a0 a1 a2 (!t140))) else (casematelaw02_GfLaws.j0 k a0 a1 a2 true))) else (casematelaw02_GfLaws.j0 k a0 a1 a2 true))
theorem casematelaw02_GfLaws.mono_l : ∀ k, (∀ y0 y1 y2 y3, LeO (casematelaw02_GfLaws.j0 k y0 y1 y2 y3) (casematelaw02_GfLaws.j0 (k + 1) y0 y1 y2 y3))
  | 0 => fun _ _ _ _ r h => by simp [casematelaw02_GfLaws.j0] at h
  | k + 1 => by
    have ih0 := casematelaw02_GfLaws.mono_l k
    · intro y0 y1 y2 y3
      unfold casematelaw02_GfLaws.j0
      repeat' first
      | (with_reducible exact ih0 _ _ _ _)
      | (with_reducible exact casematelaw02_awake.mono _)
      | (with_reducible exact casematelaw02_mul.mono _ _ _)
      | (with_reducible exact casemateref02_Sum.mono _ _ _)
      | (with_reducible exact LeO.refl _)
      | (with_reducible exact LeO.none _)
      | (with_reducible refine LeO.ite ?_ ?_)
      | (with_reducible refine LeO.bind ?_ (fun _ => ?_))
      | exact ih0 _ _ _ _
      | exact casematelaw02_awake.mono _
      | exact casematelaw02_mul.mono _ _ _
      | exact casemateref02_Sum.mono _ _ _
      | exact LeO.none _
      | refine LeO.ite ?_ ?_
      | refine LeO.bind ?_ (fun _ => ?_)
theorem casematelaw02_GfLaws.mono : ∀ a0 a1 a2 k, LeO (casematelaw02_GfLaws.f k a0 a1 a2) (casematelaw02_GfLaws.f (k + 1) a0 a1 a2) := by
  intro a0 a1 a2 k
  have ih0 := casematelaw02_GfLaws.mono_l k
  unfold casematelaw02_GfLaws.f
  repeat' first
      | (with_reducible exact ih0 _ _ _ _)
      | (with_reducible exact casematelaw02_awake.mono _)
      | (with_reducible exact casematelaw02_mul.mono _ _ _)
      | (with_reducible exact casemateref02_Sum.mono _ _ _)
      | (with_reducible exact LeO.refl _)
      | (with_reducible exact LeO.none _)
      | (with_reducible refine LeO.ite ?_ ?_)
      | (with_reducible refine LeO.bind ?_ (fun _ => ?_))
      | exact ih0 _ _ _ _
      | exact casematelaw02_awake.mono _
      | exact casematelaw02_mul.mono _ _ _
      | exact casemateref02_Sum.mono _ _ _
      | exact LeO.none _
      | refine LeO.ite ?_ ?_
      | refine LeO.bind ?_ (fun _ => ?_)
set_option maxHeartbeats 8000000 in
set_option maxRecDepth 100000 in
theorem casematelaw02_GfLaws.calls (k : Nat) (a0 : Int) (a1 : Int) (a2 : Int) (r : Bool) (w : World) (h : casematelaw02_GfLaws.f k a0 a1 a2 = some r) :
    Calls Try.prog 4 #[.int .i64 a0, .int .i64 a1, .int .i64 a2] w fun e w' => e = .returned (.bool r) ∧ Drawn0 w w' := by
  have H : ((casemateref02_Is.f a0).bind fun t138 => (if t138 = true then ((casemateref02_Is.f a1).bind fun t139 => (if t139 = true then ((casemateref02_Is.f a2).bind fun t140 => (casematelaw02_GfLaws.j0 k a0 a1 a2 (!t140))) else (casematelaw02_GfLaws.j0 k a0 a1 a2 true))) else (casematelaw02_GfLaws.j0 k a0 a1 a2 true))) = some r := h
  clear h
  have HC4 := Aside0.mk H
  clear H
  go_enter Try.func4, Try.ntmps4
  go_upto_region 1 with (fail)
  go_cut [20] (fun v20 wc => ∃ (kq : Nat) (x20_3 : Bool), v20 = .bool x20_3 ∧ Aside0 (casematelaw02_GfLaws.j0 kq a0 a1 a2 x20_3 = some r) ∧ Aside0 (kq ≤ k) ∧ Drawn0 w wc)
  case first =>
    have H := HC4.out
    clear HC4
    replace H := Option.bind_eq_some_iff.mp H
    obtain ⟨t138, A50, H⟩ := H
    replace H : (if t138 = true then ((casemateref02_Is.f a1).bind fun t139 => (if t139 = true then ((casemateref02_Is.f a2).bind fun t140 => (casematelaw02_GfLaws.j0 k a0 a1 a2 (!t140))) else (casematelaw02_GfLaws.j0 k a0 a1 a2 true))) else (casematelaw02_GfLaws.j0 k a0 a1 a2 true)) = some r := H
    have A5 := Aside0.mk A50
    clear A50
    by_cases c6 : t138 = true
    · subst c6
      have H1 : ((casemateref02_Is.f a1).bind fun t139 => (if t139 = true then ((casemateref02_Is.f a2).bind fun t140 => (casematelaw02_GfLaws.j0 k a0 a1 a2 (!t140))) else (casematelaw02_GfLaws.j0 k a0 a1 a2 true))) = some r := by rw [if_pos rfl] at H; exact H
      clear H
      have H := H1
      clear H1
      replace H := Option.bind_eq_some_iff.mp H
      obtain ⟨t139, A70, H⟩ := H
      replace H : (if t139 = true then ((casemateref02_Is.f a2).bind fun t140 => (casematelaw02_GfLaws.j0 k a0 a1 a2 (!t140))) else (casematelaw02_GfLaws.j0 k a0 a1 a2 true)) = some r := H
      have A7 := Aside0.mk A70
      clear A70
      by_cases c8 : t139 = true
      · subst c8
        have H1 : ((casemateref02_Is.f a2).bind fun t140 => (casematelaw02_GfLaws.j0 k a0 a1 a2 (!t140))) = some r := by rw [if_pos rfl] at H; exact H
        clear H
        have H := H1
        clear H1
        replace H := Option.bind_eq_some_iff.mp H
        obtain ⟨t140, A90, H⟩ := H
        replace H : (casematelaw02_GfLaws.j0 k a0 a1 a2 (!t140)) = some r := H
        have A9 := Aside0.mk A90
        clear A90
        have H' := Aside0.mk H
        clear H
        go_wp2_with (first | ((with_reducible refine gate_callee (f := 11) rfl ?_); refine goesL_ (some 9) rfl rfl Try.func11 (by kernel_rfl) rfl #[.int .i64 a0] rfl (by (try simp only [List.map_toArray, List.map_cons, List.map_nil]); first | done | rfl | (simp only [List.length_drop, List.length_take]; rfl)) ?_; (with_reducible refine (casemateref02_Is.calls a0 true _ A5.out).mono ?_); rintro e w' ⟨rfl, ⟨nd, rfl⟩⟩; refine ⟨_, rfl, ?_⟩) | (go_at_call 11; (with_reducible refine (casemateref02_Is.calls a1 true _ A7.out).mono ?_); rintro e w' ⟨rfl, ⟨nd, rfl⟩⟩) | (go_at_call 11; (with_reducible refine (casemateref02_Is.calls a2 t140 _ A9.out).mono ?_); rintro e w' ⟨rfl, ⟨nd, rfl⟩⟩))
        go_meet
        case rel => exact ⟨_, (!t140), (by first | rfl | (simp; done) | (simp [*]; done)), H', ⟨by first | omega | exact Nat.le_refl _⟩, by repeat (first | exact Drawn0.refl _ | apply Drawn0.step)⟩
      · replace c8 := Bool.eq_false_iff.mpr c8
        subst c8
        have H1 : (casematelaw02_GfLaws.j0 k a0 a1 a2 true) = some r := by rw [if_neg (show ¬ (false = true) by decide)] at H; exact H
        clear H
        have H := H1
        clear H1
        have H' := Aside0.mk H
        clear H
        go_wp2_with (first | ((with_reducible refine gate_callee (f := 11) rfl ?_); refine goesL_ (some 9) rfl rfl Try.func11 (by kernel_rfl) rfl #[.int .i64 a0] rfl (by (try simp only [List.map_toArray, List.map_cons, List.map_nil]); first | done | rfl | (simp only [List.length_drop, List.length_take]; rfl)) ?_; (with_reducible refine (casemateref02_Is.calls a0 true _ A5.out).mono ?_); rintro e w' ⟨rfl, ⟨nd, rfl⟩⟩; refine ⟨_, rfl, ?_⟩) | (go_at_call 11; (with_reducible refine (casemateref02_Is.calls a1 false _ A7.out).mono ?_); rintro e w' ⟨rfl, ⟨nd, rfl⟩⟩))
        go_meet
        case rel => exact ⟨_, (true), (by first | rfl | (simp; done) | (simp [*]; done)), H', ⟨by first | omega | exact Nat.le_refl _⟩, by repeat (first | exact Drawn0.refl _ | apply Drawn0.step)⟩
    · replace c6 := Bool.eq_false_iff.mpr c6
      subst c6
      have H1 : (casematelaw02_GfLaws.j0 k a0 a1 a2 true) = some r := by rw [if_neg (show ¬ (false = true) by decide)] at H; exact H
      clear H
      have H := H1
      clear H1
      have H' := Aside0.mk H
      clear H
      go_wp2_with (first | ((with_reducible refine gate_callee (f := 11) rfl ?_); refine goesL_ (some 9) rfl rfl Try.func11 (by kernel_rfl) rfl #[.int .i64 a0] rfl (by (try simp only [List.map_toArray, List.map_cons, List.map_nil]); first | done | rfl | (simp only [List.length_drop, List.length_take]; rfl)) ?_; (with_reducible refine (casemateref02_Is.calls a0 false _ A5.out).mono ?_); rintro e w' ⟨rfl, ⟨nd, rfl⟩⟩; refine ⟨_, rfl, ?_⟩))
      go_meet
      case rel => exact ⟨_, (true), (by first | rfl | (simp; done) | (simp [*]; done)), H', ⟨by first | omega | exact Nat.le_refl _⟩, by repeat (first | exact Drawn0.refl _ | apply Drawn0.step)⟩
  case rest =>
    clear HC4
    try clear c1
    try clear p2
    try clear c4
    try clear c6
    try clear c8
    obtain ⟨kq, x20_3, rfl, HA, HJ3, ⟨mc3, rfl⟩⟩ := hcut
    cases kq with
    | zero => exact absurd HA.out (by simp [casematelaw02_GfLaws.j0])
    | succ kj3 =>
      have H := HA.out
      clear HA
      simp only [casematelaw02_GfLaws.j0] at H
      by_cases c10 : x20_3 = true
      · subst c10
        have H1 : (some true) = some r := by rw [if_pos rfl] at H; exact H
        clear H
        have H := H1
        clear H1
        obtain rfl := Option.some.inj H
        go_wp2
        go_ret
        exact ⟨by first | rfl | (simp; done) | (simp [*]; done), by repeat (first | exact Drawn0.refl _ | apply Drawn0.step)⟩
      · replace c10 := Bool.eq_false_iff.mpr c10
        subst c10
        have H1 : ((casemateref02_Sum.f kj3 a0 a1).bind fun t141 => ((casematelaw02_awake.f kj3).bind fun t142 => (if t142 = true then ((casematelaw02_mul.f kj3 a0 a1).bind fun t143 => ((casematelaw02_mul.f kj3 a1 a0).bind fun t144 => (if t143 = t144 then ((casematelaw02_mul.f kj3 a0 a1).bind fun t145 => ((casematelaw02_mul.f kj3 t145 a2).bind fun t146 => ((casematelaw02_mul.f kj3 a1 a2).bind fun t147 => ((casematelaw02_mul.f kj3 a0 t147).bind fun t148 => (if t146 = t148 then ((casematelaw02_mul.f kj3 t141 a2).bind fun t149 => ((casematelaw02_mul.f kj3 a0 a2).bind fun t150 => ((casematelaw02_mul.f kj3 a1 a2).bind fun t151 => ((casemateref02_Sum.f kj3 t150 t151).bind fun t152 => (if t149 = t152 then ((casematelaw02_mul.f kj3 t141 t141).bind fun t153 => ((casematelaw02_mul.f kj3 a0 a0).bind fun t154 => ((casematelaw02_mul.f kj3 a1 a1).bind fun t155 => ((casemateref02_Sum.f kj3 t154 t155).bind fun t156 => (if t153 = t156 then ((casematelaw02_mul.f kj3 a0 1).bind fun t157 => (if t157 = a0 then ((casematelaw02_mul.f kj3 a0 0).bind fun t158 => (some (t158 == 0))) else (some false))) else (some false)))))) else (some false)))))) else (some false)))))) else (some false)))) else (some false)))) = some r := by rw [if_neg (show ¬ (false = true) by decide)] at H; exact H
        clear H
        have H := H1
        clear H1
        replace H := Option.bind_eq_some_iff.mp H
        obtain ⟨t141, A110, H⟩ := H
        replace H : ((casematelaw02_awake.f kj3).bind fun t142 => (if t142 = true then ((casematelaw02_mul.f kj3 a0 a1).bind fun t143 => ((casematelaw02_mul.f kj3 a1 a0).bind fun t144 => (if t143 = t144 then ((casematelaw02_mul.f kj3 a0 a1).bind fun t145 => ((casematelaw02_mul.f kj3 t145 a2).bind fun t146 => ((casematelaw02_mul.f kj3 a1 a2).bind fun t147 => ((casematelaw02_mul.f kj3 a0 t147).bind fun t148 => (if t146 = t148 then ((casematelaw02_mul.f kj3 t141 a2).bind fun t149 => ((casematelaw02_mul.f kj3 a0 a2).bind fun t150 => ((casematelaw02_mul.f kj3 a1 a2).bind fun t151 => ((casemateref02_Sum.f kj3 t150 t151).bind fun t152 => (if t149 = t152 then ((casematelaw02_mul.f kj3 t141 t141).bind fun t153 => ((casematelaw02_mul.f kj3 a0 a0).bind fun t154 => ((casematelaw02_mul.f kj3 a1 a1).bind fun t155 => ((casemateref02_Sum.f kj3 t154 t155).bind fun t156 => (if t153 = t156 then ((casematelaw02_mul.f kj3 a0 1).bind fun t157 => (if t157 = a0 then ((casematelaw02_mul.f kj3 a0 0).bind fun t158 => (some (t158 == 0))) else (some false))) else (some false)))))) else (some false)))))) else (some false)))))) else (some false)))) else (some false))) = some r := H
        have A11 := Aside0.mk A110
        clear A110
        replace H := Option.bind_eq_some_iff.mp H
        obtain ⟨t142, A120, H⟩ := H
        replace H : (if t142 = true then ((casematelaw02_mul.f kj3 a0 a1).bind fun t143 => ((casematelaw02_mul.f kj3 a1 a0).bind fun t144 => (if t143 = t144 then ((casematelaw02_mul.f kj3 a0 a1).bind fun t145 => ((casematelaw02_mul.f kj3 t145 a2).bind fun t146 => ((casematelaw02_mul.f kj3 a1 a2).bind fun t147 => ((casematelaw02_mul.f kj3 a0 t147).bind fun t148 => (if t146 = t148 then ((casematelaw02_mul.f kj3 t141 a2).bind fun t149 => ((casematelaw02_mul.f kj3 a0 a2).bind fun t150 => ((casematelaw02_mul.f kj3 a1 a2).bind fun t151 => ((casemateref02_Sum.f kj3 t150 t151).bind fun t152 => (if t149 = t152 then ((casematelaw02_mul.f kj3 t141 t141).bind fun t153 => ((casematelaw02_mul.f kj3 a0 a0).bind fun t154 => ((casematelaw02_mul.f kj3 a1 a1).bind fun t155 => ((casemateref02_Sum.f kj3 t154 t155).bind fun t156 => (if t153 = t156 then ((casematelaw02_mul.f kj3 a0 1).bind fun t157 => (if t157 = a0 then ((casematelaw02_mul.f kj3 a0 0).bind fun t158 => (some (t158 == 0))) else (some false))) else (some false)))))) else (some false)))))) else (some false)))))) else (some false)))) else (some false)) = some r := H
        have A12 := Aside0.mk A120
        clear A120
        by_cases c13 : t142 = true
        · subst c13
          have H1 : ((casematelaw02_mul.f kj3 a0 a1).bind fun t143 => ((casematelaw02_mul.f kj3 a1 a0).bind fun t144 => (if t143 = t144 then ((casematelaw02_mul.f kj3 a0 a1).bind fun t145 => ((casematelaw02_mul.f kj3 t145 a2).bind fun t146 => ((casematelaw02_mul.f kj3 a1 a2).bind fun t147 => ((casematelaw02_mul.f kj3 a0 t147).bind fun t148 => (if t146 = t148 then ((casematelaw02_mul.f kj3 t141 a2).bind fun t149 => ((casematelaw02_mul.f kj3 a0 a2).bind fun t150 => ((casematelaw02_mul.f kj3 a1 a2).bind fun t151 => ((casemateref02_Sum.f kj3 t150 t151).bind fun t152 => (if t149 = t152 then ((casematelaw02_mul.f kj3 t141 t141).bind fun t153 => ((casematelaw02_mul.f kj3 a0 a0).bind fun t154 => ((casematelaw02_mul.f kj3 a1 a1).bind fun t155 => ((casemateref02_Sum.f kj3 t154 t155).bind fun t156 => (if t153 = t156 then ((casematelaw02_mul.f kj3 a0 1).bind fun t157 => (if t157 = a0 then ((casematelaw02_mul.f kj3 a0 0).bind fun t158 => (some (t158 == 0))) else (some false))) else (some false)))))) else (some false)))))) else (some false)))))) else (some false)))) = some r := by rw [if_pos rfl] at H; exact H
          clear H
          have H := H1
          clear H1
          replace H := Option.bind_eq_some_iff.mp H
          obtain ⟨t143, A140, H⟩ := H
          replace H : ((casematelaw02_mul.f kj3 a1 a0).bind fun t144 => (if t143 = t144 then ((casematelaw02_mul.f kj3 a0 a1).bind fun t145 => ((casematelaw02_mul.f kj3 t145 a2).bind fun t146 => ((casematelaw02_mul.f kj3 a1 a2).bind fun t147 => ((casematelaw02_mul.f kj3 a0 t147).bind fun t148 => (if t146 = t148 then ((casematelaw02_mul.f kj3 t141 a2).bind fun t149 => ((casematelaw02_mul.f kj3 a0 a2).bind fun t150 => ((casematelaw02_mul.f kj3 a1 a2).bind fun t151 => ((casemateref02_Sum.f kj3 t150 t151).bind fun t152 => (if t149 = t152 then ((casematelaw02_mul.f kj3 t141 t141).bind fun t153 => ((casematelaw02_mul.f kj3 a0 a0).bind fun t154 => ((casematelaw02_mul.f kj3 a1 a1).bind fun t155 => ((casemateref02_Sum.f kj3 t154 t155).bind fun t156 => (if t153 = t156 then ((casematelaw02_mul.f kj3 a0 1).bind fun t157 => (if t157 = a0 then ((casematelaw02_mul.f kj3 a0 0).bind fun t158 => (some (t158 == 0))) else (some false))) else (some false)))))) else (some false)))))) else (some false)))))) else (some false))) = some r := H
          have A14 := Aside0.mk A140
          clear A140
          replace H := Option.bind_eq_some_iff.mp H
          obtain ⟨t144, A150, H⟩ := H
          replace H : (if t143 = t144 then ((casematelaw02_mul.f kj3 a0 a1).bind fun t145 => ((casematelaw02_mul.f kj3 t145 a2).bind fun t146 => ((casematelaw02_mul.f kj3 a1 a2).bind fun t147 => ((casematelaw02_mul.f kj3 a0 t147).bind fun t148 => (if t146 = t148 then ((casematelaw02_mul.f kj3 t141 a2).bind fun t149 => ((casematelaw02_mul.f kj3 a0 a2).bind fun t150 => ((casematelaw02_mul.f kj3 a1 a2).bind fun t151 => ((casemateref02_Sum.f kj3 t150 t151).bind fun t152 => (if t149 = t152 then ((casematelaw02_mul.f kj3 t141 t141).bind fun t153 => ((casematelaw02_mul.f kj3 a0 a0).bind fun t154 => ((casematelaw02_mul.f kj3 a1 a1).bind fun t155 => ((casemateref02_Sum.f kj3 t154 t155).bind fun t156 => (if t153 = t156 then ((casematelaw02_mul.f kj3 a0 1).bind fun t157 => (if t157 = a0 then ((casematelaw02_mul.f kj3 a0 0).bind fun t158 => (some (t158 == 0))) else (some false))) else (some false)))))) else (some false)))))) else (some false)))))) else (some false)) = some r := H
          have A15 := Aside0.mk A150
          clear A150
          by_cases c16 : t143 = t144
          · rw [if_pos c16] at H
            have c16b0 : (t143 == t144) = true := beq_iff_eq.mpr c16
            have c16b1 : (t143 != t144) = false := bne_eq_false_iff_eq.mpr c16
            clear c16
            replace H := Option.bind_eq_some_iff.mp H
            obtain ⟨t145, A170, H⟩ := H
            replace H : ((casematelaw02_mul.f kj3 t145 a2).bind fun t146 => ((casematelaw02_mul.f kj3 a1 a2).bind fun t147 => ((casematelaw02_mul.f kj3 a0 t147).bind fun t148 => (if t146 = t148 then ((casematelaw02_mul.f kj3 t141 a2).bind fun t149 => ((casematelaw02_mul.f kj3 a0 a2).bind fun t150 => ((casematelaw02_mul.f kj3 a1 a2).bind fun t151 => ((casemateref02_Sum.f kj3 t150 t151).bind fun t152 => (if t149 = t152 then ((casematelaw02_mul.f kj3 t141 t141).bind fun t153 => ((casematelaw02_mul.f kj3 a0 a0).bind fun t154 => ((casematelaw02_mul.f kj3 a1 a1).bind fun t155 => ((casemateref02_Sum.f kj3 t154 t155).bind fun t156 => (if t153 = t156 then ((casematelaw02_mul.f kj3 a0 1).bind fun t157 => (if t157 = a0 then ((casematelaw02_mul.f kj3 a0 0).bind fun t158 => (some (t158 == 0))) else (some false))) else (some false)))))) else (some false)))))) else (some false))))) = some r := H
            have A17 := Aside0.mk A170
            clear A170
            obtain rfl : t143 = t145 := Option.some.inj (A14.out.symm.trans A17.out)
            replace H := Option.bind_eq_some_iff.mp H
            obtain ⟨t146, A180, H⟩ := H
            replace H : ((casematelaw02_mul.f kj3 a1 a2).bind fun t147 => ((casematelaw02_mul.f kj3 a0 t147).bind fun t148 => (if t146 = t148 then ((casematelaw02_mul.f kj3 t141 a2).bind fun t149 => ((casematelaw02_mul.f kj3 a0 a2).bind fun t150 => ((casematelaw02_mul.f kj3 a1 a2).bind fun t151 => ((casemateref02_Sum.f kj3 t150 t151).bind fun t152 => (if t149 = t152 then ((casematelaw02_mul.f kj3 t141 t141).bind fun t153 => ((casematelaw02_mul.f kj3 a0 a0).bind fun t154 => ((casematelaw02_mul.f kj3 a1 a1).bind fun t155 => ((casemateref02_Sum.f kj3 t154 t155).bind fun t156 => (if t153 = t156 then ((casematelaw02_mul.f kj3 a0 1).bind fun t157 => (if t157 = a0 then ((casematelaw02_mul.f kj3 a0 0).bind fun t158 => (some (t158 == 0))) else (some false))) else (some false)))))) else (some false)))))) else (some false)))) = some r := H
            have A18 := Aside0.mk A180
            clear A180
            replace H := Option.bind_eq_some_iff.mp H
            obtain ⟨t147, A190, H⟩ := H
            replace H : ((casematelaw02_mul.f kj3 a0 t147).bind fun t148 => (if t146 = t148 then ((casematelaw02_mul.f kj3 t141 a2).bind fun t149 => ((casematelaw02_mul.f kj3 a0 a2).bind fun t150 => ((casematelaw02_mul.f kj3 a1 a2).bind fun t151 => ((casemateref02_Sum.f kj3 t150 t151).bind fun t152 => (if t149 = t152 then ((casematelaw02_mul.f kj3 t141 t141).bind fun t153 => ((casematelaw02_mul.f kj3 a0 a0).bind fun t154 => ((casematelaw02_mul.f kj3 a1 a1).bind fun t155 => ((casemateref02_Sum.f kj3 t154 t155).bind fun t156 => (if t153 = t156 then ((casematelaw02_mul.f kj3 a0 1).bind fun t157 => (if t157 = a0 then ((casematelaw02_mul.f kj3 a0 0).bind fun t158 => (some (t158 == 0))) else (some false))) else (some false)))))) else (some false)))))) else (some false))) = some r := H
            have A19 := Aside0.mk A190
            clear A190
            replace H := Option.bind_eq_some_iff.mp H
            obtain ⟨t148, A200, H⟩ := H
            replace H : (if t146 = t148 then ((casematelaw02_mul.f kj3 t141 a2).bind fun t149 => ((casematelaw02_mul.f kj3 a0 a2).bind fun t150 => ((casematelaw02_mul.f kj3 a1 a2).bind fun t151 => ((casemateref02_Sum.f kj3 t150 t151).bind fun t152 => (if t149 = t152 then ((casematelaw02_mul.f kj3 t141 t141).bind fun t153 => ((casematelaw02_mul.f kj3 a0 a0).bind fun t154 => ((casematelaw02_mul.f kj3 a1 a1).bind fun t155 => ((casemateref02_Sum.f kj3 t154 t155).bind fun t156 => (if t153 = t156 then ((casematelaw02_mul.f kj3 a0 1).bind fun t157 => (if t157 = a0 then ((casematelaw02_mul.f kj3 a0 0).bind fun t158 => (some (t158 == 0))) else (some false))) else (some false)))))) else (some false)))))) else (some false)) = some r := H
            have A20 := Aside0.mk A200
            clear A200
            by_cases c21 : t146 = t148
            · rw [if_pos c21] at H
              have c21b0 : (t146 == t148) = true := beq_iff_eq.mpr c21
              have c21b1 : (t146 != t148) = false := bne_eq_false_iff_eq.mpr c21
              clear c21
              replace H := Option.bind_eq_some_iff.mp H
              obtain ⟨t149, A220, H⟩ := H
              replace H : ((casematelaw02_mul.f kj3 a0 a2).bind fun t150 => ((casematelaw02_mul.f kj3 a1 a2).bind fun t151 => ((casemateref02_Sum.f kj3 t150 t151).bind fun t152 => (if t149 = t152 then ((casematelaw02_mul.f kj3 t141 t141).bind fun t153 => ((casematelaw02_mul.f kj3 a0 a0).bind fun t154 => ((casematelaw02_mul.f kj3 a1 a1).bind fun t155 => ((casemateref02_Sum.f kj3 t154 t155).bind fun t156 => (if t153 = t156 then ((casematelaw02_mul.f kj3 a0 1).bind fun t157 => (if t157 = a0 then ((casematelaw02_mul.f kj3 a0 0).bind fun t158 => (some (t158 == 0))) else (some false))) else (some false)))))) else (some false))))) = some r := H
              have A22 := Aside0.mk A220
              clear A220
              replace H := Option.bind_eq_some_iff.mp H
              obtain ⟨t150, A230, H⟩ := H
              replace H : ((casematelaw02_mul.f kj3 a1 a2).bind fun t151 => ((casemateref02_Sum.f kj3 t150 t151).bind fun t152 => (if t149 = t152 then ((casematelaw02_mul.f kj3 t141 t141).bind fun t153 => ((casematelaw02_mul.f kj3 a0 a0).bind fun t154 => ((casematelaw02_mul.f kj3 a1 a1).bind fun t155 => ((casemateref02_Sum.f kj3 t154 t155).bind fun t156 => (if t153 = t156 then ((casematelaw02_mul.f kj3 a0 1).bind fun t157 => (if t157 = a0 then ((casematelaw02_mul.f kj3 a0 0).bind fun t158 => (some (t158 == 0))) else (some false))) else (some false)))))) else (some false)))) = some r := H
              have A23 := Aside0.mk A230
              clear A230
              replace H := Option.bind_eq_some_iff.mp H
              obtain ⟨t151, A240, H⟩ := H
              replace H : ((casemateref02_Sum.f kj3 t150 t151).bind fun t152 => (if t149 = t152 then ((casematelaw02_mul.f kj3 t141 t141).bind fun t153 => ((casematelaw02_mul.f kj3 a0 a0).bind fun t154 => ((casematelaw02_mul.f kj3 a1 a1).bind fun t155 => ((casemateref02_Sum.f kj3 t154 t155).bind fun t156 => (if t153 = t156 then ((casematelaw02_mul.f kj3 a0 1).bind fun t157 => (if t157 = a0 then ((casematelaw02_mul.f kj3 a0 0).bind fun t158 => (some (t158 == 0))) else (some false))) else (some false)))))) else (some false))) = some r := H
              have A24 := Aside0.mk A240
              clear A240
              obtain rfl : t147 = t151 := Option.some.inj (A19.out.symm.trans A24.out)
              replace H := Option.bind_eq_some_iff.mp H
              obtain ⟨t152, A250, H⟩ := H
              replace H : (if t149 = t152 then ((casematelaw02_mul.f kj3 t141 t141).bind fun t153 => ((casematelaw02_mul.f kj3 a0 a0).bind fun t154 => ((casematelaw02_mul.f kj3 a1 a1).bind fun t155 => ((casemateref02_Sum.f kj3 t154 t155).bind fun t156 => (if t153 = t156 then ((casematelaw02_mul.f kj3 a0 1).bind fun t157 => (if t157 = a0 then ((casematelaw02_mul.f kj3 a0 0).bind fun t158 => (some (t158 == 0))) else (some false))) else (some false)))))) else (some false)) = some r := H
              have A25 := Aside0.mk A250
              clear A250
              by_cases c26 : t149 = t152
              · rw [if_pos c26] at H
                have c26b0 : (t149 == t152) = true := beq_iff_eq.mpr c26
                have c26b1 : (t149 != t152) = false := bne_eq_false_iff_eq.mpr c26
                clear c26
                replace H := Option.bind_eq_some_iff.mp H
                obtain ⟨t153, A270, H⟩ := H
                replace H : ((casematelaw02_mul.f kj3 a0 a0).bind fun t154 => ((casematelaw02_mul.f kj3 a1 a1).bind fun t155 => ((casemateref02_Sum.f kj3 t154 t155).bind fun t156 => (if t153 = t156 then ((casematelaw02_mul.f kj3 a0 1).bind fun t157 => (if t157 = a0 then ((casematelaw02_mul.f kj3 a0 0).bind fun t158 => (some (t158 == 0))) else (some false))) else (some false))))) = some r := H
                have A27 := Aside0.mk A270
                clear A270
                replace H := Option.bind_eq_some_iff.mp H
                obtain ⟨t154, A280, H⟩ := H
                replace H : ((casematelaw02_mul.f kj3 a1 a1).bind fun t155 => ((casemateref02_Sum.f kj3 t154 t155).bind fun t156 => (if t153 = t156 then ((casematelaw02_mul.f kj3 a0 1).bind fun t157 => (if t157 = a0 then ((casematelaw02_mul.f kj3 a0 0).bind fun t158 => (some (t158 == 0))) else (some false))) else (some false)))) = some r := H
                have A28 := Aside0.mk A280
                clear A280
                replace H := Option.bind_eq_some_iff.mp H
                obtain ⟨t155, A290, H⟩ := H
                replace H : ((casemateref02_Sum.f kj3 t154 t155).bind fun t156 => (if t153 = t156 then ((casematelaw02_mul.f kj3 a0 1).bind fun t157 => (if t157 = a0 then ((casematelaw02_mul.f kj3 a0 0).bind fun t158 => (some (t158 == 0))) else (some false))) else (some false))) = some r := H
                have A29 := Aside0.mk A290
                clear A290
                replace H := Option.bind_eq_some_iff.mp H
                obtain ⟨t156, A300, H⟩ := H
                replace H : (if t153 = t156 then ((casematelaw02_mul.f kj3 a0 1).bind fun t157 => (if t157 = a0 then ((casematelaw02_mul.f kj3 a0 0).bind fun t158 => (some (t158 == 0))) else (some false))) else (some false)) = some r := H
                have A30 := Aside0.mk A300
                clear A300
                by_cases c31 : t153 = t156
                · rw [if_pos c31] at H
                  have c31b0 : (t153 == t156) = true := beq_iff_eq.mpr c31
                  have c31b1 : (t153 != t156) = false := bne_eq_false_iff_eq.mpr c31
                  clear c31
                  replace H := Option.bind_eq_some_iff.mp H
                  obtain ⟨t157, A320, H⟩ := H
                  replace H : (if t157 = a0 then ((casematelaw02_mul.f kj3 a0 0).bind fun t158 => (some (t158 == 0))) else (some false)) = some r := H
                  have A32 := Aside0.mk A320
                  clear A320
                  by_cases c33 : t157 = a0
                  · rw [if_pos c33] at H
                    have c33b0 : (t157 == a0) = true := beq_iff_eq.mpr c33
                    have c33b1 : (t157 != a0) = false := bne_eq_false_iff_eq.mpr c33
                    clear c33
                    replace H := Option.bind_eq_some_iff.mp H
                    obtain ⟨t158, A340, H⟩ := H
                    replace H : (some (t158 == 0)) = some r := H
                    have A34 := Aside0.mk A340
                    clear A340
                    obtain rfl := Option.some.inj H
                    go_wp2_with (first | ((with_reducible refine gate_callee (f := 14) rfl ?_); refine goesL_ (some 23) rfl rfl Try.func14 (by kernel_rfl) rfl #[.int .i64 a0, .int .i64 a1] rfl (by (try simp only [List.map_toArray, List.map_cons, List.map_nil]); first | done | rfl | (simp only [List.length_drop, List.length_take]; rfl)) ?_; (with_reducible refine (casemateref02_Sum.calls kj3 a0 a1 t141 _ A11.out).mono ?_); rintro e w' ⟨rfl, ⟨nd, rfl⟩⟩; refine ⟨_, rfl, ?_⟩) | ((with_reducible refine gate_callee (f := 12) rfl ?_); refine goesL_ (some 24) rfl rfl Try.func12 (by kernel_rfl) rfl #[] rfl (by (try simp only [List.map_toArray, List.map_cons, List.map_nil]); first | done | rfl | (simp only [List.length_drop, List.length_take]; rfl)) ?_; (with_reducible refine (casematelaw02_awake.calls kj3  true _ A12.out).mono ?_); rintro e w' ⟨rfl, ⟨nd, rfl⟩⟩; refine ⟨_, rfl, ?_⟩) | (go_at_call 15; (with_reducible refine (casematelaw02_mul.calls kj3 a0 a1 t143 _ A14.out).mono ?_); rintro e w' ⟨rfl, ⟨nd, rfl⟩⟩) | (go_at_call 15; (with_reducible refine (casematelaw02_mul.calls kj3 a1 a0 t144 _ A15.out).mono ?_); rintro e w' ⟨rfl, ⟨nd, rfl⟩⟩) | (go_at_call 15; (with_reducible refine (casematelaw02_mul.calls kj3 a0 a1 t143 _ A17.out).mono ?_); rintro e w' ⟨rfl, ⟨nd, rfl⟩⟩) | (go_at_call 15; (with_reducible refine (casematelaw02_mul.calls kj3 t143 a2 t146 _ A18.out).mono ?_); rintro e w' ⟨rfl, ⟨nd, rfl⟩⟩) | (go_at_call 15; (with_reducible refine (casematelaw02_mul.calls kj3 a1 a2 t147 _ A19.out).mono ?_); rintro e w' ⟨rfl, ⟨nd, rfl⟩⟩) | (go_at_call 15; (with_reducible refine (casematelaw02_mul.calls kj3 a0 t147 t148 _ A20.out).mono ?_); rintro e w' ⟨rfl, ⟨nd, rfl⟩⟩) | (go_at_call 15; (with_reducible refine (casematelaw02_mul.calls kj3 t141 a2 t149 _ A22.out).mono ?_); rintro e w' ⟨rfl, ⟨nd, rfl⟩⟩) | (go_at_call 15; (with_reducible refine (casematelaw02_mul.calls kj3 a0 a2 t150 _ A23.out).mono ?_); rintro e w' ⟨rfl, ⟨nd, rfl⟩⟩) | (go_at_call 15; (with_reducible refine (casematelaw02_mul.calls kj3 a1 a2 t147 _ A24.out).mono ?_); rintro e w' ⟨rfl, ⟨nd, rfl⟩⟩) | (go_at_call 14; (with_reducible refine (casemateref02_Sum.calls kj3 t150 t147 t152 _ A25.out).mono ?_); rintro e w' ⟨rfl, ⟨nd, rfl⟩⟩) | (go_at_call 15; (with_reducible refine (casematelaw02_mul.calls kj3 t141 t141 t153 _ A27.out).mono ?_); rintro e w' ⟨rfl, ⟨nd, rfl⟩⟩) | (go_at_call 15; (with_reducible refine (casematelaw02_mul.calls kj3 a0 a0 t154 _ A28.out).mono ?_); rintro e w' ⟨rfl, ⟨nd, rfl⟩⟩) | (go_at_call 15; (with_reducible refine (casematelaw02_mul.calls kj3 a1 a1 t155 _ A29.out).mono ?_); rintro e w' ⟨rfl, ⟨nd, rfl⟩⟩) | (go_at_call 14; (with_reducible refine (casemateref02_Sum.calls kj3 t154 t155 t156 _ A30.out).mono ?_); rintro e w' ⟨rfl, ⟨nd, rfl⟩⟩) | (go_at_call 15; (with_reducible refine (casematelaw02_mul.calls kj3 a0 1 t157 _ A32.out).mono ?_); rintro e w' ⟨rfl, ⟨nd, rfl⟩⟩) | (go_at_call 15; (with_reducible refine (casematelaw02_mul.calls kj3 a0 0 t158 _ A34.out).mono ?_); rintro e w' ⟨rfl, ⟨nd, rfl⟩⟩))
                    go_ret
                    exact ⟨by first | rfl | (simp; done) | (simp [*]; done), by repeat (first | exact Drawn0.refl _ | apply Drawn0.step)⟩
                  · rw [if_neg c33] at H
                    have c33b0 : (t157 == a0) = false := beq_eq_false_iff_ne.mpr c33
                    have c33b1 : (t157 != a0) = true := bne_iff_ne.mpr c33
                    obtain rfl := Option.some.inj H
                    go_wp2_with (first | ((with_reducible refine gate_callee (f := 14) rfl ?_); refine goesL_ (some 23) rfl rfl Try.func14 (by kernel_rfl) rfl #[.int .i64 a0, .int .i64 a1] rfl (by (try simp only [List.map_toArray, List.map_cons, List.map_nil]); first | done | rfl | (simp only [List.length_drop, List.length_take]; rfl)) ?_; (with_reducible refine (casemateref02_Sum.calls kj3 a0 a1 t141 _ A11.out).mono ?_); rintro e w' ⟨rfl, ⟨nd, rfl⟩⟩; refine ⟨_, rfl, ?_⟩) | ((with_reducible refine gate_callee (f := 12) rfl ?_); refine goesL_ (some 24) rfl rfl Try.func12 (by kernel_rfl) rfl #[] rfl (by (try simp only [List.map_toArray, List.map_cons, List.map_nil]); first | done | rfl | (simp only [List.length_drop, List.length_take]; rfl)) ?_; (with_reducible refine (casematelaw02_awake.calls kj3  true _ A12.out).mono ?_); rintro e w' ⟨rfl, ⟨nd, rfl⟩⟩; refine ⟨_, rfl, ?_⟩) | (go_at_call 15; (with_reducible refine (casematelaw02_mul.calls kj3 a0 a1 t143 _ A14.out).mono ?_); rintro e w' ⟨rfl, ⟨nd, rfl⟩⟩) | (go_at_call 15; (with_reducible refine (casematelaw02_mul.calls kj3 a1 a0 t144 _ A15.out).mono ?_); rintro e w' ⟨rfl, ⟨nd, rfl⟩⟩) | (go_at_call 15; (with_reducible refine (casematelaw02_mul.calls kj3 a0 a1 t143 _ A17.out).mono ?_); rintro e w' ⟨rfl, ⟨nd, rfl⟩⟩) | (go_at_call 15; (with_reducible refine (casematelaw02_mul.calls kj3 t143 a2 t146 _ A18.out).mono ?_); rintro e w' ⟨rfl, ⟨nd, rfl⟩⟩) | (go_at_call 15; (with_reducible refine (casematelaw02_mul.calls kj3 a1 a2 t147 _ A19.out).mono ?_); rintro e w' ⟨rfl, ⟨nd, rfl⟩⟩) | (go_at_call 15; (with_reducible refine (casematelaw02_mul.calls kj3 a0 t147 t148 _ A20.out).mono ?_); rintro e w' ⟨rfl, ⟨nd, rfl⟩⟩) | (go_at_call 15; (with_reducible refine (casematelaw02_mul.calls kj3 t141 a2 t149 _ A22.out).mono ?_); rintro e w' ⟨rfl, ⟨nd, rfl⟩⟩) | (go_at_call 15; (with_reducible refine (casematelaw02_mul.calls kj3 a0 a2 t150 _ A23.out).mono ?_); rintro e w' ⟨rfl, ⟨nd, rfl⟩⟩) | (go_at_call 15; (with_reducible refine (casematelaw02_mul.calls kj3 a1 a2 t147 _ A24.out).mono ?_); rintro e w' ⟨rfl, ⟨nd, rfl⟩⟩) | (go_at_call 14; (with_reducible refine (casemateref02_Sum.calls kj3 t150 t147 t152 _ A25.out).mono ?_); rintro e w' ⟨rfl, ⟨nd, rfl⟩⟩) | (go_at_call 15; (with_reducible refine (casematelaw02_mul.calls kj3 t141 t141 t153 _ A27.out).mono ?_); rintro e w' ⟨rfl, ⟨nd, rfl⟩⟩) | (go_at_call 15; (with_reducible refine (casematelaw02_mul.calls kj3 a0 a0 t154 _ A28.out).mono ?_); rintro e w' ⟨rfl, ⟨nd, rfl⟩⟩) | (go_at_call 15; (with_reducible refine (casematelaw02_mul.calls kj3 a1 a1 t155 _ A29.out).mono ?_); rintro e w' ⟨rfl, ⟨nd, rfl⟩⟩) | (go_at_call 14; (with_reducible refine (casemateref02_Sum.calls kj3 t154 t155 t156 _ A30.out).mono ?_); rintro e w' ⟨rfl, ⟨nd, rfl⟩⟩) | (go_at_call 15; (with_reducible refine (casematelaw02_mul.calls kj3 a0 1 t157 _ A32.out).mono ?_); rintro e w' ⟨rfl, ⟨nd, rfl⟩⟩))
                    go_ret
                    exact ⟨by first | rfl | (simp; done) | (simp [*]; done), by repeat (first | exact Drawn0.refl _ | apply Drawn0.step)⟩
                · rw [if_neg c31] at H
                  have c31b0 : (t153 == t156) = false := beq_eq_false_iff_ne.mpr c31
                  have c31b1 : (t153 != t156) = true := bne_iff_ne.mpr c31
                  obtain rfl := Option.some.inj H
                  go_wp2_with (first | ((with_reducible refine gate_callee (f := 14) rfl ?_); refine goesL_ (some 23) rfl rfl Try.func14 (by kernel_rfl) rfl #[.int .i64 a0, .int .i64 a1] rfl (by (try simp only [List.map_toArray, List.map_cons, List.map_nil]); first | done | rfl | (simp only [List.length_drop, List.length_take]; rfl)) ?_; (with_reducible refine (casemateref02_Sum.calls kj3 a0 a1 t141 _ A11.out).mono ?_); rintro e w' ⟨rfl, ⟨nd, rfl⟩⟩; refine ⟨_, rfl, ?_⟩) | ((with_reducible refine gate_callee (f := 12) rfl ?_); refine goesL_ (some 24) rfl rfl Try.func12 (by kernel_rfl) rfl #[] rfl (by (try simp only [List.map_toArray, List.map_cons, List.map_nil]); first | done | rfl | (simp only [List.length_drop, List.length_take]; rfl)) ?_; (with_reducible refine (casematelaw02_awake.calls kj3  true _ A12.out).mono ?_); rintro e w' ⟨rfl, ⟨nd, rfl⟩⟩; refine ⟨_, rfl, ?_⟩) | (go_at_call 15; (with_reducible refine (casematelaw02_mul.calls kj3 a0 a1 t143 _ A14.out).mono ?_); rintro e w' ⟨rfl, ⟨nd, rfl⟩⟩) | (go_at_call 15; (with_reducible refine (casematelaw02_mul.calls kj3 a1 a0 t144 _ A15.out).mono ?_); rintro e w' ⟨rfl, ⟨nd, rfl⟩⟩) | (go_at_call 15; (with_reducible refine (casematelaw02_mul.calls kj3 a0 a1 t143 _ A17.out).mono ?_); rintro e w' ⟨rfl, ⟨nd, rfl⟩⟩) | (go_at_call 15; (with_reducible refine (casematelaw02_mul.calls kj3 t143 a2 t146 _ A18.out).mono ?_); rintro e w' ⟨rfl, ⟨nd, rfl⟩⟩) | (go_at_call 15; (with_reducible refine (casematelaw02_mul.calls kj3 a1 a2 t147 _ A19.out).mono ?_); rintro e w' ⟨rfl, ⟨nd, rfl⟩⟩) | (go_at_call 15; (with_reducible refine (casematelaw02_mul.calls kj3 a0 t147 t148 _ A20.out).mono ?_); rintro e w' ⟨rfl, ⟨nd, rfl⟩⟩) | (go_at_call 15; (with_reducible refine (casematelaw02_mul.calls kj3 t141 a2 t149 _ A22.out).mono ?_); rintro e w' ⟨rfl, ⟨nd, rfl⟩⟩) | (go_at_call 15; (with_reducible refine (casematelaw02_mul.calls kj3 a0 a2 t150 _ A23.out).mono ?_); rintro e w' ⟨rfl, ⟨nd, rfl⟩⟩) | (go_at_call 15; (with_reducible refine (casematelaw02_mul.calls kj3 a1 a2 t147 _ A24.out).mono ?_); rintro e w' ⟨rfl, ⟨nd, rfl⟩⟩) | (go_at_call 14; (with_reducible refine (casemateref02_Sum.calls kj3 t150 t147 t152 _ A25.out).mono ?_); rintro e w' ⟨rfl, ⟨nd, rfl⟩⟩) | (go_at_call 15; (with_reducible refine (casematelaw02_mul.calls kj3 t141 t141 t153 _ A27.out).mono ?_); rintro e w' ⟨rfl, ⟨nd, rfl⟩⟩) | (go_at_call 15; (with_reducible refine (casematelaw02_mul.calls kj3 a0 a0 t154 _ A28.out).mono ?_); rintro e w' ⟨rfl, ⟨nd, rfl⟩⟩) | (go_at_call 15; (with_reducible refine (casematelaw02_mul.calls kj3 a1 a1 t155 _ A29.out).mono ?_); rintro e w' ⟨rfl, ⟨nd, rfl⟩⟩) | (go_at_call 14; (with_reducible refine (casemateref02_Sum.calls kj3 t154 t155 t156 _ A30.out).mono ?_); rintro e w' ⟨rfl, ⟨nd, rfl⟩⟩))
                  go_ret
                  exact ⟨by first | rfl | (simp; done) | (simp [*]; done), by repeat (first | exact Drawn0.refl _ | apply Drawn0.step)⟩
              · rw [if_neg c26] at H
                have c26b0 : (t149 == t152) = false := beq_eq_false_iff_ne.mpr c26
                have c26b1 : (t149 != t152) = true := bne_iff_ne.mpr c26
                obtain rfl := Option.some.inj H
                go_wp2_with (first | ((with_reducible refine gate_callee (f := 14) rfl ?_); refine goesL_ (some 23) rfl rfl Try.func14 (by kernel_rfl) rfl #[.int .i64 a0, .int .i64 a1] rfl (by (try simp only [List.map_toArray, List.map_cons, List.map_nil]); first | done | rfl | (simp only [List.length_drop, List.length_take]; rfl)) ?_; (with_reducible refine (casemateref02_Sum.calls kj3 a0 a1 t141 _ A11.out).mono ?_); rintro e w' ⟨rfl, ⟨nd, rfl⟩⟩; refine ⟨_, rfl, ?_⟩) | ((with_reducible refine gate_callee (f := 12) rfl ?_); refine goesL_ (some 24) rfl rfl Try.func12 (by kernel_rfl) rfl #[] rfl (by (try simp only [List.map_toArray, List.map_cons, List.map_nil]); first | done | rfl | (simp only [List.length_drop, List.length_take]; rfl)) ?_; (with_reducible refine (casematelaw02_awake.calls kj3  true _ A12.out).mono ?_); rintro e w' ⟨rfl, ⟨nd, rfl⟩⟩; refine ⟨_, rfl, ?_⟩) | (go_at_call 15; (with_reducible refine (casematelaw02_mul.calls kj3 a0 a1 t143 _ A14.out).mono ?_); rintro e w' ⟨rfl, ⟨nd, rfl⟩⟩) | (go_at_call 15; (with_reducible refine (casematelaw02_mul.calls kj3 a1 a0 t144 _ A15.out).mono ?_); rintro e w' ⟨rfl, ⟨nd, rfl⟩⟩) | (go_at_call 15; (with_reducible refine (casematelaw02_mul.calls kj3 a0 a1 t143 _ A17.out).mono ?_); rintro e w' ⟨rfl, ⟨nd, rfl⟩⟩) | (go_at_call 15; (with_reducible refine (casematelaw02_mul.calls kj3 t143 a2 t146 _ A18.out).mono ?_); rintro e w' ⟨rfl, ⟨nd, rfl⟩⟩) | (go_at_call 15; (with_reducible refine (casematelaw02_mul.calls kj3 a1 a2 t147 _ A19.out).mono ?_); rintro e w' ⟨rfl, ⟨nd, rfl⟩⟩) | (go_at_call 15; (with_reducible refine (casematelaw02_mul.calls kj3 a0 t147 t148 _ A20.out).mono ?_); rintro e w' ⟨rfl, ⟨nd, rfl⟩⟩) | (go_at_call 15; (with_reducible refine (casematelaw02_mul.calls kj3 t141 a2 t149 _ A22.out).mono ?_); rintro e w' ⟨rfl, ⟨nd, rfl⟩⟩) | (go_at_call 15; (with_reducible refine (casematelaw02_mul.calls kj3 a0 a2 t150 _ A23.out).mono ?_); rintro e w' ⟨rfl, ⟨nd, rfl⟩⟩) | (go_at_call 15; (with_reducible refine (casematelaw02_mul.calls kj3 a1 a2 t147 _ A24.out).mono ?_); rintro e w' ⟨rfl, ⟨nd, rfl⟩⟩) | (go_at_call 14; (with_reducible refine (casemateref02_Sum.calls kj3 t150 t147 t152 _ A25.out).mono ?_); rintro e w' ⟨rfl, ⟨nd, rfl⟩⟩))
                go_ret
                exact ⟨by first | rfl | (simp; done) | (simp [*]; done), by repeat (first | exact Drawn0.refl _ | apply Drawn0.step)⟩
            · rw [if_neg c21] at H
              have c21b0 : (t146 == t148) = false := beq_eq_false_iff_ne.mpr c21
              have c21b1 : (t146 != t148) = true := bne_iff_ne.mpr c21
              obtain rfl := Option.some.inj H
              go_wp2_with (first | ((with_reducible refine gate_callee (f := 14) rfl ?_); refine goesL_ (some 23) rfl rfl Try.func14 (by kernel_rfl) rfl #[.int .i64 a0, .int .i64 a1] rfl (by (try simp only [List.map_toArray, List.map_cons, List.map_nil]); first | done | rfl | (simp only [List.length_drop, List.length_take]; rfl)) ?_; (with_reducible refine (casemateref02_Sum.calls kj3 a0 a1 t141 _ A11.out).mono ?_); rintro e w' ⟨rfl, ⟨nd, rfl⟩⟩; refine ⟨_, rfl, ?_⟩) | ((with_reducible refine gate_callee (f := 12) rfl ?_); refine goesL_ (some 24) rfl rfl Try.func12 (by kernel_rfl) rfl #[] rfl (by (try simp only [List.map_toArray, List.map_cons, List.map_nil]); first | done | rfl | (simp only [List.length_drop, List.length_take]; rfl)) ?_; (with_reducible refine (casematelaw02_awake.calls kj3  true _ A12.out).mono ?_); rintro e w' ⟨rfl, ⟨nd, rfl⟩⟩; refine ⟨_, rfl, ?_⟩) | (go_at_call 15; (with_reducible refine (casematelaw02_mul.calls kj3 a0 a1 t143 _ A14.out).mono ?_); rintro e w' ⟨rfl, ⟨nd, rfl⟩⟩) | (go_at_call 15; (with_reducible refine (casematelaw02_mul.calls kj3 a1 a0 t144 _ A15.out).mono ?_); rintro e w' ⟨rfl, ⟨nd, rfl⟩⟩) | (go_at_call 15; (with_reducible refine (casematelaw02_mul.calls kj3 a0 a1 t143 _ A17.out).mono ?_); rintro e w' ⟨rfl, ⟨nd, rfl⟩⟩) | (go_at_call 15; (with_reducible refine (casematelaw02_mul.calls kj3 t143 a2 t146 _ A18.out).mono ?_); rintro e w' ⟨rfl, ⟨nd, rfl⟩⟩) | (go_at_call 15; (with_reducible refine (casematelaw02_mul.calls kj3 a1 a2 t147 _ A19.out).mono ?_); rintro e w' ⟨rfl, ⟨nd, rfl⟩⟩) | (go_at_call 15; (with_reducible refine (casematelaw02_mul.calls kj3 a0 t147 t148 _ A20.out).mono ?_); rintro e w' ⟨rfl, ⟨nd, rfl⟩⟩))
              go_ret
              exact ⟨by first | rfl | (simp; done) | (simp [*]; done), by repeat (first | exact Drawn0.refl _ | apply Drawn0.step)⟩
          · rw [if_neg c16] at H
            have c16b0 : (t143 == t144) = false := beq_eq_false_iff_ne.mpr c16
            have c16b1 : (t143 != t144) = true := bne_iff_ne.mpr c16
            obtain rfl := Option.some.inj H
            go_wp2_with (first | ((with_reducible refine gate_callee (f := 14) rfl ?_); refine goesL_ (some 23) rfl rfl Try.func14 (by kernel_rfl) rfl #[.int .i64 a0, .int .i64 a1] rfl (by (try simp only [List.map_toArray, List.map_cons, List.map_nil]); first | done | rfl | (simp only [List.length_drop, List.length_take]; rfl)) ?_; (with_reducible refine (casemateref02_Sum.calls kj3 a0 a1 t141 _ A11.out).mono ?_); rintro e w' ⟨rfl, ⟨nd, rfl⟩⟩; refine ⟨_, rfl, ?_⟩) | ((with_reducible refine gate_callee (f := 12) rfl ?_); refine goesL_ (some 24) rfl rfl Try.func12 (by kernel_rfl) rfl #[] rfl (by (try simp only [List.map_toArray, List.map_cons, List.map_nil]); first | done | rfl | (simp only [List.length_drop, List.length_take]; rfl)) ?_; (with_reducible refine (casematelaw02_awake.calls kj3  true _ A12.out).mono ?_); rintro e w' ⟨rfl, ⟨nd, rfl⟩⟩; refine ⟨_, rfl, ?_⟩) | (go_at_call 15; (with_reducible refine (casematelaw02_mul.calls kj3 a0 a1 t143 _ A14.out).mono ?_); rintro e w' ⟨rfl, ⟨nd, rfl⟩⟩) | (go_at_call 15; (with_reducible refine (casematelaw02_mul.calls kj3 a1 a0 t144 _ A15.out).mono ?_); rintro e w' ⟨rfl, ⟨nd, rfl⟩⟩))
            go_ret
            exact ⟨by first | rfl | (simp; done) | (simp [*]; done), by repeat (first | exact Drawn0.refl _ | apply Drawn0.step)⟩
        · replace c13 := Bool.eq_false_iff.mpr c13
          subst c13
          have H1 : (some false) = some r := by rw [if_neg (show ¬ (false = true) by decide)] at H; exact H
          clear H
          have H := H1
          clear H1
          obtain rfl := Option.some.inj H
          go_wp2_with (first | ((with_reducible refine gate_callee (f := 14) rfl ?_); refine goesL_ (some 23) rfl rfl Try.func14 (by kernel_rfl) rfl #[.int .i64 a0, .int .i64 a1] rfl (by (try simp only [List.map_toArray, List.map_cons, List.map_nil]); first | done | rfl | (simp only [List.length_drop, List.length_take]; rfl)) ?_; (with_reducible refine (casemateref02_Sum.calls kj3 a0 a1 t141 _ A11.out).mono ?_); rintro e w' ⟨rfl, ⟨nd, rfl⟩⟩; refine ⟨_, rfl, ?_⟩) | ((with_reducible refine gate_callee (f := 12) rfl ?_); refine goesL_ (some 24) rfl rfl Try.func12 (by kernel_rfl) rfl #[] rfl (by (try simp only [List.map_toArray, List.map_cons, List.map_nil]); first | done | rfl | (simp only [List.length_drop, List.length_take]; rfl)) ?_; (with_reducible refine (casematelaw02_awake.calls kj3  false _ A12.out).mono ?_); rintro e w' ⟨rfl, ⟨nd, rfl⟩⟩; refine ⟨_, rfl, ?_⟩))
          go_ret
          exact ⟨by first | rfl | (simp; done) | (simp [*]; done), by repeat (first | exact Drawn0.refl _ | apply Drawn0.step)⟩

/-- THE ONE PURE STATEMENT of casematelaw02_GfLaws: yours. -/
def casematelaw02_GfLaws.Pure : Prop := ∀ (a0 : Int) (a1 : Int) (a2 : Int), (Lit.int .i64 a0).wf = true → (Lit.int .i64 a1).wf = true → (Lit.int .i64 a2).wf = true → ∃ k, casematelaw02_GfLaws.f k a0 a1 a2 = some true
theorem casematelaw02_GfLaws.walk (P : casematelaw02_GfLaws.Pure) (a0 : Int) (a1 : Int) (a2 : Int) (w : World) (w0 : (Lit.int .i64 a0).wf = true) (w1 : (Lit.int .i64 a1).wf = true) (w2 : (Lit.int .i64 a2).wf = true) :
    Calls Try.prog 4 #[.int .i64 a0, .int .i64 a1, .int .i64 a2] w fun e w' => e = .returned (.bool true) ∧ Below w.heap.size w w' := by
  obtain ⟨k, h⟩ := P a0 a1 a2 w0 w1 w2
  refine (casematelaw02_GfLaws.calls k a0 a1 a2 true w h).mono ?_
  rintro e w' ⟨rfl, hd⟩
  exact ⟨rfl, hd.below⟩

end Go.Proofs.Ytbpjhlkcolgmjaa.P

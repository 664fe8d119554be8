/- What Go functions of the translation come to, as plain functions, and that their calls come to just that. No condition but that the plain function answers. (Written by a program of this session.) -/
import Derived.Test.YtbpjhlkcolgmjaaPx0
import Derived.Test.YtbpjhlkcolgmjaaPx1
import Derived.Test.YtbpjhlkcolgmjaaPx2
import Derived.Test.YtbpjhlkcolgmjaaPx8
namespace Go.Proofs.Ytbpjhlkcolgmjaa.P
open Go.RowKit Go.Proofs.YtbpjhlkcolgmjaaW.PrintWords Go.Proofs.YtbpjhlkcolgmjaaW.PrintLast Go.Proofs.YtbpjhlkcolgmjaaW.PrintMore
attribute [local go_sem] max2_int min2_int max_two min_two max_three min_three max_four min_four   -- for this text's walks alone
set_option linter.unusedVariables false
set_option linter.unusedSimpArgs false

/-! ### casematelaw02_GfReckons: function 7 -/
mutual
def casematelaw02_GfReckons.j0 : Nat → Int → Int → Int → Int → Int → Int → Option (Bool)
  | 0, _, _, _, _, _, _ => none
  | k + 1, x0, x2, x9, x10, x11, x12 => if x0 = 0 then (if x2 < 0 then (if x2 = 0 then ((casematelaw02_awake.f k).bind fun t202 => (if t202 = true then (if x10 = 20 then (if x9 = 0 then (if x12 = 20 then (some (x11 == 1)) else (some false)) else (some false)) else (some false)) else (some false))) else ((casematelaw02_awake.f k).bind fun t203 => (if t203 = true then (if x10 = 20 then (if x9 = 0 then (if x12 = 20 then (some (x11 == 0)) else (some false)) else (some false)) else (some false)) else (some false)))) else (if x2 = 0 then ((casematelaw02_awake.f k).bind fun t204 => (if t204 = true then (if x10 = 20 then (if x9 = 0 then (if x12 = 0 then (some (x11 == 1)) else (some false)) else (some false)) else (some false)) else (some false))) else ((casematelaw02_awake.f k).bind fun t205 => (if t205 = true then (if x10 = 20 then (if x9 = 0 then (if x12 = 0 then (some (x11 == 0)) else (some false)) else (some false)) else (some false)) else (some false))))) else (if x10 = 0 then ((casemateref02_Inv.f k x0).bind fun t206 => (if x9 = t206 then (casematelaw02_GfReckons.j1 k x0 x2 x11 (x12 != 0)) else (casematelaw02_GfReckons.j1 k x0 x2 x11 true))) else (casematelaw02_GfReckons.j1 k x0 x2 x11 true))
def casematelaw02_GfReckons.j1 : Nat → Int → Int → Int → Bool → Option (Bool)
  | 0, _, _, _, _ => none
  | k + 1, x0, x2, x11, x118 => if x118 = true then (some false) else (if (Int.tmod x2 8191) < 0 then ((casematelaw02_awake.f k).bind fun t207 => (if t207 = true then ((casemateref02_Pow.f k x0 (wrap64 ((Int.tmod x2 8191) + 8191))).bind fun t208 => (some (x11 == t208))) else (some false))) else ((casematelaw02_awake.f k).bind fun t209 => (if t209 = true then ((casemateref02_Pow.f k x0 (Int.tmod x2 8191)).bind fun t210 => (some (x11 == t210))) else (some false))))
end
def casematelaw02_GfReckons.f (k : Nat) (a0 : Int) (a1 : Int) (a2 : Int) : Option (Bool) := (gf_Mul.f k a0 a1).bind fun bt190 => ((gf_Inv.f k a0).bind fun bt192 => ((gf_Pow.f k a0 a2).bind fun bt194 => ((gf_Exp.f k a2).bind fun t196 => ((casemateref02_Exp.f k a2).bind fun t197 => (if t196 = t197 then ((casemateref02_Is.f a0).bind fun t198 => (if t198 = true then ((casemateref02_Is.f a1).bind fun t200 => (if t200 = true then (if bt190.2 = 0 then ((casemateref02_Mul.f k a0 a1).bind fun t201 => (if bt190.1 = t201 then (casematelaw02_GfReckons.j0 k a0 a2 bt192.1 bt192.2 bt194.1 bt194.2) else (some false))) else (some false)) else (if bt190.2 = 1 then (if bt190.1 = 0 then (casematelaw02_GfReckons.j0 k a0 a2 bt192.1 bt192.2 bt194.1 bt194.2) else (some false)) else (some false)))) else ((casematelaw02_awake.f k).bind fun t199 => (if t199 = true then (if bt190.2 = 1 then (if bt192.2 = bt190.2 then (if bt194.2 = bt190.2 then (some ((wrap64 ((wrap64 (bt190.1 + bt192.1)) + bt194.1)) == 0)) else (some false)) else (some false)) else (some false)) else (some false))))) else (some false))))))
theorem casematelaw02_GfReckons.mono_l : ∀ k, (∀ y0 y1 y2 y3 y4 y5, LeO (casematelaw02_GfReckons.j0 k y0 y1 y2 y3 y4 y5) (casematelaw02_GfReckons.j0 (k + 1) y0 y1 y2 y3 y4 y5)) ∧ (∀ y0 y1 y2 y3, LeO (casematelaw02_GfReckons.j1 k y0 y1 y2 y3) (casematelaw02_GfReckons.j1 (k + 1) y0 y1 y2 y3))
  | 0 => ⟨fun _ _ _ _ _ _ r h => by simp [casematelaw02_GfReckons.j0] at h, fun _ _ _ _ r h => by simp [casematelaw02_GfReckons.j1] at h⟩
  | k + 1 => by
    obtain ⟨ih0, ih1⟩ := casematelaw02_GfReckons.mono_l k
    refine ⟨?_, ?_⟩
    · intro y0 y1 y2 y3 y4 y5
      unfold casematelaw02_GfReckons.j0
      repeat' first
      | (with_reducible exact ih0 _ _ _ _ _ _)
      | (with_reducible exact ih1 _ _ _ _)
      | (with_reducible exact casematelaw02_awake.mono _)
      | (with_reducible exact casemateref02_Exp.mono _ _)
      | (with_reducible exact casemateref02_Inv.mono _ _)
      | (with_reducible exact casemateref02_Mul.mono _ _ _)
      | (with_reducible exact casemateref02_Pow.mono _ _ _)
      | (with_reducible exact gf_Exp.mono _ _)
      | (with_reducible exact gf_Inv.mono _ _)
      | (with_reducible exact gf_Mul.mono _ _ _)
      | (with_reducible exact gf_Pow.mono _ _ _)
      | (with_reducible exact LeO.refl _)
      | (with_reducible exact LeO.none _)
      | (with_reducible refine LeO.ite ?_ ?_)
      | (with_reducible refine LeO.bind ?_ (fun _ => ?_))
      | exact ih0 _ _ _ _ _ _
      | exact ih1 _ _ _ _
      | exact casematelaw02_awake.mono _
      | exact casemateref02_Exp.mono _ _
      | exact casemateref02_Inv.mono _ _
      | exact casemateref02_Mul.mono _ _ _
      | exact casemateref02_Pow.mono _ _ _
      | exact gf_Exp.mono _ _
      | exact gf_Inv.mono _ _
      | exact gf_Mul.mono _ _ _
      | exact gf_Pow.mono _ _ _
      | exact LeO.none _
      | refine LeO.ite ?_ ?_
      | refine LeO.bind ?_ (fun _ => ?_)
    · intro y0 y1 y2 y3
      unfold casematelaw02_GfReckons.j1
      repeat' first
      | (with_reducible exact ih0 _ _ _ _ _ _)
      | (with_reducible exact ih1 _ _ _ _)
      | (with_reducible exact casematelaw02_awake.mono _)
      | (with_reducible exact casemateref02_Exp.mono _ _)
      | (with_reducible exact casemateref02_Inv.mono _ _)
      | (with_reducible exact casemateref02_Mul.mono _ _ _)
      | (with_reducible exact casemateref02_Pow.mono _ _ _)
      | (with_reducible exact gf_Exp.mono _ _)
      | (with_reducible exact gf_Inv.mono _ _)
      | (with_reducible exact gf_Mul.mono _ _ _)
      | (with_reducible exact gf_Pow.mono _ _ _)
      | (with_reducible exact LeO.refl _)
      | (with_reducible exact LeO.none _)
      | (with_reducible refine LeO.ite ?_ ?_)
      | (with_reducible refine LeO.bind ?_ (fun _ => ?_))
      | exact ih0 _ _ _ _ _ _
      | exact ih1 _ _ _ _
      | exact casematelaw02_awake.mono _
      | exact casemateref02_Exp.mono _ _
      | exact casemateref02_Inv.mono _ _
      | exact casemateref02_Mul.mono _ _ _
      | exact casemateref02_Pow.mono _ _ _
      | exact gf_Exp.mono _ _
      | exact gf_Inv.mono _ _
      | exact gf_Mul.mono _ _ _
      | exact gf_Pow.mono _ _ _
      | exact LeO.none _
      | refine LeO.ite ?_ ?_
      | refine LeO.bind ?_ (fun _ => ?_)
theorem casematelaw02_GfReckons.mono : ∀ a0 a1 a2 k, LeO (casematelaw02_GfReckons.f k a0 a1 a2) (casematelaw02_GfReckons.f (k + 1) a0 a1 a2) := by
  intro a0 a1 a2 k
  obtain ⟨ih0, ih1⟩ := casematelaw02_GfReckons.mono_l k
  unfold casematelaw02_GfReckons.f
  repeat' first
      | (with_reducible exact ih0 _ _ _ _ _ _)
      | (with_reducible exact ih1 _ _ _ _)
      | (with_reducible exact casematelaw02_awake.mono _)
      | (with_reducible exact casemateref02_Exp.mono _ _)
      | (with_reducible exact casemateref02_Inv.mono _ _)
      | (with_reducible exact casemateref02_Mul.mono _ _ _)
      | (with_reducible exact casemateref02_Pow.mono _ _ _)
      | (with_reducible exact gf_Exp.mono _ _)
      | (with_reducible exact gf_Inv.mono _ _)
      | (with_reducible exact gf_Mul.mono _ _ _)
      | (with_reducible exact gf_Pow.mono _ _ _)
      | (with_reducible exact LeO.refl _)
      | (with_reducible exact LeO.none _)
      | (with_reducible refine LeO.ite ?_ ?_)
      | (with_reducible refine LeO.bind ?_ (fun _ => ?_))
      | exact ih0 _ _ _ _ _ _
      | exact ih1 _ _ _ _
      | exact casematelaw02_awake.mono _
      | exact casemateref02_Exp.mono _ _
      | exact casemateref02_Inv.mono _ _
      | exact casemateref02_Mul.mono _ _ _
      | exact casemateref02_Pow.mono _ _ _
      | exact gf_Exp.mono _ _
      | exact gf_Inv.mono _ _
      | exact gf_Mul.mono _ _ _
      | exact gf_Pow.mono _ _ _
      | exact LeO.none _
      | refine LeO.ite ?_ ?_
      | refine LeO.bind ?_ (fun _ => ?_)
set_option maxHeartbeats 8000000 in
set_option maxRecDepth 100000 in
theorem casematelaw02_GfReckons.calls (k : Nat) (a0 : Int) (a1 : Int) (a2 : Int) (r : Bool) (w : World) (h : casematelaw02_GfReckons.f k a0 a1 a2 = some r) :
    Calls Try.prog 7 #[.int .i64 a0, .int .i64 a1, .int .i64 a2] w fun e w' => e = .returned (.bool r) ∧ Drawn0 w w' := by
  have H : ((gf_Mul.f k a0 a1).bind fun bt190 => ((gf_Inv.f k a0).bind fun bt192 => ((gf_Pow.f k a0 a2).bind fun bt194 => ((gf_Exp.f k a2).bind fun t196 => ((casemateref02_Exp.f k a2).bind fun t197 => (if t196 = t197 then ((casemateref02_Is.f a0).bind fun t198 => (if t198 = true then ((casemateref02_Is.f a1).bind fun t200 => (if t200 = true then (if bt190.2 = 0 then ((casemateref02_Mul.f k a0 a1).bind fun t201 => (if bt190.1 = t201 then (casematelaw02_GfReckons.j0 k a0 a2 bt192.1 bt192.2 bt194.1 bt194.2) else (some false))) else (some false)) else (if bt190.2 = 1 then (if bt190.1 = 0 then (casematelaw02_GfReckons.j0 k a0 a2 bt192.1 bt192.2 bt194.1 bt194.2) else (some false)) else (some false)))) else ((casematelaw02_awake.f k).bind fun t199 => (if t199 = true then (if bt190.2 = 1 then (if bt192.2 = bt190.2 then (if bt194.2 = bt190.2 then (some ((wrap64 ((wrap64 (bt190.1 + bt192.1)) + bt194.1)) == 0)) else (some false)) else (some false)) else (some false)) else (some false))))) else (some false))))))) = some r := h
  clear h
  replace H := Option.bind_eq_some_iff.mp H
  obtain ⟨⟨t190, t191⟩, A40, H⟩ := H
  replace H : ((gf_Inv.f k a0).bind fun bt192 => ((gf_Pow.f k a0 a2).bind fun bt194 => ((gf_Exp.f k a2).bind fun t196 => ((casemateref02_Exp.f k a2).bind fun t197 => (if t196 = t197 then ((casemateref02_Is.f a0).bind fun t198 => (if t198 = true then ((casemateref02_Is.f a1).bind fun t200 => (if t200 = true then (if t191 = 0 then ((casemateref02_Mul.f k a0 a1).bind fun t201 => (if t190 = t201 then (casematelaw02_GfReckons.j0 k a0 a2 bt192.1 bt192.2 bt194.1 bt194.2) else (some false))) else (some false)) else (if t191 = 1 then (if t190 = 0 then (casematelaw02_GfReckons.j0 k a0 a2 bt192.1 bt192.2 bt194.1 bt194.2) else (some false)) else (some false)))) else ((casematelaw02_awake.f k).bind fun t199 => (if t199 = true then (if t191 = 1 then (if bt192.2 = t191 then (if bt194.2 = t191 then (some ((wrap64 ((wrap64 (t190 + bt192.1)) + bt194.1)) == 0)) else (some false)) else (some false)) else (some false)) else (some false))))) else (some false)))))) = some r := H
  have A4 := Aside0.mk A40
  clear A40
  replace H := Option.bind_eq_some_iff.mp H
  obtain ⟨⟨t192, t193⟩, A50, H⟩ := H
  replace H : ((gf_Pow.f k a0 a2).bind fun bt194 => ((gf_Exp.f k a2).bind fun t196 => ((casemateref02_Exp.f k a2).bind fun t197 => (if t196 = t197 then ((casemateref02_Is.f a0).bind fun t198 => (if t198 = true then ((casemateref02_Is.f a1).bind fun t200 => (if t200 = true then (if t191 = 0 then ((casemateref02_Mul.f k a0 a1).bind fun t201 => (if t190 = t201 then (casematelaw02_GfReckons.j0 k a0 a2 t192 t193 bt194.1 bt194.2) else (some false))) else (some false)) else (if t191 = 1 then (if t190 = 0 then (casematelaw02_GfReckons.j0 k a0 a2 t192 t193 bt194.1 bt194.2) else (some false)) else (some false)))) else ((casematelaw02_awake.f k).bind fun t199 => (if t199 = true then (if t191 = 1 then (if t193 = t191 then (if bt194.2 = t191 then (some ((wrap64 ((wrap64 (t190 + t192)) + bt194.1)) == 0)) else (some false)) else (some false)) else (some false)) else (some false))))) else (some false))))) = some r := H
  have A5 := Aside0.mk A50
  clear A50
  replace H := Option.bind_eq_some_iff.mp H
  obtain ⟨⟨t194, t195⟩, A60, H⟩ := H
  replace H : ((gf_Exp.f k a2).bind fun t196 => ((casemateref02_Exp.f k a2).bind fun t197 => (if t196 = t197 then ((casemateref02_Is.f a0).bind fun t198 => (if t198 = true then ((casemateref02_Is.f a1).bind fun t200 => (if t200 = true then (if t191 = 0 then ((casemateref02_Mul.f k a0 a1).bind fun t201 => (if t190 = t201 then (casematelaw02_GfReckons.j0 k a0 a2 t192 t193 t194 t195) else (some false))) else (some false)) else (if t191 = 1 then (if t190 = 0 then (casematelaw02_GfReckons.j0 k a0 a2 t192 t193 t194 t195) else (some false)) else (some false)))) else ((casematelaw02_awake.f k).bind fun t199 => (if t199 = true then (if t191 = 1 then (if t193 = t191 then (if t195 = t191 then (some ((wrap64 ((wrap64 (t190 + t192)) + t194)) == 0)) else (some false)) else (some false)) else (some false)) else (some false))))) else (some false)))) = some r := H
  have A6 := Aside0.mk A60
  clear A60
  replace H := Option.bind_eq_some_iff.mp H
  obtain ⟨t196, A70, H⟩ := H
  replace H : ((casemateref02_Exp.f k a2).bind fun t197 => (if t196 = t197 then ((casemateref02_Is.f a0).bind fun t198 => (if t198 = true then ((casemateref02_Is.f a1).bind fun t200 => (if t200 = true then (if t191 = 0 then ((casemateref02_Mul.f k a0 a1).bind fun t201 => (if t190 = t201 then (casematelaw02_GfReckons.j0 k a0 a2 t192 t193 t194 t195) else (some false))) else (some false)) else (if t191 = 1 then (if t190 = 0 then (casematelaw02_GfReckons.j0 k a0 a2 t192 t193 t194 t195) else (some false)) else (some false)))) else ((casematelaw02_awake.f k).bind fun t199 => (if t199 = true then (if t191 = 1 then (if t193 = t191 then (if t195 = t191 then (some ((wrap64 ((wrap64 (t190 + t192)) + t194)) == 0)) else (some false)) else (some false)) else (some false)) else (some false))))) else (some false))) = some r := H
  have A7 := Aside0.mk A70
  clear A70
  replace H := Option.bind_eq_some_iff.mp H
  obtain ⟨t197, A80, H⟩ := H
  replace H : (if t196 = t197 then ((casemateref02_Is.f a0).bind fun t198 => (if t198 = true then ((casemateref02_Is.f a1).bind fun t200 => (if t200 = true then (if t191 = 0 then ((casemateref02_Mul.f k a0 a1).bind fun t201 => (if t190 = t201 then (casematelaw02_GfReckons.j0 k a0 a2 t192 t193 t194 t195) else (some false))) else (some false)) else (if t191 = 1 then (if t190 = 0 then (casematelaw02_GfReckons.j0 k a0 a2 t192 t193 t194 t195) else (some false)) else (some false)))) else ((casematelaw02_awake.f k).bind fun t199 => (if t199 = true then (if t191 = 1 then (if t193 = t191 then (if t195 = t191 then (some ((wrap64 ((wrap64 (t190 + t192)) + t194)) == 0)) else (some false)) else (some false)) else (some false)) else (some false))))) else (some false)) = some r := H
  have A8 := Aside0.mk A80
  clear A80
  by_cases c9 : t196 = t197
  · rw [if_pos c9] at H
    have c9b0 : (t196 == t197) = true := beq_iff_eq.mpr c9
    have c9b1 : (t196 != t197) = false := bne_eq_false_iff_eq.mpr c9
    clear c9
    replace H := Option.bind_eq_some_iff.mp H
    obtain ⟨t198, A100, H⟩ := H
    replace H : (if t198 = true then ((casemateref02_Is.f a1).bind fun t200 => (if t200 = true then (if t191 = 0 then ((casemateref02_Mul.f k a0 a1).bind fun t201 => (if t190 = t201 then (casematelaw02_GfReckons.j0 k a0 a2 t192 t193 t194 t195) else (some false))) else (some false)) else (if t191 = 1 then (if t190 = 0 then (casematelaw02_GfReckons.j0 k a0 a2 t192 t193 t194 t195) else (some false)) else (some false)))) else ((casematelaw02_awake.f k).bind fun t199 => (if t199 = true then (if t191 = 1 then (if t193 = t191 then (if t195 = t191 then (some ((wrap64 ((wrap64 (t190 + t192)) + t194)) == 0)) else (some false)) else (some false)) else (some false)) else (some false)))) = some r := H
    have A10 := Aside0.mk A100
    clear A100
    by_cases c11 : t198 = true
    · subst c11
      have H1 : ((casemateref02_Is.f a1).bind fun t200 => (if t200 = true then (if t191 = 0 then ((casemateref02_Mul.f k a0 a1).bind fun t201 => (if t190 = t201 then (casematelaw02_GfReckons.j0 k a0 a2 t192 t193 t194 t195) else (some false))) else (some false)) else (if t191 = 1 then (if t190 = 0 then (casematelaw02_GfReckons.j0 k a0 a2 t192 t193 t194 t195) else (some false)) else (some false)))) = some r := by rw [if_pos rfl] at H; exact H
      clear H
      have H := H1
      clear H1
      replace H := Option.bind_eq_some_iff.mp H
      obtain ⟨t200, A120, H⟩ := H
      replace H : (if t200 = true then (if t191 = 0 then ((casemateref02_Mul.f k a0 a1).bind fun t201 => (if t190 = t201 then (casematelaw02_GfReckons.j0 k a0 a2 t192 t193 t194 t195) else (some false))) else (some false)) else (if t191 = 1 then (if t190 = 0 then (casematelaw02_GfReckons.j0 k a0 a2 t192 t193 t194 t195) else (some false)) else (some false))) = some r := H
      have A12 := Aside0.mk A120
      clear A120
      have HC13 := Aside0.mk H
      clear H
      go_enter Try.func7, Try.ntmps7
      go_upto_if 66 with (first | ((with_reducible refine gate_callee (f := 17) rfl ?_); refine goesL_ (some 19) rfl rfl Try.func17 (by kernel_rfl) rfl #[.int .i64 a0, .int .i64 a1] rfl (by (try simp only [List.map_toArray, List.map_cons, List.map_nil]); first | done | rfl | (simp only [List.length_drop, List.length_take]; rfl)) ?_; (with_reducible refine (gf_Mul.calls k a0 a1 t190 t191 _ A4.out).mono ?_); rintro e w' ⟨rfl, ⟨nd, rfl⟩⟩; refine ⟨_, rfl, ?_⟩) | ((with_reducible refine gate_callee (f := 16) rfl ?_); refine goesL_ (some 24) rfl rfl Try.func16 (by kernel_rfl) rfl #[.int .i64 a0] rfl (by (try simp only [List.map_toArray, List.map_cons, List.map_nil]); first | done | rfl | (simp only [List.length_drop, List.length_take]; rfl)) ?_; (with_reducible refine (gf_Inv.calls k a0 t192 t193 _ A5.out).mono ?_); rintro e w' ⟨rfl, ⟨nd, rfl⟩⟩; refine ⟨_, rfl, ?_⟩) | ((with_reducible refine gate_callee (f := 18) rfl ?_); refine goesL_ (some 30) rfl rfl Try.func18 (by kernel_rfl) rfl #[.int .i64 a0, .int .i64 a2] rfl (by (try simp only [List.map_toArray, List.map_cons, List.map_nil]); first | done | rfl | (simp only [List.length_drop, List.length_take]; rfl)) ?_; (with_reducible refine (gf_Pow.calls k a0 a2 t194 t195 _ A6.out).mono ?_); rintro e w' ⟨rfl, ⟨nd, rfl⟩⟩; refine ⟨_, rfl, ?_⟩) | ((with_reducible refine gate_callee (f := 19) rfl ?_); refine goesL_ (some 34) rfl rfl Try.func19 (by kernel_rfl) rfl #[.int .i64 a2] rfl (by (try simp only [List.map_toArray, List.map_cons, List.map_nil]); first | done | rfl | (simp only [List.length_drop, List.length_take]; rfl)) ?_; (with_reducible refine (gf_Exp.calls k a2 t196 _ A7.out).mono ?_); rintro e w' ⟨rfl, ⟨nd, rfl⟩⟩; refine ⟨_, rfl, ?_⟩) | ((with_reducible refine gate_callee (f := 13) rfl ?_); refine goesL_ (some 36) rfl rfl Try.func13 (by kernel_rfl) rfl #[.int .i64 a2] rfl (by (try simp only [List.map_toArray, List.map_cons, List.map_nil]); first | done | rfl | (simp only [List.length_drop, List.length_take]; rfl)) ?_; (with_reducible refine (casemateref02_Exp.calls k a2 t197 _ A8.out).mono ?_); rintro e w' ⟨rfl, ⟨nd, rfl⟩⟩; refine ⟨_, rfl, ?_⟩) | ((with_reducible refine gate_callee (f := 11) rfl ?_); refine goesL_ (some 39) rfl rfl Try.func11 (by kernel_rfl) rfl #[.int .i64 a0] rfl (by (try simp only [List.map_toArray, List.map_cons, List.map_nil]); first | done | rfl | (simp only [List.length_drop, List.length_take]; rfl)) ?_; (with_reducible refine (casemateref02_Is.calls a0 true _ A10.out).mono ?_); rintro e w' ⟨rfl, ⟨nd, rfl⟩⟩; refine ⟨_, rfl, ?_⟩) | ((with_reducible refine gate_callee (f := 11) rfl ?_); refine goesL_ (some 65) rfl rfl Try.func11 (by kernel_rfl) rfl #[.int .i64 a1] rfl (by (try simp only [List.map_toArray, List.map_cons, List.map_nil]); first | done | rfl | (simp only [List.length_drop, List.length_take]; rfl)) ?_; (with_reducible refine (casemateref02_Is.calls a1 t200 _ A12.out).mono ?_); rintro e w' ⟨rfl, ⟨nd, rfl⟩⟩; refine ⟨_, rfl, ?_⟩))
      (try simp only [Act.put, List.setIfInBounds_toArray, List.set_cons_zero, List.set_cons_succ])
      go_cut [] (fun wc => ∃ (kq : Nat), Aside0 (casematelaw02_GfReckons.j0 kq a0 a2 t192 t193 t194 t195 = some r) ∧ Aside0 (kq ≤ k) ∧ Drawn0 w wc)
      case first =>
        have H := HC13.out
        clear HC13
        by_cases c14 : t200 = true
        · subst c14
          have H1 : (if t191 = 0 then ((casemateref02_Mul.f k a0 a1).bind fun t201 => (if t190 = t201 then (casematelaw02_GfReckons.j0 k a0 a2 t192 t193 t194 t195) else (some false))) else (some false)) = some r := by rw [if_pos rfl] at H; exact H
          clear H
          have H := H1
          clear H1
          by_cases c15 : t191 = 0
          · rw [if_pos c15] at H
            have c15b0 : (t191 == 0) = true := beq_iff_eq.mpr c15
            have c15b1 : (t191 != 0) = false := bne_eq_false_iff_eq.mpr c15
            clear c15
            (first | rw [c15b0] | (simp only [i64_w, i32_w]; rw [c15b0]) | skip)
            replace H := Option.bind_eq_some_iff.mp H
            obtain ⟨t201, A160, H⟩ := H
            replace H : (if t190 = t201 then (casematelaw02_GfReckons.j0 k a0 a2 t192 t193 t194 t195) else (some false)) = some r := H
            have A16 := Aside0.mk A160
            clear A160
            by_cases c17 : t190 = t201
            · rw [if_pos c17] at H
              have c17b0 : (t190 == t201) = true := beq_iff_eq.mpr c17
              have c17b1 : (t190 != t201) = false := bne_eq_false_iff_eq.mpr c17
              clear c17
              have H' := Aside0.mk H
              clear H
              go_wp2_with (first | (go_at_call 20; (with_reducible refine (casemateref02_Mul.calls k a0 a1 t201 _ A16.out).mono ?_); rintro e w' ⟨rfl, ⟨nd, rfl⟩⟩))
              go_meet
              case rel => exact ⟨_, H', ⟨by first | omega | exact Nat.le_refl _⟩, by repeat (first | exact Drawn0.refl _ | apply Drawn0.step)⟩
            · rw [if_neg c17] at H
              have c17b0 : (t190 == t201) = false := beq_eq_false_iff_ne.mpr c17
              have c17b1 : (t190 != t201) = true := bne_iff_ne.mpr c17
              obtain rfl := Option.some.inj H
              go_wp2_with (first | (go_at_call 20; (with_reducible refine (casemateref02_Mul.calls k a0 a1 t201 _ A16.out).mono ?_); rintro e w' ⟨rfl, ⟨nd, rfl⟩⟩))
              go_ret
              exact ⟨by first | rfl | (simp; done) | (simp [*]; done), by repeat (first | exact Drawn0.refl _ | apply Drawn0.step)⟩
          · rw [if_neg c15] at H
            have c15b0 : (t191 == 0) = false := beq_eq_false_iff_ne.mpr c15
            have c15b1 : (t191 != 0) = true := bne_iff_ne.mpr c15
            (first | rw [c15b0] | (simp only [i64_w, i32_w]; rw [c15b0]) | skip)
            obtain rfl := Option.some.inj H
            go_wp2
            go_ret
            exact ⟨by first | rfl | (simp; done) | (simp [*]; done), by repeat (first | exact Drawn0.refl _ | apply Drawn0.step)⟩
        · replace c14 := Bool.eq_false_iff.mpr c14
          subst c14
          have H1 : (if t191 = 1 then (if t190 = 0 then (casematelaw02_GfReckons.j0 k a0 a2 t192 t193 t194 t195) else (some false)) else (some false)) = some r := by rw [if_neg (show ¬ (false = true) by decide)] at H; exact H
          clear H
          have H := H1
          clear H1
          by_cases c18 : t191 = 1
          · rw [if_pos c18] at H
            have c18b0 : (t191 == 1) = true := beq_iff_eq.mpr c18
            have c18b1 : (t191 != 1) = false := bne_eq_false_iff_eq.mpr c18
            clear c18
            by_cases c19 : t190 = 0
            · rw [if_pos c19] at H
              have c19b0 : (t190 == 0) = true := beq_iff_eq.mpr c19
              have c19b1 : (t190 != 0) = false := bne_eq_false_iff_eq.mpr c19
              clear c19
              have H' := Aside0.mk H
              clear H
              go_wp2
              go_meet
              case rel => exact ⟨_, H', ⟨by first | omega | exact Nat.le_refl _⟩, by repeat (first | exact Drawn0.refl _ | apply Drawn0.step)⟩
            · rw [if_neg c19] at H
              have c19b0 : (t190 == 0) = false := beq_eq_false_iff_ne.mpr c19
              have c19b1 : (t190 != 0) = true := bne_iff_ne.mpr c19
              obtain rfl := Option.some.inj H
              go_wp2
              go_ret
              exact ⟨by first | rfl | (simp; done) | (simp [*]; done), by repeat (first | exact Drawn0.refl _ | apply Drawn0.step)⟩
          · rw [if_neg c18] at H
            have c18b0 : (t191 == 1) = false := beq_eq_false_iff_ne.mpr c18
            have c18b1 : (t191 != 1) = true := bne_iff_ne.mpr c18
            obtain rfl := Option.some.inj H
            go_wp2
            go_ret
            exact ⟨by first | rfl | (simp; done) | (simp [*]; done), by repeat (first | exact Drawn0.refl _ | apply Drawn0.step)⟩
      case rest =>
        clear HC13
        try clear c1
        try clear p2
        try clear p6
        try clear c7
        try clear c9
        try clear c9b0
        try clear c9b1
        try clear c11
        try clear c13
        try clear c14
        try clear c15
        try clear c15b0
        try clear c15b1
        try clear c16
        try clear c17
        try clear c17b0
        try clear c17b1
        try clear c18
        try clear c18b0
        try clear c18b1
        try clear c19
        try clear c19b0
        try clear c19b1
        obtain ⟨kq, HA, HJ12, ⟨mc12, rfl⟩⟩ := hcut
        cases kq with
        | zero => exact absurd HA.out (by simp [casematelaw02_GfReckons.j0])
        | succ kj12 =>
          have H := HA.out
          clear HA
          simp only [casematelaw02_GfReckons.j0] at H
          by_cases c20 : a0 = 0
          · rw [if_pos c20] at H
            have c20b0 : (a0 == 0) = true := beq_iff_eq.mpr c20
            have c20b1 : (a0 != 0) = false := bne_eq_false_iff_eq.mpr c20
            clear c20
            by_cases c21 : a2 < 0
            · rw [if_pos c21] at H
              have c21b0 : decide (a2 < 0) = true := decide_eq_true c21
              clear c21
              by_cases c22 : a2 = 0
              · rw [if_pos c22] at H
                have c22b0 : (a2 == 0) = true := beq_iff_eq.mpr c22
                have c22b1 : (a2 != 0) = false := bne_eq_false_iff_eq.mpr c22
                clear c22
                replace H := Option.bind_eq_some_iff.mp H
                obtain ⟨t202, A230, H⟩ := H
                replace H : (if t202 = true then (if t193 = 20 then (if t192 = 0 then (if t195 = 20 then (some (t194 == 1)) else (some false)) else (some false)) else (some false)) else (some false)) = some r := H
                have A23 := Aside0.mk A230
                clear A230
                by_cases c24 : t202 = true
                · subst c24
                  have H1 : (if t193 = 20 then (if t192 = 0 then (if t195 = 20 then (some (t194 == 1)) else (some false)) else (some false)) else (some false)) = some r := by rw [if_pos rfl] at H; exact H
                  clear H
                  have H := H1
                  clear H1
                  by_cases c25 : t193 = 20
                  · rw [if_pos c25] at H
                    have c25b0 : (t193 == 20) = true := beq_iff_eq.mpr c25
                    have c25b1 : (t193 != 20) = false := bne_eq_false_iff_eq.mpr c25
                    clear c25
                    by_cases c26 : t192 = 0
                    · rw [if_pos c26] at H
                      have c26b0 : (t192 == 0) = true := beq_iff_eq.mpr c26
                      have c26b1 : (t192 != 0) = false := bne_eq_false_iff_eq.mpr c26
                      clear c26
                      by_cases c27 : t195 = 20
                      · rw [if_pos c27] at H
                        have c27b0 : (t195 == 20) = true := beq_iff_eq.mpr c27
                        have c27b1 : (t195 != 20) = false := bne_eq_false_iff_eq.mpr c27
                        clear c27
                        obtain rfl := Option.some.inj H
                        go_wp2_with (first | ((with_reducible refine gate_callee (f := 12) rfl ?_); refine goesL_ (some 88) rfl rfl Try.func12 (by kernel_rfl) rfl #[] rfl (by (try simp only [List.map_toArray, List.map_cons, List.map_nil]); first | done | rfl | (simp only [List.length_drop, List.length_take]; rfl)) ?_; (with_reducible refine (casematelaw02_awake.calls kj12  true _ A23.out).mono ?_); rintro e w' ⟨rfl, ⟨nd, rfl⟩⟩; refine ⟨_, rfl, ?_⟩))
                        go_ret
                        exact ⟨by first | rfl | (simp; done) | (simp [*]; done), by repeat (first | exact Drawn0.refl _ | apply Drawn0.step)⟩
                      · rw [if_neg c27] at H
                        have c27b0 : (t195 == 20) = false := beq_eq_false_iff_ne.mpr c27
                        have c27b1 : (t195 != 20) = true := bne_iff_ne.mpr c27
                        obtain rfl := Option.some.inj H
                        go_wp2_with (first | ((with_reducible refine gate_callee (f := 12) rfl ?_); refine goesL_ (some 88) rfl rfl Try.func12 (by kernel_rfl) rfl #[] rfl (by (try simp only [List.map_toArray, List.map_cons, List.map_nil]); first | done | rfl | (simp only [List.length_drop, List.length_take]; rfl)) ?_; (with_reducible refine (casematelaw02_awake.calls kj12  true _ A23.out).mono ?_); rintro e w' ⟨rfl, ⟨nd, rfl⟩⟩; refine ⟨_, rfl, ?_⟩))
                        go_ret
                        exact ⟨by first | rfl | (simp; done) | (simp [*]; done), by repeat (first | exact Drawn0.refl _ | apply Drawn0.step)⟩
                    · rw [if_neg c26] at H
                      have c26b0 : (t192 == 0) = false := beq_eq_false_iff_ne.mpr c26
                      have c26b1 : (t192 != 0) = true := bne_iff_ne.mpr c26
                      obtain rfl := Option.some.inj H
                      go_wp2_with (first | ((with_reducible refine gate_callee (f := 12) rfl ?_); refine goesL_ (some 88) rfl rfl Try.func12 (by kernel_rfl) rfl #[] rfl (by (try simp only [List.map_toArray, List.map_cons, List.map_nil]); first | done | rfl | (simp only [List.length_drop, List.length_take]; rfl)) ?_; (with_reducible refine (casematelaw02_awake.calls kj12  true _ A23.out).mono ?_); rintro e w' ⟨rfl, ⟨nd, rfl⟩⟩; refine ⟨_, rfl, ?_⟩))
                      go_ret
                      exact ⟨by first | rfl | (simp; done) | (simp [*]; done), by repeat (first | exact Drawn0.refl _ | apply Drawn0.step)⟩
                  · rw [if_neg c25] at H
                    have c25b0 : (t193 == 20) = false := beq_eq_false_iff_ne.mpr c25
                    have c25b1 : (t193 != 20) = true := bne_iff_ne.mpr c25
                    obtain rfl := Option.some.inj H
                    go_wp2_with (first | ((with_reducible refine gate_callee (f := 12) rfl ?_); refine goesL_ (some 88) rfl rfl Try.func12 (by kernel_rfl) rfl #[] rfl (by (try simp only [List.map_toArray, List.map_cons, List.map_nil]); first | done | rfl | (simp only [List.length_drop, List.length_take]; rfl)) ?_; (with_reducible refine (casematelaw02_awake.calls kj12  true _ A23.out).mono ?_); rintro e w' ⟨rfl, ⟨nd, rfl⟩⟩; refine ⟨_, rfl, ?_⟩))
                    go_ret
                    exact ⟨by first | rfl | (simp; done) | (simp [*]; done), by repeat (first | exact Drawn0.refl _ | apply Drawn0.step)⟩
                · replace c24 := Bool.eq_false_iff.mpr c24
                  subst c24
                  have H1 : (some false) = some r := by rw [if_neg (show ¬ (false = true) by decide)] at H; exact H
                  clear H
                  have H := H1
                  clear H1
                  obtain rfl := Option.some.inj H
                  go_wp2_with (first | ((with_reducible refine gate_callee (f := 12) rfl ?_); refine goesL_ (some 88) rfl rfl Try.func12 (by kernel_rfl) rfl #[] rfl (by (try simp only [List.map_toArray, List.map_cons, List.map_nil]); first | done | rfl | (simp only [List.length_drop, List.length_take]; rfl)) ?_; (with_reducible refine (casematelaw02_awake.calls kj12  false _ A23.out).mono ?_); rintro e w' ⟨rfl, ⟨nd, rfl⟩⟩; refine ⟨_, rfl, ?_⟩))
                  go_ret
                  exact ⟨by first | rfl | (simp; done) | (simp [*]; done), by repeat (first | exact Drawn0.refl _ | apply Drawn0.step)⟩
              · rw [if_neg c22] at H
                have c22b0 : (a2 == 0) = false := beq_eq_false_iff_ne.mpr c22
                have c22b1 : (a2 != 0) = true := bne_iff_ne.mpr c22
                replace H := Option.bind_eq_some_iff.mp H
                obtain ⟨t203, A280, H⟩ := H
                replace H : (if t203 = true then (if t193 = 20 then (if t192 = 0 then (if t195 = 20 then (some (t194 == 0)) else (some false)) else (some false)) else (some false)) else (some false)) = some r := H
                have A28 := Aside0.mk A280
                clear A280
                by_cases c29 : t203 = true
                · subst c29
                  have H1 : (if t193 = 20 then (if t192 = 0 then (if t195 = 20 then (some (t194 == 0)) else (some false)) else (some false)) else (some false)) = some r := by rw [if_pos rfl] at H; exact H
                  clear H
                  have H := H1
                  clear H1
                  by_cases c30 : t193 = 20
                  · rw [if_pos c30] at H
                    have c30b0 : (t193 == 20) = true := beq_iff_eq.mpr c30
                    have c30b1 : (t193 != 20) = false := bne_eq_false_iff_eq.mpr c30
                    clear c30
                    by_cases c31 : t192 = 0
                    · rw [if_pos c31] at H
                      have c31b0 : (t192 == 0) = true := beq_iff_eq.mpr c31
                      have c31b1 : (t192 != 0) = false := bne_eq_false_iff_eq.mpr c31
                      clear c31
                      by_cases c32 : t195 = 20
                      · rw [if_pos c32] at H
                        have c32b0 : (t195 == 20) = true := beq_iff_eq.mpr c32
                        have c32b1 : (t195 != 20) = false := bne_eq_false_iff_eq.mpr c32
                        clear c32
                        obtain rfl := Option.some.inj H
                        go_wp2_with (first | ((with_reducible refine gate_callee (f := 12) rfl ?_); refine goesL_ (some 88) rfl rfl Try.func12 (by kernel_rfl) rfl #[] rfl (by (try simp only [List.map_toArray, List.map_cons, List.map_nil]); first | done | rfl | (simp only [List.length_drop, List.length_take]; rfl)) ?_; (with_reducible refine (casematelaw02_awake.calls kj12  true _ A28.out).mono ?_); rintro e w' ⟨rfl, ⟨nd, rfl⟩⟩; refine ⟨_, rfl, ?_⟩))
                        go_ret
                        exact ⟨by first | rfl | (simp; done) | (simp [*]; done), by repeat (first | exact Drawn0.refl _ | apply Drawn0.step)⟩
                      · rw [if_neg c32] at H
                        have c32b0 : (t195 == 20) = false := beq_eq_false_iff_ne.mpr c32
                        have c32b1 : (t195 != 20) = true := bne_iff_ne.mpr c32
                        obtain rfl := Option.some.inj H
                        go_wp2_with (first | ((with_reducible refine gate_callee (f := 12) rfl ?_); refine goesL_ (some 88) rfl rfl Try.func12 (by kernel_rfl) rfl #[] rfl (by (try simp only [List.map_toArray, List.map_cons, List.map_nil]); first | done | rfl | (simp only [List.length_drop, List.length_take]; rfl)) ?_; (with_reducible refine (casematelaw02_awake.calls kj12  true _ A28.out).mono ?_); rintro e w' ⟨rfl, ⟨nd, rfl⟩⟩; refine ⟨_, rfl, ?_⟩))
                        go_ret
                        exact ⟨by first | rfl | (simp; done) | (simp [*]; done), by repeat (first | exact Drawn0.refl _ | apply Drawn0.step)⟩
                    · rw [if_neg c31] at H
                      have c31b0 : (t192 == 0) = false := beq_eq_false_iff_ne.mpr c31
                      have c31b1 : (t192 != 0) = true := bne_iff_ne.mpr c31
                      obtain rfl := Option.some.inj H
                      go_wp2_with (first | ((with_reducible refine gate_callee (f := 12) rfl ?_); refine goesL_ (some 88) rfl rfl Try.func12 (by kernel_rfl) rfl #[] rfl (by (try simp only [List.map_toArray, List.map_cons, List.map_nil]); first | done | rfl | (simp only [List.length_drop, List.length_take]; rfl)) ?_; (with_reducible refine (casematelaw02_awake.calls kj12  true _ A28.out).mono ?_); rintro e w' ⟨rfl, ⟨nd, rfl⟩⟩; refine ⟨_, rfl, ?_⟩))
                      go_ret
                      exact ⟨by first | rfl | (simp; done) | (simp [*]; done), by repeat (first | exact Drawn0.refl _ | apply Drawn0.step)⟩
                  · rw [if_neg c30] at H
                    have c30b0 : (t193 == 20) = false := beq_eq_false_iff_ne.mpr c30
                    have c30b1 : (t193 != 20) = true := bne_iff_ne.mpr c30
                    obtain rfl := Option.some.inj H
                    go_wp2_with (first | ((with_reducible refine gate_callee (f := 12) rfl ?_); refine goesL_ (some 88) rfl rfl Try.func12 (by kernel_rfl) rfl #[] rfl (by (try simp only [List.map_toArray, List.map_cons, List.map_nil]); first | done | rfl | (simp only [List.length_drop, List.length_take]; rfl)) ?_; (with_reducible refine (casematelaw02_awake.calls kj12  true _ A28.out).mono ?_); rintro e w' ⟨rfl, ⟨nd, rfl⟩⟩; refine ⟨_, rfl, ?_⟩))
                    go_ret
                    exact ⟨by first | rfl | (simp; done) | (simp [*]; done), by repeat (first | exact Drawn0.refl _ | apply Drawn0.step)⟩
                · replace c29 := Bool.eq_false_iff.mpr c29
                  subst c29
                  have H1 : (some false) = some r := by rw [if_neg (show ¬ (false = true) by decide)] at H; exact H
                  clear H
                  have H := H1
                  clear H1
                  obtain rfl := Option.some.inj H
                  go_wp2_with (first | ((with_reducible refine gate_callee (f := 12) rfl ?_); refine goesL_ (some 88) rfl rfl Try.func12 (by kernel_rfl) rfl #[] rfl (by (try simp only [List.map_toArray, List.map_cons, List.map_nil]); first | done | rfl | (simp only [List.length_drop, List.length_take]; rfl)) ?_; (with_reducible refine (casematelaw02_awake.calls kj12  false _ A28.out).mono ?_); rintro e w' ⟨rfl, ⟨nd, rfl⟩⟩; refine ⟨_, rfl, ?_⟩))
                  go_ret
                  exact ⟨by first | rfl | (simp; done) | (simp [*]; done), by repeat (first | exact Drawn0.refl _ | apply Drawn0.step)⟩
            · rw [if_neg c21] at H
              have c21b0 : decide (a2 < 0) = false := decide_eq_false c21
              clear c21
              by_cases c33 : a2 = 0
              · rw [if_pos c33] at H
                have c33b0 : (a2 == 0) = true := beq_iff_eq.mpr c33
                have c33b1 : (a2 != 0) = false := bne_eq_false_iff_eq.mpr c33
                clear c33
                replace H := Option.bind_eq_some_iff.mp H
                obtain ⟨t204, A340, H⟩ := H
                replace H : (if t204 = true then (if t193 = 20 then (if t192 = 0 then (if t195 = 0 then (some (t194 == 1)) else (some false)) else (some false)) else (some false)) else (some false)) = some r := H
                have A34 := Aside0.mk A340
                clear A340
                by_cases c35 : t204 = true
                · subst c35
                  have H1 : (if t193 = 20 then (if t192 = 0 then (if t195 = 0 then (some (t194 == 1)) else (some false)) else (some false)) else (some false)) = some r := by rw [if_pos rfl] at H; exact H
                  clear H
                  have H := H1
                  clear H1
                  by_cases c36 : t193 = 20
                  · rw [if_pos c36] at H
                    have c36b0 : (t193 == 20) = true := beq_iff_eq.mpr c36
                    have c36b1 : (t193 != 20) = false := bne_eq_false_iff_eq.mpr c36
                    clear c36
                    by_cases c37 : t192 = 0
                    · rw [if_pos c37] at H
                      have c37b0 : (t192 == 0) = true := beq_iff_eq.mpr c37
                      have c37b1 : (t192 != 0) = false := bne_eq_false_iff_eq.mpr c37
                      clear c37
                      by_cases c38 : t195 = 0
                      · rw [if_pos c38] at H
                        have c38b0 : (t195 == 0) = true := beq_iff_eq.mpr c38
                        have c38b1 : (t195 != 0) = false := bne_eq_false_iff_eq.mpr c38
                        clear c38
                        obtain rfl := Option.some.inj H
                        go_wp2_with (first | ((with_reducible refine gate_callee (f := 12) rfl ?_); refine goesL_ (some 88) rfl rfl Try.func12 (by kernel_rfl) rfl #[] rfl (by (try simp only [List.map_toArray, List.map_cons, List.map_nil]); first | done | rfl | (simp only [List.length_drop, List.length_take]; rfl)) ?_; (with_reducible refine (casematelaw02_awake.calls kj12  true _ A34.out).mono ?_); rintro e w' ⟨rfl, ⟨nd, rfl⟩⟩; refine ⟨_, rfl, ?_⟩))
                        go_ret
                        exact ⟨by first | rfl | (simp; done) | (simp [*]; done), by repeat (first | exact Drawn0.refl _ | apply Drawn0.step)⟩
                      · rw [if_neg c38] at H
                        have c38b0 : (t195 == 0) = false := beq_eq_false_iff_ne.mpr c38
                        have c38b1 : (t195 != 0) = true := bne_iff_ne.mpr c38
                        obtain rfl := Option.some.inj H
                        go_wp2_with (first | ((with_reducible refine gate_callee (f := 12) rfl ?_); refine goesL_ (some 88) rfl rfl Try.func12 (by kernel_rfl) rfl #[] rfl (by (try simp only [List.map_toArray, List.map_cons, List.map_nil]); first | done | rfl | (simp only [List.length_drop, List.length_take]; rfl)) ?_; (with_reducible refine (casematelaw02_awake.calls kj12  true _ A34.out).mono ?_); rintro e w' ⟨rfl, ⟨nd, rfl⟩⟩; refine ⟨_, rfl, ?_⟩))
                        go_ret
                        exact ⟨by first | rfl | (simp; done) | (simp [*]; done), by repeat (first | exact Drawn0.refl _ | apply Drawn0.step)⟩
                    · rw [if_neg c37] at H
                      have c37b0 : (t192 == 0) = false := beq_eq_false_iff_ne.mpr c37
                      have c37b1 : (t192 != 0) = true := bne_iff_ne.mpr c37
                      obtain rfl := Option.some.inj H
                      go_wp2_with (first | ((with_reducible refine gate_callee (f := 12) rfl ?_); refine goesL_ (some 88) rfl rfl Try.func12 (by kernel_rfl) rfl #[] rfl (by (try simp only [List.map_toArray, List.map_cons, List.map_nil]); first | done | rfl | (simp only [List.length_drop, List.length_take]; rfl)) ?_; (with_reducible refine (casematelaw02_awake.calls kj12  true _ A34.out).mono ?_); rintro e w' ⟨rfl, ⟨nd, rfl⟩⟩; refine ⟨_, rfl, ?_⟩))
                      go_ret
                      exact ⟨by first | rfl | (simp; done) | (simp [*]; done), by repeat (first | exact Drawn0.refl _ | apply Drawn0.step)⟩
                  · rw [if_neg c36] at H
                    have c36b0 : (t193 == 20) = false := beq_eq_false_iff_ne.mpr c36
                    have c36b1 : (t193 != 20) = true := bne_iff_ne.mpr c36
                    obtain rfl := Option.some.inj H
                    go_wp2_with (first | ((with_reducible refine gate_callee (f := 12) rfl ?_); refine goesL_ (some 88) rfl rfl Try.func12 (by kernel_rfl) rfl #[] rfl (by (try simp only [List.map_toArray, List.map_cons, List.map_nil]); first | done | rfl | (simp only [List.length_drop, List.length_take]; rfl)) ?_; (with_reducible refine (casematelaw02_awake.calls kj12  true _ A34.out).mono ?_); rintro e w' ⟨rfl, ⟨nd, rfl⟩⟩; refine ⟨_, rfl, ?_⟩))
                    go_ret
                    exact ⟨by first | rfl | (simp; done) | (simp [*]; done), by repeat (first | exact Drawn0.refl _ | apply Drawn0.step)⟩
                · replace c35 := Bool.eq_false_iff.mpr c35
                  subst c35
                  have H1 : (some false) = some r := by rw [if_neg (show ¬ (false = true) by decide)] at H; exact H
                  clear H
                  have H := H1
                  clear H1
                  obtain rfl := Option.some.inj H
                  go_wp2_with (first | ((with_reducible refine gate_callee (f := 12) rfl ?_); refine goesL_ (some 88) rfl rfl Try.func12 (by kernel_rfl) rfl #[] rfl (by (try simp only [List.map_toArray, List.map_cons, List.map_nil]); first | done | rfl | (simp only [List.length_drop, List.length_take]; rfl)) ?_; (with_reducible refine (casematelaw02_awake.calls kj12  false _ A34.out).mono ?_); rintro e w' ⟨rfl, ⟨nd, rfl⟩⟩; refine ⟨_, rfl, ?_⟩))
                  go_ret
                  exact ⟨by first | rfl | (simp; done) | (simp [*]; done), by repeat (first | exact Drawn0.refl _ | apply Drawn0.step)⟩
              · rw [if_neg c33] at H
                have c33b0 : (a2 == 0) = false := beq_eq_false_iff_ne.mpr c33
                have c33b1 : (a2 != 0) = true := bne_iff_ne.mpr c33
                replace H := Option.bind_eq_some_iff.mp H
                obtain ⟨t205, A390, H⟩ := H
                replace H : (if t205 = true then (if t193 = 20 then (if t192 = 0 then (if t195 = 0 then (some (t194 == 0)) else (some false)) else (some false)) else (some false)) else (some false)) = some r := H
                have A39 := Aside0.mk A390
                clear A390
                by_cases c40 : t205 = true
                · subst c40
                  have H1 : (if t193 = 20 then (if t192 = 0 then (if t195 = 0 then (some (t194 == 0)) else (some false)) else (some false)) else (some false)) = some r := by rw [if_pos rfl] at H; exact H
                  clear H
                  have H := H1
                  clear H1
                  by_cases c41 : t193 = 20
                  · rw [if_pos c41] at H
                    have c41b0 : (t193 == 20) = true := beq_iff_eq.mpr c41
                    have c41b1 : (t193 != 20) = false := bne_eq_false_iff_eq.mpr c41
                    clear c41
                    by_cases c42 : t192 = 0
                    · rw [if_pos c42] at H
                      have c42b0 : (t192 == 0) = true := beq_iff_eq.mpr c42
                      have c42b1 : (t192 != 0) = false := bne_eq_false_iff_eq.mpr c42
                      clear c42
                      by_cases c43 : t195 = 0
                      · rw [if_pos c43] at H
                        have c43b0 : (t195 == 0) = true := beq_iff_eq.mpr c43
                        have c43b1 : (t195 != 0) = false := bne_eq_false_iff_eq.mpr c43
                        clear c43
                        obtain rfl := Option.some.inj H
                        go_wp2_with (first | ((with_reducible refine gate_callee (f := 12) rfl ?_); refine goesL_ (some 88) rfl rfl Try.func12 (by kernel_rfl) rfl #[] rfl (by (try simp only [List.map_toArray, List.map_cons, List.map_nil]); first | done | rfl | (simp only [List.length_drop, List.length_take]; rfl)) ?_; (with_reducible refine (casematelaw02_awake.calls kj12  true _ A39.out).mono ?_); rintro e w' ⟨rfl, ⟨nd, rfl⟩⟩; refine ⟨_, rfl, ?_⟩))
                        go_ret
                        exact ⟨by first | rfl | (simp; done) | (simp [*]; done), by repeat (first | exact Drawn0.refl _ | apply Drawn0.step)⟩
                      · rw [if_neg c43] at H
                        have c43b0 : (t195 == 0) = false := beq_eq_false_iff_ne.mpr c43
                        have c43b1 : (t195 != 0) = true := bne_iff_ne.mpr c43
                        obtain rfl := Option.some.inj H
                        go_wp2_with (first | ((with_reducible refine gate_callee (f := 12) rfl ?_); refine goesL_ (some 88) rfl rfl Try.func12 (by kernel_rfl) rfl #[] rfl (by (try simp only [List.map_toArray, List.map_cons, List.map_nil]); first | done | rfl | (simp only [List.length_drop, List.length_take]; rfl)) ?_; (with_reducible refine (casematelaw02_awake.calls kj12  true _ A39.out).mono ?_); rintro e w' ⟨rfl, ⟨nd, rfl⟩⟩; refine ⟨_, rfl, ?_⟩))
                        go_ret
                        exact ⟨by first | rfl | (simp; done) | (simp [*]; done), by repeat (first | exact Drawn0.refl _ | apply Drawn0.step)⟩
                    · rw [if_neg c42] at H
                      have c42b0 : (t192 == 0) = false := beq_eq_false_iff_ne.mpr c42
                      have c42b1 : (t192 != 0) = true := bne_iff_ne.mpr c42
                      obtain rfl := Option.some.inj H
                      go_wp2_with (first | ((with_reducible refine gate_callee (f := 12) rfl ?_); refine goesL_ (some 88) rfl rfl Try.func12 (by kernel_rfl) rfl #[] rfl (by (try simp only [List.map_toArray, List.map_cons, List.map_nil]); first | done | rfl | (simp only [List.length_drop, List.length_take]; rfl)) ?_; (with_reducible refine (casematelaw02_awake.calls kj12  true _ A39.out).mono ?_); rintro e w' ⟨rfl, ⟨nd, rfl⟩⟩; refine ⟨_, rfl, ?_⟩))
                      go_ret
                      exact ⟨by first | rfl | (simp; done) | (simp [*]; done), by repeat (first | exact Drawn0.refl _ | apply Drawn0.step)⟩
                  · rw [if_neg c41] at H
                    have c41b0 : (t193 == 20) = false := beq_eq_false_iff_ne.mpr c41
                    have c41b1 : (t193 != 20) = true := bne_iff_ne.mpr c41
                    obtain rfl := Option.some.inj H
                    go_wp2_with (first | ((with_reducible refine gate_callee (f := 12) rfl ?_); refine goesL_ (some 88) rfl rfl Try.func12 (by kernel_rfl) rfl #[] rfl (by (try simp only [List.map_toArray, List.map_cons, List.map_nil]); first | done | rfl | (simp only [List.length_drop, List.length_take]; rfl)) ?_; (with_reducible refine (casematelaw02_awake.calls kj12  true _ A39.out).mono ?_); rintro e w' ⟨rfl, ⟨nd, rfl⟩⟩; refine ⟨_, rfl, ?_⟩))
                    go_ret
                    exact ⟨by first | rfl | (simp; done) | (simp [*]; done), by repeat (first | exact Drawn0.refl _ | apply Drawn0.step)⟩
                · replace c40 := Bool.eq_false_iff.mpr c40
                  subst c40
                  have H1 : (some false) = some r := by rw [if_neg (show ¬ (false = true) by decide)] at H; exact H
                  clear H
                  have H := H1
                  clear H1
                  obtain rfl := Option.some.inj H
                  go_wp2_with (first | ((with_reducible refine gate_callee (f := 12) rfl ?_); refine goesL_ (some 88) rfl rfl Try.func12 (by kernel_rfl) rfl #[] rfl (by (try simp only [List.map_toArray, List.map_cons, List.map_nil]); first | done | rfl | (simp only [List.length_drop, List.length_take]; rfl)) ?_; (with_reducible refine (casematelaw02_awake.calls kj12  false _ A39.out).mono ?_); rintro e w' ⟨rfl, ⟨nd, rfl⟩⟩; refine ⟨_, rfl, ?_⟩))
                  go_ret
                  exact ⟨by first | rfl | (simp; done) | (simp [*]; done), by repeat (first | exact Drawn0.refl _ | apply Drawn0.step)⟩
          · rw [if_neg c20] at H
            have c20b0 : (a0 == 0) = false := beq_eq_false_iff_ne.mpr c20
            have c20b1 : (a0 != 0) = true := bne_iff_ne.mpr c20
            have HC44 := Aside0.mk H
            clear H
            go_upto_region 21 with (fail)
            go_cut [118] (fun v118 wc => ∃ (kq : Nat) (x118_43 : Bool), v118 = .bool x118_43 ∧ Aside0 (casematelaw02_GfReckons.j1 kq a0 a2 t194 x118_43 = some r) ∧ Aside0 (kq ≤ kj12) ∧ Drawn0 w wc)
            case first =>
              have H := HC44.out
              clear HC44
              by_cases c45 : t193 = 0
              · rw [if_pos c45] at H
                have c45b0 : (t193 == 0) = true := beq_iff_eq.mpr c45
                have c45b1 : (t193 != 0) = false := bne_eq_false_iff_eq.mpr c45
                clear c45
                (first | rw [c45b0] | (simp only [i64_w, i32_w]; rw [c45b0]) | skip)
                replace H := Option.bind_eq_some_iff.mp H
                obtain ⟨t206, A460, H⟩ := H
                replace H : (if t192 = t206 then (casematelaw02_GfReckons.j1 kj12 a0 a2 t194 (t195 != 0)) else (casematelaw02_GfReckons.j1 kj12 a0 a2 t194 true)) = some r := H
                have A46 := Aside0.mk A460
                clear A460
                by_cases c47 : t192 = t206
                · rw [if_pos c47] at H
                  have c47b0 : (t192 == t206) = true := beq_iff_eq.mpr c47
                  have c47b1 : (t192 != t206) = false := bne_eq_false_iff_eq.mpr c47
                  clear c47
                  have H' := Aside0.mk H
                  clear H
                  go_wp2_with (first | (go_at_call 21; (with_reducible refine (casemateref02_Inv.calls kj12 a0 t206 _ A46.out).mono ?_); rintro e w' ⟨rfl, ⟨nd, rfl⟩⟩))
                  go_meet
                  case rel => exact ⟨_, ((t195 != 0)), (by first | rfl | (simp; done) | (simp [*]; done)), H', ⟨by have := HJ12.out; first | omega | exact Nat.le_refl _⟩, by repeat (first | exact Drawn0.refl _ | apply Drawn0.step)⟩
                · rw [if_neg c47] at H
                  have c47b0 : (t192 == t206) = false := beq_eq_false_iff_ne.mpr c47
                  have c47b1 : (t192 != t206) = true := bne_iff_ne.mpr c47
                  have H' := Aside0.mk H
                  clear H
                  go_wp2_with (first | (go_at_call 21; (with_reducible refine (casemateref02_Inv.calls kj12 a0 t206 _ A46.out).mono ?_); rintro e w' ⟨rfl, ⟨nd, rfl⟩⟩))
                  go_meet
                  case rel => exact ⟨_, (true), (by first | rfl | (simp; done) | (simp [*]; done)), H', ⟨by have := HJ12.out; first | omega | exact Nat.le_refl _⟩, by repeat (first | exact Drawn0.refl _ | apply Drawn0.step)⟩
              · rw [if_neg c45] at H
                have c45b0 : (t193 == 0) = false := beq_eq_false_iff_ne.mpr c45
                have c45b1 : (t193 != 0) = true := bne_iff_ne.mpr c45
                (first | rw [c45b0] | (simp only [i64_w, i32_w]; rw [c45b0]) | skip)
                have H' := Aside0.mk H
                clear H
                go_wp2
                go_meet
                case rel => exact ⟨_, (true), (by first | rfl | (simp; done) | (simp [*]; done)), H', ⟨by have := HJ12.out; first | omega | exact Nat.le_refl _⟩, by repeat (first | exact Drawn0.refl _ | apply Drawn0.step)⟩
            case rest =>
              clear HC44
              try clear c1
              try clear c2
              try clear p2
              try clear c3
              try clear c4
              try clear p6
              try clear c7
              try clear c9
              try clear c9b0
              try clear c9b1
              try clear c11
              try clear c12
              try clear c13
              try clear c14
              try clear c15
              try clear c15b0
              try clear c15b1
              try clear c16
              try clear c17
              try clear c17b0
              try clear c17b1
              try clear c18
              try clear c18b0
              try clear c18b1
              try clear c19
              try clear c19b0
              try clear c19b1
              try clear c20
              try clear c20b0
              try clear c20b1
              try clear c21
              try clear c21b0
              try clear c22
              try clear c22b0
              try clear c22b1
              try clear c24
              try clear c25
              try clear c25b0
              try clear c25b1
              try clear c26
              try clear c26b0
              try clear c26b1
              try clear c27
              try clear c27b0
              try clear c27b1
              try clear c29
              try clear c30
              try clear c30b0
              try clear c30b1
              try clear c31
              try clear c31b0
              try clear c31b1
              try clear c32
              try clear c32b0
              try clear c32b1
              try clear c33
              try clear c33b0
              try clear c33b1
              try clear c35
              try clear c36
              try clear c36b0
              try clear c36b1
              try clear c37
              try clear c37b0
              try clear c37b1
              try clear c38
              try clear c38b0
              try clear c38b1
              try clear c40
              try clear c41
              try clear c41b0
              try clear c41b1
              try clear c42
              try clear c42b0
              try clear c42b1
              try clear c43
              try clear c43b0
              try clear c43b1
              try clear c45
              try clear c45b0
              try clear c45b1
              try clear c47
              try clear c47b0
              try clear c47b1
              try clear p2
              try clear p6
              obtain ⟨kq, x118_43, rfl, HA, HJ43, ⟨mc43, rfl⟩⟩ := hcut
              cases kq with
              | zero => exact absurd HA.out (by simp [casematelaw02_GfReckons.j1])
              | succ kj43 =>
                have H := HA.out
                clear HA
                simp only [casematelaw02_GfReckons.j1] at H
                by_cases c48 : x118_43 = true
                · subst c48
                  have H1 : (some false) = some r := by rw [if_pos rfl] at H; exact H
                  clear H
                  have H := H1
                  clear H1
                  obtain rfl := Option.some.inj H
                  go_wp2
                  go_ret
                  exact ⟨by first | rfl | (simp; done) | (simp [*]; done), by repeat (first | exact Drawn0.refl _ | apply Drawn0.step)⟩
                · replace c48 := Bool.eq_false_iff.mpr c48
                  subst c48
                  have H1 : (if (Int.tmod a2 8191) < 0 then ((casematelaw02_awake.f kj43).bind fun t207 => (if t207 = true then ((casemateref02_Pow.f kj43 a0 (wrap64 ((Int.tmod a2 8191) + 8191))).bind fun t208 => (some (t194 == t208))) else (some false))) else ((casematelaw02_awake.f kj43).bind fun t209 => (if t209 = true then ((casemateref02_Pow.f kj43 a0 (Int.tmod a2 8191)).bind fun t210 => (some (t194 == t210))) else (some false)))) = some r := by rw [if_neg (show ¬ (false = true) by decide)] at H; exact H
                  clear H
                  have H := H1
                  clear H1
                  by_cases c49 : (Int.tmod a2 8191) < 0
                  · rw [if_pos c49] at H
                    have c49b0 : decide ((Int.tmod a2 8191) < 0) = true := decide_eq_true c49
                    clear c49
                    replace H := Option.bind_eq_some_iff.mp H
                    obtain ⟨t207, A500, H⟩ := H
                    replace H : (if t207 = true then ((casemateref02_Pow.f kj43 a0 (wrap64 ((Int.tmod a2 8191) + 8191))).bind fun t208 => (some (t194 == t208))) else (some false)) = some r := H
                    have A50 := Aside0.mk A500
                    clear A500
                    by_cases c51 : t207 = true
                    · subst c51
                      have H1 : ((casemateref02_Pow.f kj43 a0 (wrap64 ((Int.tmod a2 8191) + 8191))).bind fun t208 => (some (t194 == t208))) = some r := by rw [if_pos rfl] at H; exact H
                      clear H
                      have H := H1
                      clear H1
                      replace H := Option.bind_eq_some_iff.mp H
                      obtain ⟨t208, A520, H⟩ := H
                      replace H : (some (t194 == t208)) = some r := H
                      have A52 := Aside0.mk A520
                      clear A520
                      obtain rfl := Option.some.inj H
                      go_wp2_with (first | ((with_reducible refine gate_callee (f := 12) rfl ?_); refine goesL_ (some 125) rfl rfl Try.func12 (by kernel_rfl) rfl #[] rfl (by (try simp only [List.map_toArray, List.map_cons, List.map_nil]); first | done | rfl | (simp only [List.length_drop, List.length_take]; rfl)) ?_; (with_reducible refine (casematelaw02_awake.calls kj43  true _ A50.out).mono ?_); rintro e w' ⟨rfl, ⟨nd, rfl⟩⟩; refine ⟨_, rfl, ?_⟩) | (go_at_call 22; (with_reducible refine (casemateref02_Pow.calls kj43 a0 (wrap64 ((Int.tmod a2 8191) + 8191)) t208 _ A52.out).mono ?_); rintro e w' ⟨rfl, ⟨nd, rfl⟩⟩))
                      go_ret
                      exact ⟨by first | rfl | (simp; done) | (simp [*]; done), by repeat (first | exact Drawn0.refl _ | apply Drawn0.step)⟩
                    · replace c51 := Bool.eq_false_iff.mpr c51
                      subst c51
                      have H1 : (some false) = some r := by rw [if_neg (show ¬ (false = true) by decide)] at H; exact H
                      clear H
                      have H := H1
                      clear H1
                      obtain rfl := Option.some.inj H
                      go_wp2_with (first | ((with_reducible refine gate_callee (f := 12) rfl ?_); refine goesL_ (some 125) rfl rfl Try.func12 (by kernel_rfl) rfl #[] rfl (by (try simp only [List.map_toArray, List.map_cons, List.map_nil]); first | done | rfl | (simp only [List.length_drop, List.length_take]; rfl)) ?_; (with_reducible refine (casematelaw02_awake.calls kj43  false _ A50.out).mono ?_); rintro e w' ⟨rfl, ⟨nd, rfl⟩⟩; refine ⟨_, rfl, ?_⟩))
                      go_ret
                      exact ⟨by first | rfl | (simp; done) | (simp [*]; done), by repeat (first | exact Drawn0.refl _ | apply Drawn0.step)⟩
                  · rw [if_neg c49] at H
                    have c49b0 : decide ((Int.tmod a2 8191) < 0) = false := decide_eq_false c49
                    clear c49
                    replace H := Option.bind_eq_some_iff.mp H
                    obtain ⟨t209, A530, H⟩ := H
                    replace H : (if t209 = true then ((casemateref02_Pow.f kj43 a0 (Int.tmod a2 8191)).bind fun t210 => (some (t194 == t210))) else (some false)) = some r := H
                    have A53 := Aside0.mk A530
                    clear A530
                    by_cases c54 : t209 = true
                    · subst c54
                      have H1 : ((casemateref02_Pow.f kj43 a0 (Int.tmod a2 8191)).bind fun t210 => (some (t194 == t210))) = some r := by rw [if_pos rfl] at H; exact H
                      clear H
                      have H := H1
                      clear H1
                      replace H := Option.bind_eq_some_iff.mp H
                      obtain ⟨t210, A550, H⟩ := H
                      replace H : (some (t194 == t210)) = some r := H
                      have A55 := Aside0.mk A550
                      clear A550
                      obtain rfl := Option.some.inj H
                      go_wp2_with (first | ((with_reducible refine gate_callee (f := 12) rfl ?_); refine goesL_ (some 125) rfl rfl Try.func12 (by kernel_rfl) rfl #[] rfl (by (try simp only [List.map_toArray, List.map_cons, List.map_nil]); first | done | rfl | (simp only [List.length_drop, List.length_take]; rfl)) ?_; (with_reducible refine (casematelaw02_awake.calls kj43  true _ A53.out).mono ?_); rintro e w' ⟨rfl, ⟨nd, rfl⟩⟩; refine ⟨_, rfl, ?_⟩) | (go_at_call 22; (with_reducible refine (casemateref02_Pow.calls kj43 a0 (Int.tmod a2 8191) t210 _ A55.out).mono ?_); rintro e w' ⟨rfl, ⟨nd, rfl⟩⟩))
                      go_ret
                      exact ⟨by first | rfl | (simp; done) | (simp [*]; done), by repeat (first | exact Drawn0.refl _ | apply Drawn0.step)⟩
                    · replace c54 := Bool.eq_false_iff.mpr c54
                      subst c54
                      have H1 : (some false) = some r := by rw [if_neg (show ¬ (false = true) by decide)] at H; exact H
                      clear H
                      have H := H1
                      clear H1
                      obtain rfl := Option.some.inj H
                      go_wp2_with (first | ((with_reducible refine gate_callee (f := 12) rfl ?_); refine goesL_ (some 125) rfl rfl Try.func12 (by kernel_rfl) rfl #[] rfl (by (try simp only [List.map_toArray, List.map_cons, List.map_nil]); first | done | rfl | (simp only [List.length_drop, List.length_take]; rfl)) ?_; (with_reducible refine (casematelaw02_awake.calls kj43  false _ A53.out).mono ?_); rintro e w' ⟨rfl, ⟨nd, rfl⟩⟩; refine ⟨_, rfl, ?_⟩))
                      go_ret
                      exact ⟨by first | rfl | (simp; done) | (simp [*]; done), by repeat (first | exact Drawn0.refl _ | apply Drawn0.step)⟩
    · replace c11 := Bool.eq_false_iff.mpr c11
      subst c11
      have H1 : ((casematelaw02_awake.f k).bind fun t199 => (if t199 = true then (if t191 = 1 then (if t193 = t191 then (if t195 = t191 then (some ((wrap64 ((wrap64 (t190 + t192)) + t194)) == 0)) else (some false)) else (some false)) else (some false)) else (some false))) = some r := by rw [if_neg (show ¬ (false = true) by decide)] at H; exact H
      clear H
      have H := H1
      clear H1
      replace H := Option.bind_eq_some_iff.mp H
      obtain ⟨t199, A560, H⟩ := H
      replace H : (if t199 = true then (if t191 = 1 then (if t193 = t191 then (if t195 = t191 then (some ((wrap64 ((wrap64 (t190 + t192)) + t194)) == 0)) else (some false)) else (some false)) else (some false)) else (some false)) = some r := H
      have A56 := Aside0.mk A560
      clear A560
      by_cases c57 : t199 = true
      · subst c57
        have H1 : (if t191 = 1 then (if t193 = t191 then (if t195 = t191 then (some ((wrap64 ((wrap64 (t190 + t192)) + t194)) == 0)) else (some false)) else (some false)) else (some false)) = some r := by rw [if_pos rfl] at H; exact H
        clear H
        have H := H1
        clear H1
        by_cases c58 : t191 = 1
        · rw [if_pos c58] at H
          have c58b0 : (t191 == 1) = true := beq_iff_eq.mpr c58
          have c58b1 : (t191 != 1) = false := bne_eq_false_iff_eq.mpr c58
          clear c58
          by_cases c59 : t193 = t191
          · rw [if_pos c59] at H
            have c59b0 : (t193 == t191) = true := beq_iff_eq.mpr c59
            have c59b1 : (t193 != t191) = false := bne_eq_false_iff_eq.mpr c59
            clear c59
            by_cases c60 : t195 = t191
            · rw [if_pos c60] at H
              have c60b0 : (t195 == t191) = true := beq_iff_eq.mpr c60
              have c60b1 : (t195 != t191) = false := bne_eq_false_iff_eq.mpr c60
              clear c60
              obtain rfl := Option.some.inj H
              go_enter Try.func7, Try.ntmps7
              go_wp2_with (first | ((with_reducible refine gate_callee (f := 17) rfl ?_); refine goesL_ (some 19) rfl rfl Try.func17 (by kernel_rfl) rfl #[.int .i64 a0, .int .i64 a1] rfl (by (try simp only [List.map_toArray, List.map_cons, List.map_nil]); first | done | rfl | (simp only [List.length_drop, List.length_take]; rfl)) ?_; (with_reducible refine (gf_Mul.calls k a0 a1 t190 t191 _ A4.out).mono ?_); rintro e w' ⟨rfl, ⟨nd, rfl⟩⟩; refine ⟨_, rfl, ?_⟩) | ((with_reducible refine gate_callee (f := 16) rfl ?_); refine goesL_ (some 24) rfl rfl Try.func16 (by kernel_rfl) rfl #[.int .i64 a0] rfl (by (try simp only [List.map_toArray, List.map_cons, List.map_nil]); first | done | rfl | (simp only [List.length_drop, List.length_take]; rfl)) ?_; (with_reducible refine (gf_Inv.calls k a0 t192 t193 _ A5.out).mono ?_); rintro e w' ⟨rfl, ⟨nd, rfl⟩⟩; refine ⟨_, rfl, ?_⟩) | ((with_reducible refine gate_callee (f := 18) rfl ?_); refine goesL_ (some 30) rfl rfl Try.func18 (by kernel_rfl) rfl #[.int .i64 a0, .int .i64 a2] rfl (by (try simp only [List.map_toArray, List.map_cons, List.map_nil]); first | done | rfl | (simp only [List.length_drop, List.length_take]; rfl)) ?_; (with_reducible refine (gf_Pow.calls k a0 a2 t194 t195 _ A6.out).mono ?_); rintro e w' ⟨rfl, ⟨nd, rfl⟩⟩; refine ⟨_, rfl, ?_⟩) | ((with_reducible refine gate_callee (f := 19) rfl ?_); refine goesL_ (some 34) rfl rfl Try.func19 (by kernel_rfl) rfl #[.int .i64 a2] rfl (by (try simp only [List.map_toArray, List.map_cons, List.map_nil]); first | done | rfl | (simp only [List.length_drop, List.length_take]; rfl)) ?_; (with_reducible refine (gf_Exp.calls k a2 t196 _ A7.out).mono ?_); rintro e w' ⟨rfl, ⟨nd, rfl⟩⟩; refine ⟨_, rfl, ?_⟩) | ((with_reducible refine gate_callee (f := 13) rfl ?_); refine goesL_ (some 36) rfl rfl Try.func13 (by kernel_rfl) rfl #[.int .i64 a2] rfl (by (try simp only [List.map_toArray, List.map_cons, List.map_nil]); first | done | rfl | (simp only [List.length_drop, List.length_take]; rfl)) ?_; (with_reducible refine (casemateref02_Exp.calls k a2 t197 _ A8.out).mono ?_); rintro e w' ⟨rfl, ⟨nd, rfl⟩⟩; refine ⟨_, rfl, ?_⟩) | ((with_reducible refine gate_callee (f := 11) rfl ?_); refine goesL_ (some 39) rfl rfl Try.func11 (by kernel_rfl) rfl #[.int .i64 a0] rfl (by (try simp only [List.map_toArray, List.map_cons, List.map_nil]); first | done | rfl | (simp only [List.length_drop, List.length_take]; rfl)) ?_; (with_reducible refine (casemateref02_Is.calls a0 false _ A10.out).mono ?_); rintro e w' ⟨rfl, ⟨nd, rfl⟩⟩; refine ⟨_, rfl, ?_⟩) | ((with_reducible refine gate_callee (f := 12) rfl ?_); refine goesL_ (some 41) rfl rfl Try.func12 (by kernel_rfl) rfl #[] rfl (by (try simp only [List.map_toArray, List.map_cons, List.map_nil]); first | done | rfl | (simp only [List.length_drop, List.length_take]; rfl)) ?_; (with_reducible refine (casematelaw02_awake.calls k  true _ A56.out).mono ?_); rintro e w' ⟨rfl, ⟨nd, rfl⟩⟩; refine ⟨_, rfl, ?_⟩))
              go_ret
              exact ⟨by first | rfl | (simp; done) | (simp [*]; done), by repeat (first | exact Drawn0.refl _ | apply Drawn0.step)⟩
            · rw [if_neg c60] at H
              have c60b0 : (t195 == t191) = false := beq_eq_false_iff_ne.mpr c60
              have c60b1 : (t195 != t191) = true := bne_iff_ne.mpr c60
              obtain rfl := Option.some.inj H
              go_enter Try.func7, Try.ntmps7
              go_wp2_with (first | ((with_reducible refine gate_callee (f := 17) rfl ?_); refine goesL_ (some 19) rfl rfl Try.func17 (by kernel_rfl) rfl #[.int .i64 a0, .int .i64 a1] rfl (by (try simp only [List.map_toArray, List.map_cons, List.map_nil]); first | done | rfl | (simp only [List.length_drop, List.length_take]; rfl)) ?_; (with_reducible refine (gf_Mul.calls k a0 a1 t190 t191 _ A4.out).mono ?_); rintro e w' ⟨rfl, ⟨nd, rfl⟩⟩; refine ⟨_, rfl, ?_⟩) | ((with_reducible refine gate_callee (f := 16) rfl ?_); refine goesL_ (some 24) rfl rfl Try.func16 (by kernel_rfl) rfl #[.int .i64 a0] rfl (by (try simp only [List.map_toArray, List.map_cons, List.map_nil]); first | done | rfl | (simp only [List.length_drop, List.length_take]; rfl)) ?_; (with_reducible refine (gf_Inv.calls k a0 t192 t193 _ A5.out).mono ?_); rintro e w' ⟨rfl, ⟨nd, rfl⟩⟩; refine ⟨_, rfl, ?_⟩) | ((with_reducible refine gate_callee (f := 18) rfl ?_); refine goesL_ (some 30) rfl rfl Try.func18 (by kernel_rfl) rfl #[.int .i64 a0, .int .i64 a2] rfl (by (try simp only [List.map_toArray, List.map_cons, List.map_nil]); first | done | rfl | (simp only [List.length_drop, List.length_take]; rfl)) ?_; (with_reducible refine (gf_Pow.calls k a0 a2 t194 t195 _ A6.out).mono ?_); rintro e w' ⟨rfl, ⟨nd, rfl⟩⟩; refine ⟨_, rfl, ?_⟩) | ((with_reducible refine gate_callee (f := 19) rfl ?_); refine goesL_ (some 34) rfl rfl Try.func19 (by kernel_rfl) rfl #[.int .i64 a2] rfl (by (try simp only [List.map_toArray, List.map_cons, List.map_nil]); first | done | rfl | (simp only [List.length_drop, List.length_take]; rfl)) ?_; (with_reducible refine (gf_Exp.calls k a2 t196 _ A7.out).mono ?_); rintro e w' ⟨rfl, ⟨nd, rfl⟩⟩; refine ⟨_, rfl, ?_⟩) | ((with_reducible refine gate_callee (f := 13) rfl ?_); refine goesL_ (some 36) rfl rfl Try.func13 (by kernel_rfl) rfl #[.int .i64 a2] rfl (by (try simp only [List.map_toArray, List.map_cons, List.map_nil]); first | done | rfl | (simp only [List.length_drop, List.length_take]; rfl)) ?_; (with_reducible refine (casemateref02_Exp.calls k a2 t197 _ A8.out).mono ?_); rintro e w' ⟨rfl, ⟨nd, rfl⟩⟩; refine ⟨_, rfl, ?_⟩) | ((with_reducible refine gate_callee (f := 11) rfl ?_); refine goesL_ (some 39) rfl rfl Try.func11 (by kernel_rfl) rfl #[.int .i64 a0] rfl (by (try simp only [List.map_toArray, List.map_cons, List.map_nil]); first | done | rfl | (simp only [List.length_drop, List.length_take]; rfl)) ?_; (with_reducible refine (casemateref02_Is.calls a0 false _ A10.out).mono ?_); rintro e w' ⟨rfl, ⟨nd, rfl⟩⟩; refine ⟨_, rfl, ?_⟩) | ((with_reducible refine gate_callee (f := 12) rfl ?_); refine goesL_ (some 41) rfl rfl Try.func12 (by kernel_rfl) rfl #[] rfl (by (try simp only [List.map_toArray, List.map_cons, List.map_nil]); first | done | rfl | (simp only [List.length_drop, List.length_take]; rfl)) ?_; (with_reducible refine (casematelaw02_awake.calls k  true _ A56.out).mono ?_); rintro e w' ⟨rfl, ⟨nd, rfl⟩⟩; refine ⟨_, rfl, ?_⟩))
              go_ret
              exact ⟨by first | rfl | (simp; done) | (simp [*]; done), by repeat (first | exact Drawn0.refl _ | apply Drawn0.step)⟩
          · rw [if_neg c59] at H
            have c59b0 : (t193 == t191) = false := beq_eq_false_iff_ne.mpr c59
            have c59b1 : (t193 != t191) = true := bne_iff_ne.mpr c59
            obtain rfl := Option.some.inj H
            go_enter Try.func7, Try.ntmps7
            go_wp2_with (first | ((with_reducible refine gate_callee (f := 17) rfl ?_); refine goesL_ (some 19) rfl rfl Try.func17 (by kernel_rfl) rfl #[.int .i64 a0, .int .i64 a1] rfl (by (try simp only [List.map_toArray, List.map_cons, List.map_nil]); first | done | rfl | (simp only [List.length_drop, List.length_take]; rfl)) ?_; (with_reducible refine (gf_Mul.calls k a0 a1 t190 t191 _ A4.out).mono ?_); rintro e w' ⟨rfl, ⟨nd, rfl⟩⟩; refine ⟨_, rfl, ?_⟩) | ((with_reducible refine gate_callee (f := 16) rfl ?_); refine goesL_ (some 24) rfl rfl Try.func16 (by kernel_rfl) rfl #[.int .i64 a0] rfl (by (try simp only [List.map_toArray, List.map_cons, List.map_nil]); first | done | rfl | (simp only [List.length_drop, List.length_take]; rfl)) ?_; (with_reducible refine (gf_Inv.calls k a0 t192 t193 _ A5.out).mono ?_); rintro e w' ⟨rfl, ⟨nd, rfl⟩⟩; refine ⟨_, rfl, ?_⟩) | ((with_reducible refine gate_callee (f := 18) rfl ?_); refine goesL_ (some 30) rfl rfl Try.func18 (by kernel_rfl) rfl #[.int .i64 a0, .int .i64 a2] rfl (by (try simp only [List.map_toArray, List.map_cons, List.map_nil]); first | done | rfl | (simp only [List.length_drop, List.length_take]; rfl)) ?_; (with_reducible refine (gf_Pow.calls k a0 a2 t194 t195 _ A6.out).mono ?_); rintro e w' ⟨rfl, ⟨nd, rfl⟩⟩; refine ⟨_, rfl, ?_⟩) | ((with_reducible refine gate_callee (f := 19) rfl ?_); refine goesL_ (some 34) rfl rfl Try.func19 (by kernel_rfl) rfl #[.int .i64 a2] rfl (by (try simp only [List.map_toArray, List.map_cons, List.map_nil]); first | done | rfl | (simp only [List.length_drop, List.length_take]; rfl)) ?_; (with_reducible refine (gf_Exp.calls k a2 t196 _ A7.out).mono ?_); rintro e w' ⟨rfl, ⟨nd, rfl⟩⟩; refine ⟨_, rfl, ?_⟩) | ((with_reducible refine gate_callee (f := 13) rfl ?_); refine goesL_ (some 36) rfl rfl Try.func13 (by kernel_rfl) rfl #[.int .i64 a2] rfl (by (try simp only [List.map_toArray, List.map_cons, List.map_nil]); first | done | rfl | (simp only [List.length_drop, List.length_take]; rfl)) ?_; (with_reducible refine (casemateref02_Exp.calls k a2 t197 _ A8.out).mono ?_); rintro e w' ⟨rfl, ⟨nd, rfl⟩⟩; refine ⟨_, rfl, ?_⟩) | ((with_reducible refine gate_callee (f := 11) rfl ?_); refine goesL_ (some 39) rfl rfl Try.func11 (by kernel_rfl) rfl #[.int .i64 a0] rfl (by (try simp only [List.map_toArray, List.map_cons, List.map_nil]); first | done | rfl | (simp only [List.length_drop, List.length_take]; rfl)) ?_; (with_reducible refine (casemateref02_Is.calls a0 false _ A10.out).mono ?_); rintro e w' ⟨rfl, ⟨nd, rfl⟩⟩; refine ⟨_, rfl, ?_⟩) | ((with_reducible refine gate_callee (f := 12) rfl ?_); refine goesL_ (some 41) rfl rfl Try.func12 (by kernel_rfl) rfl #[] rfl (by (try simp only [List.map_toArray, List.map_cons, List.map_nil]); first | done | rfl | (simp only [List.length_drop, List.length_take]; rfl)) ?_; (with_reducible refine (casematelaw02_awake.calls k  true _ A56.out).mono ?_); rintro e w' ⟨rfl, ⟨nd, rfl⟩⟩; refine ⟨_, rfl, ?_⟩))
            go_ret
            exact ⟨by first | rfl | (simp; done) | (simp [*]; done), by repeat (first | exact Drawn0.refl _ | apply Drawn0.step)⟩
        · rw [if_neg c58] at H
          have c58b0 : (t191 == 1) = false := beq_eq_false_iff_ne.mpr c58
          have c58b1 : (t191 != 1) = true := bne_iff_ne.mpr c58
          obtain rfl := Option.some.inj H
          go_enter Try.func7, Try.ntmps7
          go_wp2_with (first | ((with_reducible refine gate_callee (f := 17) rfl ?_); refine goesL_ (some 19) rfl rfl Try.func17 (by kernel_rfl) rfl #[.int .i64 a0, .int .i64 a1] rfl (by (try simp only [List.map_toArray, List.map_cons, List.map_nil]); first | done | rfl | (simp only [List.length_drop, List.length_take]; rfl)) ?_; (with_reducible refine (gf_Mul.calls k a0 a1 t190 t191 _ A4.out).mono ?_); rintro e w' ⟨rfl, ⟨nd, rfl⟩⟩; refine ⟨_, rfl, ?_⟩) | ((with_reducible refine gate_callee (f := 16) rfl ?_); refine goesL_ (some 24) rfl rfl Try.func16 (by kernel_rfl) rfl #[.int .i64 a0] rfl (by (try simp only [List.map_toArray, List.map_cons, List.map_nil]); first | done | rfl | (simp only [List.length_drop, List.length_take]; rfl)) ?_; (with_reducible refine (gf_Inv.calls k a0 t192 t193 _ A5.out).mono ?_); rintro e w' ⟨rfl, ⟨nd, rfl⟩⟩; refine ⟨_, rfl, ?_⟩) | ((with_reducible refine gate_callee (f := 18) rfl ?_); refine goesL_ (some 30) rfl rfl Try.func18 (by kernel_rfl) rfl #[.int .i64 a0, .int .i64 a2] rfl (by (try simp only [List.map_toArray, List.map_cons, List.map_nil]); first | done | rfl | (simp only [List.length_drop, List.length_take]; rfl)) ?_; (with_reducible refine (gf_Pow.calls k a0 a2 t194 t195 _ A6.out).mono ?_); rintro e w' ⟨rfl, ⟨nd, rfl⟩⟩; refine ⟨_, rfl, ?_⟩) | ((with_reducible refine gate_callee (f := 19) rfl ?_); refine goesL_ (some 34) rfl rfl Try.func19 (by kernel_rfl) rfl #[.int .i64 a2] rfl (by (try simp only [List.map_toArray, List.map_cons, List.map_nil]); first | done | rfl | (simp only [List.length_drop, List.length_take]; rfl)) ?_; (with_reducible refine (gf_Exp.calls k a2 t196 _ A7.out).mono ?_); rintro e w' ⟨rfl, ⟨nd, rfl⟩⟩; refine ⟨_, rfl, ?_⟩) | ((with_reducible refine gate_callee (f := 13) rfl ?_); refine goesL_ (some 36) rfl rfl Try.func13 (by kernel_rfl) rfl #[.int .i64 a2] rfl (by (try simp only [List.map_toArray, List.map_cons, List.map_nil]); first | done | rfl | (simp only [List.length_drop, List.length_take]; rfl)) ?_; (with_reducible refine (casemateref02_Exp.calls k a2 t197 _ A8.out).mono ?_); rintro e w' ⟨rfl, ⟨nd, rfl⟩⟩; refine ⟨_, rfl, ?_⟩) | ((with_reducible refine gate_callee (f := 11) rfl ?_); refine goesL_ (some 39) rfl rfl Try.func11 (by kernel_rfl) rfl #[.int .i64 a0] rfl (by (try simp only [List.map_toArray, List.map_cons, List.map_nil]); first | done | rfl | (simp only [List.length_drop, List.length_take]; rfl)) ?_; (with_reducible refine (casemateref02_Is.calls a0 false _ A10.out).mono ?_); rintro e w' ⟨rfl, ⟨nd, rfl⟩⟩; refine ⟨_, rfl, ?_⟩) | ((with_reducible refine gate_callee (f := 12) rfl ?_); refine goesL_ (some 41) rfl rfl Try.func12 (by kernel_rfl) rfl #[] rfl (by (try simp only [List.map_toArray, List.map_cons, List.map_nil]); first | done | rfl | (simp only [List.length_drop, List.length_take]; rfl)) ?_; (with_reducible refine (casematelaw02_awake.calls k  true _ A56.out).mono ?_); rintro e w' ⟨rfl, ⟨nd, rfl⟩⟩; refine ⟨_, rfl, ?_⟩))
          go_ret
          exact ⟨by first | rfl | (simp; done) | (simp [*]; done), by repeat (first | exact Drawn0.refl _ | apply Drawn0.step)⟩
      · replace c57 := Bool.eq_false_iff.mpr c57
        subst c57
        have H1 : (some false) = some r := by rw [if_neg (show ¬ (false = true) by decide)] at H; exact H
        clear H
        have H := H1
        clear H1
        obtain rfl := Option.some.inj H
        go_enter Try.func7, Try.ntmps7
        go_wp2_with (first | ((with_reducible refine gate_callee (f := 17) rfl ?_); refine goesL_ (some 19) rfl rfl Try.func17 (by kernel_rfl) rfl #[.int .i64 a0, .int .i64 a1] rfl (by (try simp only [List.map_toArray, List.map_cons, List.map_nil]); first | done | rfl | (simp only [List.length_drop, List.length_take]; rfl)) ?_; (with_reducible refine (gf_Mul.calls k a0 a1 t190 t191 _ A4.out).mono ?_); rintro e w' ⟨rfl, ⟨nd, rfl⟩⟩; refine ⟨_, rfl, ?_⟩) | ((with_reducible refine gate_callee (f := 16) rfl ?_); refine goesL_ (some 24) rfl rfl Try.func16 (by kernel_rfl) rfl #[.int .i64 a0] rfl (by (try simp only [List.map_toArray, List.map_cons, List.map_nil]); first | done | rfl | (simp only [List.length_drop, List.length_take]; rfl)) ?_; (with_reducible refine (gf_Inv.calls k a0 t192 t193 _ A5.out).mono ?_); rintro e w' ⟨rfl, ⟨nd, rfl⟩⟩; refine ⟨_, rfl, ?_⟩) | ((with_reducible refine gate_callee (f := 18) rfl ?_); refine goesL_ (some 30) rfl rfl Try.func18 (by kernel_rfl) rfl #[.int .i64 a0, .int .i64 a2] rfl (by (try simp only [List.map_toArray, List.map_cons, List.map_nil]); first | done | rfl | (simp only [List.length_drop, List.length_take]; rfl)) ?_; (with_reducible refine (gf_Pow.calls k a0 a2 t194 t195 _ A6.out).mono ?_); rintro e w' ⟨rfl, ⟨nd, rfl⟩⟩; refine ⟨_, rfl, ?_⟩) | ((with_reducible refine gate_callee (f := 19) rfl ?_); refine goesL_ (some 34) rfl rfl Try.func19 (by kernel_rfl) rfl #[.int .i64 a2] rfl (by (try simp only [List.map_toArray, List.map_cons, List.map_nil]); first | done | rfl | (simp only [List.length_drop, List.length_take]; rfl)) ?_; (with_reducible refine (gf_Exp.calls k a2 t196 _ A7.out).mono ?_); rintro e w' ⟨rfl, ⟨nd, rfl⟩⟩; refine ⟨_, rfl, ?_⟩) | ((with_reducible refine gate_callee (f := 13) rfl ?_); refine goesL_ (some 36) rfl rfl Try.func13 (by kernel_rfl) rfl #[.int .i64 a2] rfl (by (try simp only [List.map_toArray, List.map_cons, List.map_nil]); first | done | rfl | (simp only [List.length_drop, List.length_take]; rfl)) ?_; (with_reducible refine (casemateref02_Exp.calls k a2 t197 _ A8.out).mono ?_); rintro e w' ⟨rfl, ⟨nd, rfl⟩⟩; refine ⟨_, rfl, ?_⟩) | ((with_reducible refine gate_callee (f := 11) rfl ?_); refine goesL_ (some 39) rfl rfl Try.func11 (by kernel_rfl) rfl #[.int .i64 a0] rfl (by (try simp only [List.map_toArray, List.map_cons, List.map_nil]); first | done | rfl | (simp only [List.length_drop, List.length_take]; rfl)) ?_; (with_reducible refine (casemateref02_Is.calls a0 false _ A10.out).mono ?_); rintro e w' ⟨rfl, ⟨nd, rfl⟩⟩; refine ⟨_, rfl, ?_⟩) | ((with_reducible refine gate_callee (f := 12) rfl ?_); refine goesL_ (some 41) rfl rfl Try.func12 (by kernel_rfl) rfl #[] rfl (by (try simp only [List.map_toArray, List.map_cons, List.map_nil]); first | done | rfl | (simp only [List.length_drop, List.length_take]; rfl)) ?_; (with_reducible refine (casematelaw02_awake.calls k  false _ A56.out).mono ?_); rintro e w' ⟨rfl, ⟨nd, rfl⟩⟩; refine ⟨_, rfl, ?_⟩))
        go_ret
        exact ⟨by first | rfl | (simp; done) | (simp [*]; done), by repeat (first | exact Drawn0.refl _ | apply Drawn0.step)⟩
  · rw [if_neg c9] at H
    have c9b0 : (t196 == t197) = false := beq_eq_false_iff_ne.mpr c9
    have c9b1 : (t196 != t197) = true := bne_iff_ne.mpr c9
    obtain rfl := Option.some.inj H
    go_enter Try.func7, Try.ntmps7
    go_wp2_with (first | ((with_reducible refine gate_callee (f := 17) rfl ?_); refine goesL_ (some 19) rfl rfl Try.func17 (by kernel_rfl) rfl #[.int .i64 a0, .int .i64 a1] rfl (by (try simp only [List.map_toArray, List.map_cons, List.map_nil]); first | done | rfl | (simp only [List.length_drop, List.length_take]; rfl)) ?_; (with_reducible refine (gf_Mul.calls k a0 a1 t190 t191 _ A4.out).mono ?_); rintro e w' ⟨rfl, ⟨nd, rfl⟩⟩; refine ⟨_, rfl, ?_⟩) | ((with_reducible refine gate_callee (f := 16) rfl ?_); refine goesL_ (some 24) rfl rfl Try.func16 (by kernel_rfl) rfl #[.int .i64 a0] rfl (by (try simp only [List.map_toArray, List.map_cons, List.map_nil]); first | done | rfl | (simp only [List.length_drop, List.length_take]; rfl)) ?_; (with_reducible refine (gf_Inv.calls k a0 t192 t193 _ A5.out).mono ?_); rintro e w' ⟨rfl, ⟨nd, rfl⟩⟩; refine ⟨_, rfl, ?_⟩) | ((with_reducible refine gate_callee (f := 18) rfl ?_); refine goesL_ (some 30) rfl rfl Try.func18 (by kernel_rfl) rfl #[.int .i64 a0, .int .i64 a2] rfl (by (try simp only [List.map_toArray, List.map_cons, List.map_nil]); first | done | rfl | (simp only [List.length_drop, List.length_take]; rfl)) ?_; (with_reducible refine (gf_Pow.calls k a0 a2 t194 t195 _ A6.out).mono ?_); rintro e w' ⟨rfl, ⟨nd, rfl⟩⟩; refine ⟨_, rfl, ?_⟩) | ((with_reducible refine gate_callee (f := 19) rfl ?_); refine goesL_ (some 34) rfl rfl Try.func19 (by kernel_rfl) rfl #[.int .i64 a2] rfl (by (try simp only [List.map_toArray, List.map_cons, List.map_nil]); first | done | rfl | (simp only [List.length_drop, List.length_take]; rfl)) ?_; (with_reducible refine (gf_Exp.calls k a2 t196 _ A7.out).mono ?_); rintro e w' ⟨rfl, ⟨nd, rfl⟩⟩; refine ⟨_, rfl, ?_⟩) | ((with_reducible refine gate_callee (f := 13) rfl ?_); refine goesL_ (some 36) rfl rfl Try.func13 (by kernel_rfl) rfl #[.int .i64 a2] rfl (by (try simp only [List.map_toArray, List.map_cons, List.map_nil]); first | done | rfl | (simp only [List.length_drop, List.length_take]; rfl)) ?_; (with_reducible refine (casemateref02_Exp.calls k a2 t197 _ A8.out).mono ?_); rintro e w' ⟨rfl, ⟨nd, rfl⟩⟩; refine ⟨_, rfl, ?_⟩))
    go_ret
    exact ⟨by first | rfl | (simp; done) | (simp [*]; done), by repeat (first | exact Drawn0.refl _ | apply Drawn0.step)⟩

/-- THE ONE PURE STATEMENT of casematelaw02_GfReckons: yours. -/
def casematelaw02_GfReckons.Pure : Prop := ∀ (a0 : Int) (a1 : Int) (a2 : Int), (Lit.int .i64 a0).wf = true → (Lit.int .i64 a1).wf = true → (Lit.int .i64 a2).wf = true → ∃ k, casematelaw02_GfReckons.f k a0 a1 a2 = some true
theorem casematelaw02_GfReckons.walk (P : casematelaw02_GfReckons.Pure) (a0 : Int) (a1 : Int) (a2 : Int) (w : World) (w0 : (Lit.int .i64 a0).wf = true) (w1 : (Lit.int .i64 a1).wf = true) (w2 : (Lit.int .i64 a2).wf = true) :
    Calls Try.prog 7 #[.int .i64 a0, .int .i64 a1, .int .i64 a2] w fun e w' => e = .returned (.bool true) ∧ Below w.heap.size w w' := by
  obtain ⟨k, h⟩ := P a0 a1 a2 w0 w1 w2
  refine (casematelaw02_GfReckons.calls k a0 a1 a2 true w h).mono ?_
  rintro e w' ⟨rfl, hd⟩
  exact ⟨rfl, hd.below⟩

end Go.Proofs.Ytbpjhlkcolgmjaa.P

/- What Go functions of the translation come to, as plain functions, and that their calls come to just that. No condition but that the plain function answers. (Written by a program of this session.) -/
import Derived.Test.YtfclloehamgplaaPx0
import Derived.Test.YtfclloehamgplaaPx4
import Derived.Test.YtfclloehamgplaaPx5
import Derived.Test.YtfclloehamgplaaPx7
import Derived.Test.YtfclloehamgplaaPx9
import Derived.Test.YtfclloehamgplaaPx11
namespace Go.Proofs.Ytfclloehamgplaa.P
open Go.RowKit Go.Proofs.YtfclloehamgplaaW.PrintWords Go.Proofs.YtfclloehamgplaaW.PrintLast Go.Proofs.YtfclloehamgplaaW.PrintMore
attribute [local go_sem] max2_int min2_int max_two min_two max_three min_three max_four min_four   -- for this text's walks alone
set_option linter.unusedVariables false
set_option linter.unusedSimpArgs false

/-! ### casematelaw04_BpolyReckons: function 6 -/
mutual
def casematelaw04_BpolyReckons.j0 : Nat → Int → List Int → Int → Int → Int → List Int → List Int → Bool → Option (Bool)
  | 0, _, _, _, _, _, _, _, _ => none
  | k + 1, x2, x10, x11, x12, x13, x14, x15, x76 => if x76 = true then (some false) else ((casemateref02_Is.f x2).bind fun t363 => (if (t363 != (x13 == 0)) = true then (casematelaw04_BpolyReckons.j1 k x10 x11 x14 x15 true) else (if x13 = 0 then ((casemateref04_Value.f k x14 x2).bind fun t364 => (casematelaw04_BpolyReckons.j1 k x10 x11 x14 x15 (x12 != t364))) else (if x13 = 1 then (if x12 = 0 then (casematelaw04_BpolyReckons.j1 k x10 x11 x14 x15 false) else (casematelaw04_BpolyReckons.j1 k x10 x11 x14 x15 true)) else (casematelaw04_BpolyReckons.j1 k x10 x11 x14 x15 true)))))
def casematelaw04_BpolyReckons.j1 : Nat → List Int → Int → List Int → List Int → Bool → Option (Bool)
  | 0, _, _, _, _, _ => none
  | k + 1, x10, x11, x14, x15, x104 => if x104 = true then (some false) else ((casemateref04_Degree.f k x15).bind fun t365 => (if t365 < 0 then ((casematelaw04_awake.f k).bind fun t366 => (if t366 = true then (if x11 = 20 then (some ((x10.length : Int) == 0)) else (some false)) else (some false))) else ((casematelaw04_awake.f k).bind fun t367 => (if t367 = true then (if x11 = 0 then ((casemateref04_Mod.f k x14 x15).bind fun t368 => ((casemateref04_Bytes.f k t368).bind fun t371 => (some ((strOfNums x10).toList == (strOfNums t371).toList)))) else (some false)) else (some false)))))
end
def casematelaw04_BpolyReckons.f (k : Nat) (l0 : List Int) (l1 : List Int) (a2 : Int) : Option (Bool) := (casematelaw04_small.f l0 l1).bind fun t324 => (if t324 = true then ((some (([] : List Int) : List Int)).bind fun y325 => (if y325.length + l0.length < 140737488355328 then ((some (y325 ++ l0 : List Int)).bind fun y328 => ((bpoly_Add.f k y328 l1).bind fun t331 => ((bpoly_Mul.f k y328 l1).bind fun t334 => ((bpoly_Mod.f k y328 l1).bind fun bt337 => ((bpoly_Value.f k y328 a2).bind fun bt341 => ((casemateref01_All.f k l0).bind fun t343 => ((casemateref01_All.f k l1).bind fun t346 => (if (strOfNums y328).toList = (strOfNums l0).toList then ((bpoly_Degree.f k y328).bind fun t349 => ((casemateref04_Degree.f k t343).bind fun t350 => (if t349 = t350 then ((casemateref04_Add.f k t343 t346).bind fun t351 => ((casemateref04_Bytes.f k t351).bind fun t354 => (if (strOfNums t331).toList = (strOfNums t354).toList then ((casemateref04_Mul.f k t343 t346).bind fun t357 => ((casemateref04_Bytes.f k t357).bind fun t360 => (casematelaw04_BpolyReckons.j0 k a2 bt337.1 bt337.2 bt341.1 bt341.2 t343 t346 ((strOfNums t334).toList != (strOfNums t360).toList)))) else (casematelaw04_BpolyReckons.j0 k a2 bt337.1 bt337.2 bt341.1 bt341.2 t343 t346 true)))) else (casematelaw04_BpolyReckons.j0 k a2 bt337.1 bt337.2 bt341.1 bt341.2 t343 t346 true)))) else (casematelaw04_BpolyReckons.j0 k a2 bt337.1 bt337.2 bt341.1 bt341.2 t343 t346 true))))))))) else (none))) else (some true))
theorem casematelaw04_BpolyReckons.mono_l : ∀ k, (∀ y0 y1 y2 y3 y4 y5 y6 y7, LeO (casematelaw04_BpolyReckons.j0 k y0 y1 y2 y3 y4 y5 y6 y7) (casematelaw04_BpolyReckons.j0 (k + 1) y0 y1 y2 y3 y4 y5 y6 y7)) ∧ (∀ y0 y1 y2 y3 y4, LeO (casematelaw04_BpolyReckons.j1 k y0 y1 y2 y3 y4) (casematelaw04_BpolyReckons.j1 (k + 1) y0 y1 y2 y3 y4))
  | 0 => ⟨fun _ _ _ _ _ _ _ _ r h => by simp [casematelaw04_BpolyReckons.j0] at h, fun _ _ _ _ _ r h => by simp [casematelaw04_BpolyReckons.j1] at h⟩
  | k + 1 => by
    obtain ⟨ih0, ih1⟩ := casematelaw04_BpolyReckons.mono_l k
    refine ⟨?_, ?_⟩
    · intro y0 y1 y2 y3 y4 y5 y6 y7
      unfold casematelaw04_BpolyReckons.j0
      repeat' first
      | (with_reducible exact ih0 _ _ _ _ _ _ _ _)
      | (with_reducible exact ih1 _ _ _ _ _)
      | (with_reducible exact bpoly_Add.mono _ _ _)
      | (with_reducible exact bpoly_Degree.mono _ _)
      | (with_reducible exact bpoly_Mod.mono _ _ _)
      | (with_reducible exact bpoly_Mul.mono _ _ _)
      | (with_reducible exact bpoly_Value.mono _ _ _)
      | (with_reducible exact casematelaw04_awake.mono _)
      | (with_reducible exact casemateref01_All.mono _ _)
      | (with_reducible exact casemateref04_Add.mono _ _ _)
      | (with_reducible exact casemateref04_Bytes.mono _ _)
      | (with_reducible exact casemateref04_Degree.mono _ _)
      | (with_reducible exact casemateref04_Mod.mono _ _ _)
      | (with_reducible exact casemateref04_Mul.mono _ _ _)
      | (with_reducible exact casemateref04_Value.mono _ _ _)
      | (with_reducible exact LeO.refl _)
      | (with_reducible exact LeO.none _)
      | (with_reducible refine LeO.ite ?_ ?_)
      | (with_reducible refine LeO.bind ?_ (fun _ => ?_))
      | exact ih0 _ _ _ _ _ _ _ _
      | exact ih1 _ _ _ _ _
      | exact bpoly_Add.mono _ _ _
      | exact bpoly_Degree.mono _ _
      | exact bpoly_Mod.mono _ _ _
      | exact bpoly_Mul.mono _ _ _
      | exact bpoly_Value.mono _ _ _
      | exact casematelaw04_awake.mono _
      | exact casemateref01_All.mono _ _
      | exact casemateref04_Add.mono _ _ _
      | exact casemateref04_Bytes.mono _ _
      | exact casemateref04_Degree.mono _ _
      | exact casemateref04_Mod.mono _ _ _
      | exact casemateref04_Mul.mono _ _ _
      | exact casemateref04_Value.mono _ _ _
      | exact LeO.none _
      | refine LeO.ite ?_ ?_
      | refine LeO.bind ?_ (fun _ => ?_)
    · intro y0 y1 y2 y3 y4
      unfold casematelaw04_BpolyReckons.j1
      repeat' first
      | (with_reducible exact ih0 _ _ _ _ _ _ _ _)
      | (with_reducible exact ih1 _ _ _ _ _)
      | (with_reducible exact bpoly_Add.mono _ _ _)
      | (with_reducible exact bpoly_Degree.mono _ _)
      | (with_reducible exact bpoly_Mod.mono _ _ _)
      | (with_reducible exact bpoly_Mul.mono _ _ _)
      | (with_reducible exact bpoly_Value.mono _ _ _)
      | (with_reducible exact casematelaw04_awake.mono _)
      | (with_reducible exact casemateref01_All.mono _ _)
      | (with_reducible exact casemateref04_Add.mono _ _ _)
      | (with_reducible exact casemateref04_Bytes.mono _ _)
      | (with_reducible exact casemateref04_Degree.mono _ _)
      | (with_reducible exact casemateref04_Mod.mono _ _ _)
      | (with_reducible exact casemateref04_Mul.mono _ _ _)
      | (with_reducible exact casemateref04_Value.mono _ _ _)
      | (with_reducible exact LeO.refl _)
      | (with_reducible exact LeO.none _)
      | (with_reducible refine LeO.ite ?_ ?_)
      | (with_reducible refine LeO.bind ?_ (fun _ => ?_))
      | exact ih0 _ _ _ _ _ _ _ _
      | exact ih1 _ _ _ _ _
      | exact bpoly_Add.mono _ _ _
      | exact bpoly_Degree.mono _ _
      | exact bpoly_Mod.mono _ _ _
      | exact bpoly_Mul.mono _ _ _
      | exact bpoly_Value.mono _ _ _
      | exact casematelaw04_awake.mono _
      | exact casemateref01_All.mono _ _
      | exact casemateref04_Add.mono _ _ _
      | exact casemateref04_Bytes.mono _ _
      | exact casemateref04_Degree.mono _ _
      | exact casemateref04_Mod.mono _ _ _
      | exact casemateref04_Mul.mono _ _ _
      | exact casemateref04_Value.mono _ _ _
      | exact LeO.none _
      | refine LeO.ite ?_ ?_
      | refine LeO.bind ?_ (fun _ => ?_)
theorem casematelaw04_BpolyReckons.mono : ∀ a0 a1 a2 k, LeO (casematelaw04_BpolyReckons.f k a0 a1 a2) (casematelaw04_BpolyReckons.f (k + 1) a0 a1 a2) := by
  intro a0 a1 a2 k
  obtain ⟨ih0, ih1⟩ := casematelaw04_BpolyReckons.mono_l k
  unfold casematelaw04_BpolyReckons.f
  repeat' first
      | (with_reducible exact ih0 _ _ _ _ _ _ _ _)
      | (with_reducible exact ih1 _ _ _ _ _)
      | (with_reducible exact bpoly_Add.mono _ _ _)
      | (with_reducible exact bpoly_Degree.mono _ _)
      | (with_reducible exact bpoly_Mod.mono _ _ _)
      | (with_reducible exact bpoly_Mul.mono _ _ _)
      | (with_reducible exact bpoly_Value.mono _ _ _)
      | (with_reducible exact casematelaw04_awake.mono _)
      | (with_reducible exact casemateref01_All.mono _ _)
      | (with_reducible exact casemateref04_Add.mono _ _ _)
      | (with_reducible exact casemateref04_Bytes.mono _ _)
      | (with_reducible exact casemateref04_Degree.mono _ _)
      | (with_reducible exact casemateref04_Mod.mono _ _ _)
      | (with_reducible exact casemateref04_Mul.mono _ _ _)
      | (with_reducible exact casemateref04_Value.mono _ _ _)
      | (with_reducible exact LeO.refl _)
      | (with_reducible exact LeO.none _)
      | (with_reducible refine LeO.ite ?_ ?_)
      | (with_reducible refine LeO.bind ?_ (fun _ => ?_))
      | exact ih0 _ _ _ _ _ _ _ _
      | exact ih1 _ _ _ _ _
      | exact bpoly_Add.mono _ _ _
      | exact bpoly_Degree.mono _ _
      | exact bpoly_Mod.mono _ _ _
      | exact bpoly_Mul.mono _ _ _
      | exact bpoly_Value.mono _ _ _
      | exact casematelaw04_awake.mono _
      | exact casemateref01_All.mono _ _
      | exact casemateref04_Add.mono _ _ _
      | exact casemateref04_Bytes.mono _ _
      | exact casemateref04_Degree.mono _ _
      | exact casemateref04_Mod.mono _ _ _
      | exact casemateref04_Mul.mono _ _ _
      | exact casemateref04_Value.mono _ _ _
      | exact LeO.none _
      | refine LeO.ite ?_ ?_
      | refine LeO.bind ?_ (fun _ => ?_)
def casematelaw04_BpolyReckons.T10 : Bool × List (List Nat × List Nat) := (true, [([], []), ([0], [0]), ([], []), ([2], [2]), ([1, 3], [1, 3]), ([4], [4]), ([5], [5]), ([6, 5, 5], [5, 6]), ([5], [5]), ([8, 7, 5], [5, 8]), ([7, 9, 5], [5, 7, 9]), ([5, 10], [5, 10]), ([11, 9], [11]), ([12], [12]), ([13, 12], [12, 13]), ([12], [12]), ([12], [12]), ([15, 16, 12, 12], [12, 15, 16]), ([17, 17, 12], [12, 17]), ([18, 12], [12, 18]), ([14, 19, 12], [12, 14, 19]), ([12, 20], [12, 20]), ([21, 18], [21]), ([22], [22]), ([23, 22], [22, 23]), ([22], [22]), ([22], [22]), ([25, 26, 22, 22], [22, 25, 26]), ([27, 27, 22], [22, 27]), ([28, 22], [22, 28]), ([24, 29, 22], [22, 24, 29]), ([22, 30], [22, 30])])
def casematelaw04_BpolyReckons.B10 : List Nat := [0, 1, 0, 4, 15, 31, 63, 127, 63, 511, 1023, 2047, 4095, 8191, 16383, 8191, 8191, 106495, 237567, 499711, 1048575, 2097151, 4194303, 8388607, 16777215, 8388607, 8388607, 109051903, 243269631, 511705087, 1073741823, 2147483647]
theorem casematelaw04_BpolyReckons.tab10 : rtab .any (opsOf Try.f6 10) = casematelaw04_BpolyReckons.T10 := by kernel_rfl
theorem casematelaw04_BpolyReckons.bits10 : waitsOk casematelaw04_BpolyReckons.T10.2 casematelaw04_BpolyReckons.B10 = true := by kernel_rfl
def casematelaw04_BpolyReckons.T16 : Bool × List (List Nat × List Nat) := (true, [([], []), ([0, 0], [0]), ([1], [1]), ([2, 1], [1, 2]), ([1, 3], [1, 3]), ([4, 1], [4]), ([5], [5]), ([6, 5], [5, 6]), ([5], [5]), ([5], [5]), ([8, 9, 5, 5], [5, 8, 9]), ([10, 10, 5], [5, 10]), ([11, 5], [5, 11]), ([7, 12, 5], [5, 7, 12]), ([5, 13], [5, 13]), ([14, 11, 0, 1, 2, 3, 4, 5, 6, 7, 8, 9, 10, 11, 12, 13, 14], [14])])
def casematelaw04_BpolyReckons.B16 : List Nat := [0, 1, 3, 7, 15, 31, 63, 127, 63, 63, 831, 1855, 3903, 8191, 16383, 32767]
theorem casematelaw04_BpolyReckons.tab16 : rtab .any (opsOf Try.f6 16) = casematelaw04_BpolyReckons.T16 := by kernel_rfl
theorem casematelaw04_BpolyReckons.bits16 : waitsOk casematelaw04_BpolyReckons.T16.2 casematelaw04_BpolyReckons.B16 = true := by kernel_rfl
theorem casematelaw04_BpolyReckons.strV {w : World} {e s1 s2 s3 : TypeId} {base : Nat} {ok : Nat → Prop} {v : Value} {xs : List Int} (hs : Try.prog.underlying s1 = some (.slice s2)) (he : Try.prog.underlying s2 = some (.int .u8)) (hd : Try.prog.underlying s3 = some .string) (h : Kd.V (Kd.int .u8) e w base ok v xs) : Sem.run Try.prog (convert s1 s3 v) w = .ok (.string (strOfNums xs)) w := by
  obtain ⟨A, c, rfl⟩ := Kd.V_slice h
  exact Kd.C_string hs he hd (Kd.V_reads' h).2.2
theorem casematelaw04_BpolyReckons.j0_no : ∀ (k : Nat) y0 y1 y2 y3 y4 y5 y6, ¬ casematelaw04_BpolyReckons.j0 k y0 y1 y2 y3 y4 y5 y6 true = some true
  | 0, _, _, _, _, _, _, _ => by simp [casematelaw04_BpolyReckons.j0]
  | k + 1, _, _, _, _, _, _, _ => by simp [casematelaw04_BpolyReckons.j0]
theorem casematelaw04_BpolyReckons.j1_no : ∀ (k : Nat) y0 y1 y2 y3, ¬ casematelaw04_BpolyReckons.j1 k y0 y1 y2 y3 true = some true
  | 0, _, _, _, _ => by simp [casematelaw04_BpolyReckons.j1]
  | k + 1, _, _, _, _ => by simp [casematelaw04_BpolyReckons.j1]
set_option maxHeartbeats 8000000 in
set_option maxRecDepth 100000 in
theorem casematelaw04_BpolyReckons.calls (k : Nat) (A0 : Option Addr) (c0 : Nat) (l0 : List Int) (A1 : Option Addr) (c1 : Nat) (l1 : List Int) (a2 : Int) (r : Bool) (hr0_ : r = true) (w : World) (hr0 : Kd.C (Kd.int .u8) w A0 l0.length l0) (hc0 : l0.length ≤ c0) (hr1 : Kd.C (Kd.int .u8) w A1 l1.length l1) (hc1 : l1.length ≤ c1) (h : casematelaw04_BpolyReckons.f k l0 l1 a2 = some r) :
    Calls Try.prog 6 #[.slice A0 l0.length c0, .slice A1 l1.length c1, .int .i64 a2] w fun e w' => e = .returned (.bool r) ∧ Below w.heap.size w w' := by
  have HR0 := Aside0.mk hr0
  have HC0 := Aside0.mk hc0
  clear hr0 hc0
  have HR1 := Aside0.mk hr1
  have HC1 := Aside0.mk hc1
  clear hr1 hc1
  have HB := Aside0.mk (Below.refl w.heap.size w)
  have hr_ := Aside0.mk hr0_
  have H : ((casematelaw04_small.f l0 l1).bind fun t324 => (if t324 = true then ((some (([] : List Int) : List Int)).bind fun y325 => (if y325.length + l0.length < 140737488355328 then ((some (y325 ++ l0 : List Int)).bind fun y328 => ((bpoly_Add.f k y328 l1).bind fun t331 => ((bpoly_Mul.f k y328 l1).bind fun t334 => ((bpoly_Mod.f k y328 l1).bind fun bt337 => ((bpoly_Value.f k y328 a2).bind fun bt341 => ((casemateref01_All.f k l0).bind fun t343 => ((casemateref01_All.f k l1).bind fun t346 => (if (strOfNums y328).toList = (strOfNums l0).toList then ((bpoly_Degree.f k y328).bind fun t349 => ((casemateref04_Degree.f k t343).bind fun t350 => (if t349 = t350 then ((casemateref04_Add.f k t343 t346).bind fun t351 => ((casemateref04_Bytes.f k t351).bind fun t354 => (if (strOfNums t331).toList = (strOfNums t354).toList then ((casemateref04_Mul.f k t343 t346).bind fun t357 => ((casemateref04_Bytes.f k t357).bind fun t360 => (casematelaw04_BpolyReckons.j0 k a2 bt337.1 bt337.2 bt341.1 bt341.2 t343 t346 ((strOfNums t334).toList != (strOfNums t360).toList)))) else (casematelaw04_BpolyReckons.j0 k a2 bt337.1 bt337.2 bt341.1 bt341.2 t343 t346 true)))) else (casematelaw04_BpolyReckons.j0 k a2 bt337.1 bt337.2 bt341.1 bt341.2 t343 t346 true)))) else (casematelaw04_BpolyReckons.j0 k a2 bt337.1 bt337.2 bt341.1 bt341.2 t343 t346 true))))))))) else (none))) else (some true))) = some r := h
  clear h
  replace H := Option.bind_eq_some_iff.mp H
  obtain ⟨t324, A40, H⟩ := H
  replace H : (if t324 = true then ((some (([] : List Int) : List Int)).bind fun y325 => (if y325.length + l0.length < 140737488355328 then ((some (y325 ++ l0 : List Int)).bind fun y328 => ((bpoly_Add.f k y328 l1).bind fun t331 => ((bpoly_Mul.f k y328 l1).bind fun t334 => ((bpoly_Mod.f k y328 l1).bind fun bt337 => ((bpoly_Value.f k y328 a2).bind fun bt341 => ((casemateref01_All.f k l0).bind fun t343 => ((casemateref01_All.f k l1).bind fun t346 => (if (strOfNums y328).toList = (strOfNums l0).toList then ((bpoly_Degree.f k y328).bind fun t349 => ((casemateref04_Degree.f k t343).bind fun t350 => (if t349 = t350 then ((casemateref04_Add.f k t343 t346).bind fun t351 => ((casemateref04_Bytes.f k t351).bind fun t354 => (if (strOfNums t331).toList = (strOfNums t354).toList then ((casemateref04_Mul.f k t343 t346).bind fun t357 => ((casemateref04_Bytes.f k t357).bind fun t360 => (casematelaw04_BpolyReckons.j0 k a2 bt337.1 bt337.2 bt341.1 bt341.2 t343 t346 ((strOfNums t334).toList != (strOfNums t360).toList)))) else (casematelaw04_BpolyReckons.j0 k a2 bt337.1 bt337.2 bt341.1 bt341.2 t343 t346 true)))) else (casematelaw04_BpolyReckons.j0 k a2 bt337.1 bt337.2 bt341.1 bt341.2 t343 t346 true)))) else (casematelaw04_BpolyReckons.j0 k a2 bt337.1 bt337.2 bt341.1 bt341.2 t343 t346 true))))))))) else (none))) else (some true)) = some r := H
  have A4 := Aside0.mk A40
  clear A40
  by_cases c5 : t324 = true
  · subst c5
    have H1 : ((some (([] : List Int) : List Int)).bind fun y325 => (if y325.length + l0.length < 140737488355328 then ((some (y325 ++ l0 : List Int)).bind fun y328 => ((bpoly_Add.f k y328 l1).bind fun t331 => ((bpoly_Mul.f k y328 l1).bind fun t334 => ((bpoly_Mod.f k y328 l1).bind fun bt337 => ((bpoly_Value.f k y328 a2).bind fun bt341 => ((casemateref01_All.f k l0).bind fun t343 => ((casemateref01_All.f k l1).bind fun t346 => (if (strOfNums y328).toList = (strOfNums l0).toList then ((bpoly_Degree.f k y328).bind fun t349 => ((casemateref04_Degree.f k t343).bind fun t350 => (if t349 = t350 then ((casemateref04_Add.f k t343 t346).bind fun t351 => ((casemateref04_Bytes.f k t351).bind fun t354 => (if (strOfNums t331).toList = (strOfNums t354).toList then ((casemateref04_Mul.f k t343 t346).bind fun t357 => ((casemateref04_Bytes.f k t357).bind fun t360 => (casematelaw04_BpolyReckons.j0 k a2 bt337.1 bt337.2 bt341.1 bt341.2 t343 t346 ((strOfNums t334).toList != (strOfNums t360).toList)))) else (casematelaw04_BpolyReckons.j0 k a2 bt337.1 bt337.2 bt341.1 bt341.2 t343 t346 true)))) else (casematelaw04_BpolyReckons.j0 k a2 bt337.1 bt337.2 bt341.1 bt341.2 t343 t346 true)))) else (casematelaw04_BpolyReckons.j0 k a2 bt337.1 bt337.2 bt341.1 bt341.2 t343 t346 true))))))))) else (none))) = some r := by rw [if_pos rfl] at H; exact H
    clear H
    have H := H1
    clear H1
    obtain ⟨y325, hy325⟩ : ∃ y_ : List Int, y_ = (([] : List Int)) := ⟨_, rfl⟩
    replace H : (if y325.length + l0.length < 140737488355328 then ((some (y325 ++ l0 : List Int)).bind fun y328 => ((bpoly_Add.f k y328 l1).bind fun t331 => ((bpoly_Mul.f k y328 l1).bind fun t334 => ((bpoly_Mod.f k y328 l1).bind fun bt337 => ((bpoly_Value.f k y328 a2).bind fun bt341 => ((casemateref01_All.f k l0).bind fun t343 => ((casemateref01_All.f k l1).bind fun t346 => (if (strOfNums y328).toList = (strOfNums l0).toList then ((bpoly_Degree.f k y328).bind fun t349 => ((casemateref04_Degree.f k t343).bind fun t350 => (if t349 = t350 then ((casemateref04_Add.f k t343 t346).bind fun t351 => ((casemateref04_Bytes.f k t351).bind fun t354 => (if (strOfNums t331).toList = (strOfNums t354).toList then ((casemateref04_Mul.f k t343 t346).bind fun t357 => ((casemateref04_Bytes.f k t357).bind fun t360 => (casematelaw04_BpolyReckons.j0 k a2 bt337.1 bt337.2 bt341.1 bt341.2 t343 t346 ((strOfNums t334).toList != (strOfNums t360).toList)))) else (casematelaw04_BpolyReckons.j0 k a2 bt337.1 bt337.2 bt341.1 bt341.2 t343 t346 true)))) else (casematelaw04_BpolyReckons.j0 k a2 bt337.1 bt337.2 bt341.1 bt341.2 t343 t346 true)))) else (casematelaw04_BpolyReckons.j0 k a2 bt337.1 bt337.2 bt341.1 bt341.2 t343 t346 true))))))))) else (none)) = some r := by first | (rw [hy325]; with_reducible exact H) | (have H2_ := (Option.bind_some _ _).symm.trans H; rw [hy325]; with_reducible exact H2_) | (have H2_ := (Option.bind_some _ _).symm.trans H; with_reducible exact H2_) | with_reducible exact H | (rw [hy325]; exact H) | exact H
    have Ny325 := Aside0.mk hy325
    clear hy325
    by_cases c6 : y325.length + l0.length < 140737488355328
    · rw [if_pos c6] at H
      have LMc6 := Aside0.mk c6
      clear c6
      obtain ⟨y328, hy328⟩ : ∃ y_ : List Int, y_ = (y325 ++ l0) := ⟨_, rfl⟩
      replace H : ((bpoly_Add.f k y328 l1).bind fun t331 => ((bpoly_Mul.f k y328 l1).bind fun t334 => ((bpoly_Mod.f k y328 l1).bind fun bt337 => ((bpoly_Value.f k y328 a2).bind fun bt341 => ((casemateref01_All.f k l0).bind fun t343 => ((casemateref01_All.f k l1).bind fun t346 => (if (strOfNums y328).toList = (strOfNums l0).toList then ((bpoly_Degree.f k y328).bind fun t349 => ((casemateref04_Degree.f k t343).bind fun t350 => (if t349 = t350 then ((casemateref04_Add.f k t343 t346).bind fun t351 => ((casemateref04_Bytes.f k t351).bind fun t354 => (if (strOfNums t331).toList = (strOfNums t354).toList then ((casemateref04_Mul.f k t343 t346).bind fun t357 => ((casemateref04_Bytes.f k t357).bind fun t360 => (casematelaw04_BpolyReckons.j0 k a2 bt337.1 bt337.2 bt341.1 bt341.2 t343 t346 ((strOfNums t334).toList != (strOfNums t360).toList)))) else (casematelaw04_BpolyReckons.j0 k a2 bt337.1 bt337.2 bt341.1 bt341.2 t343 t346 true)))) else (casematelaw04_BpolyReckons.j0 k a2 bt337.1 bt337.2 bt341.1 bt341.2 t343 t346 true)))) else (casematelaw04_BpolyReckons.j0 k a2 bt337.1 bt337.2 bt341.1 bt341.2 t343 t346 true)))))))) = some r := by first | (rw [hy328]; with_reducible exact H) | (have H2_ := (Option.bind_some _ _).symm.trans H; rw [hy328]; with_reducible exact H2_) | (have H2_ := (Option.bind_some _ _).symm.trans H; with_reducible exact H2_) | with_reducible exact H | (rw [hy328]; exact H) | exact H
      have Ny328 := Aside0.mk hy328
      clear hy328
      replace H := Option.bind_eq_some_iff.mp H
      obtain ⟨t331, A70, H⟩ := H
      replace H : ((bpoly_Mul.f k y328 l1).bind fun t334 => ((bpoly_Mod.f k y328 l1).bind fun bt337 => ((bpoly_Value.f k y328 a2).bind fun bt341 => ((casemateref01_All.f k l0).bind fun t343 => ((casemateref01_All.f k l1).bind fun t346 => (if (strOfNums y328).toList = (strOfNums l0).toList then ((bpoly_Degree.f k y328).bind fun t349 => ((casemateref04_Degree.f k t343).bind fun t350 => (if t349 = t350 then ((casemateref04_Add.f k t343 t346).bind fun t351 => ((casemateref04_Bytes.f k t351).bind fun t354 => (if (strOfNums t331).toList = (strOfNums t354).toList then ((casemateref04_Mul.f k t343 t346).bind fun t357 => ((casemateref04_Bytes.f k t357).bind fun t360 => (casematelaw04_BpolyReckons.j0 k a2 bt337.1 bt337.2 bt341.1 bt341.2 t343 t346 ((strOfNums t334).toList != (strOfNums t360).toList)))) else (casematelaw04_BpolyReckons.j0 k a2 bt337.1 bt337.2 bt341.1 bt341.2 t343 t346 true)))) else (casematelaw04_BpolyReckons.j0 k a2 bt337.1 bt337.2 bt341.1 bt341.2 t343 t346 true)))) else (casematelaw04_BpolyReckons.j0 k a2 bt337.1 bt337.2 bt341.1 bt341.2 t343 t346 true))))))) = some r := H
      have A7 := Aside0.mk A70
      clear A70
      replace H := Option.bind_eq_some_iff.mp H
      obtain ⟨t334, A80, H⟩ := H
      replace H : ((bpoly_Mod.f k y328 l1).bind fun bt337 => ((bpoly_Value.f k y328 a2).bind fun bt341 => ((casemateref01_All.f k l0).bind fun t343 => ((casemateref01_All.f k l1).bind fun t346 => (if (strOfNums y328).toList = (strOfNums l0).toList then ((bpoly_Degree.f k y328).bind fun t349 => ((casemateref04_Degree.f k t343).bind fun t350 => (if t349 = t350 then ((casemateref04_Add.f k t343 t346).bind fun t351 => ((casemateref04_Bytes.f k t351).bind fun t354 => (if (strOfNums t331).toList = (strOfNums t354).toList then ((casemateref04_Mul.f k t343 t346).bind fun t357 => ((casemateref04_Bytes.f k t357).bind fun t360 => (casematelaw04_BpolyReckons.j0 k a2 bt337.1 bt337.2 bt341.1 bt341.2 t343 t346 ((strOfNums t334).toList != (strOfNums t360).toList)))) else (casematelaw04_BpolyReckons.j0 k a2 bt337.1 bt337.2 bt341.1 bt341.2 t343 t346 true)))) else (casematelaw04_BpolyReckons.j0 k a2 bt337.1 bt337.2 bt341.1 bt341.2 t343 t346 true)))) else (casematelaw04_BpolyReckons.j0 k a2 bt337.1 bt337.2 bt341.1 bt341.2 t343 t346 true)))))) = some r := H
      have A8 := Aside0.mk A80
      clear A80
      replace H := Option.bind_eq_some_iff.mp H
      obtain ⟨⟨t337, t340⟩, A90, H⟩ := H
      replace H : ((bpoly_Value.f k y328 a2).bind fun bt341 => ((casemateref01_All.f k l0).bind fun t343 => ((casemateref01_All.f k l1).bind fun t346 => (if (strOfNums y328).toList = (strOfNums l0).toList then ((bpoly_Degree.f k y328).bind fun t349 => ((casemateref04_Degree.f k t343).bind fun t350 => (if t349 = t350 then ((casemateref04_Add.f k t343 t346).bind fun t351 => ((casemateref04_Bytes.f k t351).bind fun t354 => (if (strOfNums t331).toList = (strOfNums t354).toList then ((casemateref04_Mul.f k t343 t346).bind fun t357 => ((casemateref04_Bytes.f k t357).bind fun t360 => (casematelaw04_BpolyReckons.j0 k a2 t337 t340 bt341.1 bt341.2 t343 t346 ((strOfNums t334).toList != (strOfNums t360).toList)))) else (casematelaw04_BpolyReckons.j0 k a2 t337 t340 bt341.1 bt341.2 t343 t346 true)))) else (casematelaw04_BpolyReckons.j0 k a2 t337 t340 bt341.1 bt341.2 t343 t346 true)))) else (casematelaw04_BpolyReckons.j0 k a2 t337 t340 bt341.1 bt341.2 t343 t346 true))))) = some r := H
      have A9 := Aside0.mk A90
      clear A90
      replace H := Option.bind_eq_some_iff.mp H
      obtain ⟨⟨t341, t342⟩, A100, H⟩ := H
      replace H : ((casemateref01_All.f k l0).bind fun t343 => ((casemateref01_All.f k l1).bind fun t346 => (if (strOfNums y328).toList = (strOfNums l0).toList then ((bpoly_Degree.f k y328).bind fun t349 => ((casemateref04_Degree.f k t343).bind fun t350 => (if t349 = t350 then ((casemateref04_Add.f k t343 t346).bind fun t351 => ((casemateref04_Bytes.f k t351).bind fun t354 => (if (strOfNums t331).toList = (strOfNums t354).toList then ((casemateref04_Mul.f k t343 t346).bind fun t357 => ((casemateref04_Bytes.f k t357).bind fun t360 => (casematelaw04_BpolyReckons.j0 k a2 t337 t340 t341 t342 t343 t346 ((strOfNums t334).toList != (strOfNums t360).toList)))) else (casematelaw04_BpolyReckons.j0 k a2 t337 t340 t341 t342 t343 t346 true)))) else (casematelaw04_BpolyReckons.j0 k a2 t337 t340 t341 t342 t343 t346 true)))) else (casematelaw04_BpolyReckons.j0 k a2 t337 t340 t341 t342 t343 t346 true)))) = some r := H
      have A10 := Aside0.mk A100
      clear A100
      replace H := Option.bind_eq_some_iff.mp H
      obtain ⟨t343, A110, H⟩ := H
      replace H : ((casemateref01_All.f k l1).bind fun t346 => (if (strOfNums y328).toList = (strOfNums l0).toList then ((bpoly_Degree.f k y328).bind fun t349 => ((casemateref04_Degree.f k t343).bind fun t350 => (if t349 = t350 then ((casemateref04_Add.f k t343 t346).bind fun t351 => ((casemateref04_Bytes.f k t351).bind fun t354 => (if (strOfNums t331).toList = (strOfNums t354).toList then ((casemateref04_Mul.f k t343 t346).bind fun t357 => ((casemateref04_Bytes.f k t357).bind fun t360 => (casematelaw04_BpolyReckons.j0 k a2 t337 t340 t341 t342 t343 t346 ((strOfNums t334).toList != (strOfNums t360).toList)))) else (casematelaw04_BpolyReckons.j0 k a2 t337 t340 t341 t342 t343 t346 true)))) else (casematelaw04_BpolyReckons.j0 k a2 t337 t340 t341 t342 t343 t346 true)))) else (casematelaw04_BpolyReckons.j0 k a2 t337 t340 t341 t342 t343 t346 true))) = some r := H
      have A11 := Aside0.mk A110
      clear A110
      replace H := Option.bind_eq_some_iff.mp H
      obtain ⟨t346, A120, H⟩ := H
      replace H : (if (strOfNums y328).toList = (strOfNums l0).toList then ((bpoly_Degree.f k y328).bind fun t349 => ((casemateref04_Degree.f k t343).bind fun t350 => (if t349 = t350 then ((casemateref04_Add.f k t343 t346).bind fun t351 => ((casemateref04_Bytes.f k t351).bind fun t354 => (if (strOfNums t331).toList = (strOfNums t354).toList then ((casemateref04_Mul.f k t343 t346).bind fun t357 => ((casemateref04_Bytes.f k t357).bind fun t360 => (casematelaw04_BpolyReckons.j0 k a2 t337 t340 t341 t342 t343 t346 ((strOfNums t334).toList != (strOfNums t360).toList)))) else (casematelaw04_BpolyReckons.j0 k a2 t337 t340 t341 t342 t343 t346 true)))) else (casematelaw04_BpolyReckons.j0 k a2 t337 t340 t341 t342 t343 t346 true)))) else (casematelaw04_BpolyReckons.j0 k a2 t337 t340 t341 t342 t343 t346 true)) = some r := H
      have A12 := Aside0.mk A120
      clear A120
      have HC13 := Aside0.mk H
      clear H
      go_enter Try.func6, Try.ntmps6
      go_upto_region 10 with (first | ((with_reducible refine gate_callee (f := 19) rfl ?_); refine goesL_ (some 18) rfl rfl Try.func19 (by kernel_rfl) rfl #[.slice A0 l0.length c0, .slice A1 l1.length c1] rfl (by (try simp only [List.map_toArray, List.map_cons, List.map_nil]); first | done | rfl | (simp only [List.length_drop, List.length_take]; rfl)) ?_; (with_reducible refine (casematelaw04_small.calls _ _ l0 _ _ l1 true _ ?side1 ?side2 ?side3 ?side4 A4.out).mono ?_); (case side1 => repeat (first | exact HR0.out | (with_reducible refine Kd.C_alloc ?_ _) | (with_reducible refine Kd.C_drewN ?_ _) | (with_reducible refine Kd.C_drew ?_))); (case side2 => exact HC0.out); (case side3 => repeat (first | exact HR1.out | (with_reducible refine Kd.C_alloc ?_ _) | (with_reducible refine Kd.C_drewN ?_ _) | (with_reducible refine Kd.C_drew ?_))); (case side4 => exact HC1.out); rintro e w' ⟨rfl, ⟨nd, rfl⟩⟩; refine ⟨_, rfl, ?_⟩) | ((with_reducible refine gate_dst (N := 20) rfl ?_); (try (refine gate_guard (by rfl) ?_; dsimp only)); refine Kd.R_lit (Kd.int .u8) _ 5 ?hg (N := 20) ?hd (xs := ([] : List Int)) (inner := []) (ok := fun _ => True) (okp := fun _ => True) ?hr ?hp (fun _ hk => hk) trivial (Below.refl _ _) (Nat.le_refl _) (by simp) ?_; (case hd => rfl); (case hg => rfl); (case hr => first | (go_simp; done) | (go_simp; rfl)); (case hp => exact (Reps.none _ _)); intro v326 w14 ho15 hb hg_ hnew_; clear hg_ hnew_; (first | rw [← Ny325.out] at ho15 | (simp only [Int.reduceToNat] at ho15; rw [← Ny325.out] at ho15)); have n0_ := Aside0.mk (Kd.R_lower ho15 (below_size (by repeat (first | (with_reducible first | exact HB.out | apply below_alloc | apply pw_below_drewN | apply below_drew1) | exact HB.out)))); have n1_ := Aside0.mk (below_step (by repeat (first | (with_reducible first | exact HB.out | apply below_alloc | apply pw_below_drewN | apply below_drew1) | exact HB.out)) hb); clear HB; have HO327 := n0_; have HB := n1_; clear n0_ n1_; clear hb ho15) | ((with_reducible refine gate_builtin (b := .append) (xs := #[.tmp 20, .tmp 21]) rfl ?_); (try (refine gate_guard (by rfl) ?_; dsimp only)); at_builtin; refine Kd.R_append_rows (Kd.int .u8) (w0 := w) w.heap.size rfl (.tmp 20) (.tmp 21) 22 5 (.int .u8 0) 1 rfl Try.underlying22 info5 rfl (by decide) (by omega) v326 y325 l0 _ _ _ (fun _ => True) (fun _ => False) rfl rfl ?aO ?aR (fun _ _ h => h) (fun _ h => h.elim) ?aF ?aB ?aS ?aL ?_; (case aR => repeat (first | exact (Kd.C_below HR0.out HB.out) | (with_reducible refine Kd.C_alloc ?_ _) | (with_reducible refine Kd.C_drewN ?_ _) | (with_reducible refine Kd.C_drew ?_))); (case aB => exact (by repeat (first | (with_reducible first | exact HB.out | apply below_alloc | apply pw_below_drewN | apply below_drew1) | exact HB.out))); (case aF => exact (fun _ _ => trivial)); (case aO => exact (by (with_reducible repeat (first | apply Kd.R_alloc | apply Kd.R_drewN | apply Kd.R_drew)); exact HO327.out)); (case aS => exact (below_size (by repeat (first | (with_reducible first | exact HB.out | apply below_alloc | apply pw_below_drewN | apply below_drew1) | exact HB.out)))); (case aL => have := LMc6.out; omega); intro v329 w16 ho hb hg hat; rw [← Ny328.out] at ho; have n0_ := Aside0.mk (hb); have n1_ := Aside0.mk (ho); clear HB; clear HO327; have HB := n0_; have HO330 := n1_; clear n0_ n1_; clear ho hb hg hat; obtain ⟨Ao17, co17, eo17⟩ := Kd.R_slice HO330.out; subst eo17) | ((with_reducible refine gate_callee (f := 20) rfl ?_); refine goesL_ (some 25) rfl rfl Try.func20 (by kernel_rfl) rfl #[.slice Ao17 y328.length co17, .slice A1 l1.length c1] rfl (by (try simp only [List.map_toArray, List.map_cons, List.map_nil]); first | done | rfl | (simp only [List.length_drop, List.length_take]; rfl)) ?_; (with_reducible refine (bpoly_Add.calls k _ _ y328 _ _ l1 t331 _ ?side1 ?side2 ?side3 ?side4 A7.out).mono ?_); (case side1 => repeat (first | exact (Kd.R_reads' HO330.out).2.2 | (with_reducible refine Kd.C_alloc ?_ _) | (with_reducible refine Kd.C_drewN ?_ _) | (with_reducible refine Kd.C_drew ?_))); (case side2 => exact (Kd.R_reads' HO330.out).2.1); (case side3 => repeat (first | exact (Kd.C_below HR1.out HB.out) | (with_reducible refine Kd.C_alloc ?_ _) | (with_reducible refine Kd.C_drewN ?_ _) | (with_reducible refine Kd.C_drew ?_))); (case side4 => exact HC1.out); rintro e w18 ⟨v332, rfl, ho0, hb⟩; refine ⟨_, rfl, ?_⟩; have n0_ := Aside0.mk (Kd.R_below (by (with_reducible repeat (first | apply Kd.R_alloc | apply Kd.R_drewN | apply Kd.R_drew)); exact HO330.out) hb); have n1_ := Aside0.mk (Kd.V_lower (Kd.V_mono (ok' := fun k_ => some k_ ≠ (.slice Ao17 y328.length co17 : Value).ownBlock) ho0 (fun k_ hk_ => (Kd.fresh' (Kd.R_lt (by (with_reducible repeat (first | apply Kd.R_alloc | apply Kd.R_drewN | apply Kd.R_drew)); exact HO330.out)) k_ hk_))) (below_size (by repeat (first | (with_reducible first | exact HB.out | apply below_alloc | apply pw_below_drewN | apply below_drew1) | exact HB.out)))); have n2_ := Aside0.mk (below_step (by repeat (first | (with_reducible first | exact HB.out | apply below_alloc | apply pw_below_drewN | apply below_drew1) | exact HB.out)) hb); clear HO330; clear HB; have HO330 := n0_; have HO333 := n1_; have HB := n2_; clear n0_ n1_ n2_; (try clear hb); (try clear hb2); (try clear hk); (try clear hi); (try clear ho0)) | ((with_reducible refine gate_callee (f := 21) rfl ?_); refine goesL_ (some 28) rfl rfl Try.func21 (by kernel_rfl) rfl #[.slice Ao17 y328.length co17, .slice A1 l1.length c1] rfl (by (try simp only [List.map_toArray, List.map_cons, List.map_nil]); first | done | rfl | (simp only [List.length_drop, List.length_take]; rfl)) ?_; (with_reducible refine (bpoly_Mul.calls k _ _ y328 _ _ l1 t334 _ ?side1 ?side2 ?side3 ?side4 A8.out).mono ?_); (case side1 => repeat (first | exact (Kd.R_reads' HO330.out).2.2 | (with_reducible refine Kd.C_alloc ?_ _) | (with_reducible refine Kd.C_drewN ?_ _) | (with_reducible refine Kd.C_drew ?_))); (case side2 => exact (Kd.R_reads' HO330.out).2.1); (case side3 => repeat (first | exact (Kd.C_below HR1.out HB.out) | (with_reducible refine Kd.C_alloc ?_ _) | (with_reducible refine Kd.C_drewN ?_ _) | (with_reducible refine Kd.C_drew ?_))); (case side4 => exact HC1.out); rintro e w19 ⟨v335, rfl, ho0, hb⟩; refine ⟨_, rfl, ?_⟩; have n0_ := Aside0.mk (Kd.R_below (by (with_reducible repeat (first | apply Kd.R_alloc | apply Kd.R_drewN | apply Kd.R_drew)); exact HO330.out) hb); have n1_ := Aside0.mk (Kd.V_below (by (with_reducible repeat (first | apply Kd.V_alloc | apply Kd.V_drewN | apply Kd.V_drew)); exact HO333.out) hb); have n2_ := Aside0.mk (Kd.V_lower (Kd.V_mono (ok' := fun k_ => some k_ ≠ (.slice Ao17 y328.length co17 : Value).ownBlock) ho0 (fun k_ hk_ => (Kd.fresh' (Kd.R_lt (by (with_reducible repeat (first | apply Kd.R_alloc | apply Kd.R_drewN | apply Kd.R_drew)); exact HO330.out)) k_ hk_))) (below_size (by repeat (first | (with_reducible first | exact HB.out | apply below_alloc | apply pw_below_drewN | apply below_drew1) | exact HB.out)))); have n3_ := Aside0.mk (below_step (by repeat (first | (with_reducible first | exact HB.out | apply below_alloc | apply pw_below_drewN | apply below_drew1) | exact HB.out)) hb); clear HO330; clear HO333; clear HB; have HO330 := n0_; have HO333 := n1_; have HO336 := n2_; have HB := n3_; clear n0_ n1_ n2_ n3_; (try clear hb); (try clear hb2); (try clear hk); (try clear hi); (try clear ho0)) | ((with_reducible refine gate_callee (f := 22) rfl ?_); refine goesL_ (some 32) rfl rfl Try.func22 (by kernel_rfl) rfl #[.slice Ao17 y328.length co17, .slice A1 l1.length c1] rfl (by (try simp only [List.map_toArray, List.map_cons, List.map_nil]); first | done | rfl | (simp only [List.length_drop, List.length_take]; rfl)) ?_; (with_reducible refine (bpoly_Mod.calls k _ _ y328 (fun k_ => k_ < w.heap.size) _ _ l1 t337 t340 _ ?side1 ?side2 ?side3 A9.out).mono ?_); (case side1 => repeat (first | exact (Kd.R_reads' HO330.out).2.2 | (with_reducible refine Kd.C_alloc ?_ _) | (with_reducible refine Kd.C_drewN ?_ _) | (with_reducible refine Kd.C_drew ?_))); (case side2 => exact (Kd.R_reads' HO330.out).2.1); (case side3 => exact Kd.V_mk HC1.out (Kd.F_below (Kd.C_F (Kd.heap_int .u8) HR1.out) (by repeat (first | (with_reducible first | exact HB.out | apply below_alloc | apply pw_below_drewN | apply below_drew1) | exact HB.out)))); rintro e w20 ⟨v338, rfl, ho0, hb⟩; refine ⟨_, rfl, ?_⟩; have n0_ := Aside0.mk (Kd.R_below (by (with_reducible repeat (first | apply Kd.R_alloc | apply Kd.R_drewN | apply Kd.R_drew)); exact HO330.out) hb); have n1_ := Aside0.mk (Kd.V_below (by (with_reducible repeat (first | apply Kd.V_alloc | apply Kd.V_drewN | apply Kd.V_drew)); exact HO333.out) hb); have n2_ := Aside0.mk (Kd.V_below (by (with_reducible repeat (first | apply Kd.V_alloc | apply Kd.V_drewN | apply Kd.V_drew)); exact HO336.out) hb); have n3_ := Aside0.mk (Kd.V_lower (Kd.V_mono (ok' := fun k_ => some k_ ≠ (.slice Ao17 y328.length co17 : Value).ownBlock) ho0 (fun k_ hk_ => Or.elim hk_ (fun hs_ => fun e_ => Nat.not_le.2 hs_ (Kd.R_base HO330.out k_ e_.symm)) (fun hn_ => (Kd.fresh' (Kd.R_lt (by (with_reducible repeat (first | apply Kd.R_alloc | apply Kd.R_drewN | apply Kd.R_drew)); exact HO330.out)) k_ hn_)))) (below_size (by repeat (first | (with_reducible first | exact HB.out | apply below_alloc | apply pw_below_drewN | apply below_drew1) | exact HB.out)))); have n4_ := Aside0.mk (below_step (by repeat (first | (with_reducible first | exact HB.out | apply below_alloc | apply pw_below_drewN | apply below_drew1) | exact HB.out)) hb); clear HO330; clear HO333; clear HO336; clear HB; have HO330 := n0_; have HO333 := n1_; have HO336 := n2_; have HO339 := n3_; have HB := n4_; clear n0_ n1_ n2_ n3_ n4_; (try clear hb); (try clear hb2); (try clear hk); (try clear hi); (try clear ho0)) | ((with_reducible refine gate_callee (f := 18) rfl ?_); refine goesL_ (some 38) rfl rfl Try.func18 (by kernel_rfl) rfl #[.slice Ao17 y328.length co17, .int .i64 a2] rfl (by (try simp only [List.map_toArray, List.map_cons, List.map_nil]); first | done | rfl | (simp only [List.length_drop, List.length_take]; rfl)) ?_; (with_reducible refine (bpoly_Value.calls k _ _ y328 a2 t341 t342 _ ?side1 ?side2 A10.out).mono ?_); (case side1 => repeat (first | exact (Kd.R_reads' HO330.out).2.2 | (with_reducible refine Kd.C_alloc ?_ _) | (with_reducible refine Kd.C_drewN ?_ _) | (with_reducible refine Kd.C_drew ?_))); (case side2 => exact (Kd.R_reads' HO330.out).2.1); rintro e w' ⟨rfl, ⟨nd, rfl⟩⟩; refine ⟨_, rfl, ?_⟩) | ((with_reducible refine gate_callee (f := 13) rfl ?_); refine goesL_ (some 42) rfl rfl Try.func13 (by kernel_rfl) rfl #[.slice A0 l0.length c0] rfl (by (try simp only [List.map_toArray, List.map_cons, List.map_nil]); first | done | rfl | (simp only [List.length_drop, List.length_take]; rfl)) ?_; (with_reducible refine (casemateref01_All.calls k _ _ l0 t343 _ ?side1 ?side2 A11.out).mono ?_); (case side1 => repeat (first | exact (Kd.C_below HR0.out (by repeat (first | (with_reducible first | exact HB.out | apply below_alloc | apply pw_below_drewN | apply below_drew1) | exact HB.out))) | (with_reducible refine Kd.C_alloc ?_ _) | (with_reducible refine Kd.C_drewN ?_ _) | (with_reducible refine Kd.C_drew ?_))); (case side2 => exact HC0.out); rintro e w21 ⟨v344, rfl, ho0, hb⟩; refine ⟨_, rfl, ?_⟩; have n0_ := Aside0.mk (Kd.R_below (by (with_reducible repeat (first | apply Kd.R_alloc | apply Kd.R_drewN | apply Kd.R_drew)); exact HO330.out) hb); have n1_ := Aside0.mk (Kd.V_elder' (by (with_reducible repeat (first | apply Kd.V_alloc | apply Kd.V_drewN | apply Kd.V_drew)); exact HO333.out) (Kd.R_base ho0) hb); have n2_ := Aside0.mk (Kd.V_elder' (by (with_reducible repeat (first | apply Kd.V_alloc | apply Kd.V_drewN | apply Kd.V_drew)); exact HO336.out) (Kd.R_base ho0) hb); have n3_ := Aside0.mk (Kd.V_elder' (by (with_reducible repeat (first | apply Kd.V_alloc | apply Kd.V_drewN | apply Kd.V_drew)); exact HO339.out) (Kd.R_base ho0) hb); have n4_ := Aside0.mk (Kd.R_lower ho0 (below_size (by repeat (first | (with_reducible first | exact HB.out | apply below_alloc | apply pw_below_drewN | apply below_drew1) | exact HB.out)))); have n5_ := Aside0.mk (below_step (by repeat (first | (with_reducible first | exact HB.out | apply below_alloc | apply pw_below_drewN | apply below_drew1) | exact HB.out)) hb); clear HO330; clear HO333; clear HO336; clear HO339; clear HB; have HO330 := n0_; have HO333 := n1_; have HO336 := n2_; have HO339 := n3_; have HO345 := n4_; have HB := n5_; clear n0_ n1_ n2_ n3_ n4_ n5_; (try clear hb); (try clear hb2); (try clear hk); (try clear hi); (try clear ho0)) | ((with_reducible refine gate_callee (f := 13) rfl ?_); refine goesL_ (some 44) rfl rfl Try.func13 (by kernel_rfl) rfl #[.slice A1 l1.length c1] rfl (by (try simp only [List.map_toArray, List.map_cons, List.map_nil]); first | done | rfl | (simp only [List.length_drop, List.length_take]; rfl)) ?_; (with_reducible refine (casemateref01_All.calls k _ _ l1 t346 _ ?side1 ?side2 A12.out).mono ?_); (case side1 => repeat (first | exact (Kd.C_below HR1.out HB.out) | (with_reducible refine Kd.C_alloc ?_ _) | (with_reducible refine Kd.C_drewN ?_ _) | (with_reducible refine Kd.C_drew ?_))); (case side2 => exact HC1.out); rintro e w22 ⟨v347, rfl, ho0, hb⟩; refine ⟨_, rfl, ?_⟩; have n0_ := Aside0.mk (Kd.R_below (by (with_reducible repeat (first | apply Kd.R_alloc | apply Kd.R_drewN | apply Kd.R_drew)); exact HO330.out) hb); have n1_ := Aside0.mk (Kd.V_elder' (by (with_reducible repeat (first | apply Kd.V_alloc | apply Kd.V_drewN | apply Kd.V_drew)); exact HO333.out) (Kd.R_base ho0) hb); have n2_ := Aside0.mk (Kd.V_elder' (by (with_reducible repeat (first | apply Kd.V_alloc | apply Kd.V_drewN | apply Kd.V_drew)); exact HO336.out) (Kd.R_base ho0) hb); have n3_ := Aside0.mk (Kd.V_elder' (by (with_reducible repeat (first | apply Kd.V_alloc | apply Kd.V_drewN | apply Kd.V_drew)); exact HO339.out) (Kd.R_base ho0) hb); have n4_ := Aside0.mk (Kd.R_elder' (by (with_reducible repeat (first | apply Kd.R_alloc | apply Kd.R_drewN | apply Kd.R_drew)); exact HO345.out) (Kd.R_base ho0) hb); have n5_ := Aside0.mk (Kd.R_lower (Kd.R_new' ho0 (Kd.R_lt (by (with_reducible repeat (first | apply Kd.R_alloc | apply Kd.R_drewN | apply Kd.R_drew)); exact HO345.out))) (below_size (by repeat (first | (with_reducible first | exact HB.out | apply below_alloc | apply pw_below_drewN | apply below_drew1) | exact HB.out)))); have n6_ := Aside0.mk (below_step (by repeat (first | (with_reducible first | exact HB.out | apply below_alloc | apply pw_below_drewN | apply below_drew1) | exact HB.out)) hb); clear HO330; clear HO333; clear HO336; clear HO339; clear HO345; clear HB; have HO330 := n0_; have HO333 := n1_; have HO336 := n2_; have HO339 := n3_; have HO345 := n4_; have HO348 := n5_; have HB := n6_; clear n0_ n1_ n2_ n3_ n4_ n5_ n6_; (try clear hb); (try clear hb2); (try clear hk); (try clear hi); (try clear ho0)))
      (try simp only [Act.put, List.setIfInBounds_toArray, List.set_cons_zero, List.set_cons_succ])
      go_cut [76] (fun v76 wc => ∃ (kq : Nat) (x76_12 : Bool), v76 = .bool x76_12 ∧ Aside0 (casematelaw04_BpolyReckons.j0 kq a2 t337 t340 t341 t342 t343 t346 x76_12 = some r) ∧ Aside0 (kq ≤ k) ∧ Aside0 (Kd.V (Kd.int .u8) 5 wc w.heap.size (fun k_ => some k_ ≠ (v344 : Value).ownBlock ∧ some k_ ≠ (v347 : Value).ownBlock) v338 t337) ∧ Aside0 (Kd.R (Kd.int .i64) 3 wc w.heap.size (fun k_ => some k_ ≠ (v347 : Value).ownBlock) v344 t343) ∧ Aside0 (Kd.R (Kd.int .i64) 3 wc w.heap.size (fun k_ => some k_ ≠ (v344 : Value).ownBlock) v347 t346) ∧ Aside0 (Below w.heap.size w wc))
      case first =>
        have H := HC13.out
        clear HC13
        by_cases c23 : (strOfNums y328).toList = (strOfNums l0).toList
        · rw [if_pos c23] at H
          have c23b0 : ((strOfNums y328).toList == (strOfNums l0).toList) = true := beq_iff_eq.mpr c23
          have c23b1 : ((strOfNums y328).toList != (strOfNums l0).toList) = false := bne_eq_false_iff_eq.mpr c23
          clear c23
          (first | rw [c23b0] | (simp only [i64_w, i32_w]; rw [c23b0]) | skip)
          replace H := Option.bind_eq_some_iff.mp H
          obtain ⟨t349, A240, H⟩ := H
          replace H : ((casemateref04_Degree.f k t343).bind fun t350 => (if t349 = t350 then ((casemateref04_Add.f k t343 t346).bind fun t351 => ((casemateref04_Bytes.f k t351).bind fun t354 => (if (strOfNums t331).toList = (strOfNums t354).toList then ((casemateref04_Mul.f k t343 t346).bind fun t357 => ((casemateref04_Bytes.f k t357).bind fun t360 => (casematelaw04_BpolyReckons.j0 k a2 t337 t340 t341 t342 t343 t346 ((strOfNums t334).toList != (strOfNums t360).toList)))) else (casematelaw04_BpolyReckons.j0 k a2 t337 t340 t341 t342 t343 t346 true)))) else (casematelaw04_BpolyReckons.j0 k a2 t337 t340 t341 t342 t343 t346 true))) = some r := H
          have A24 := Aside0.mk A240
          clear A240
          replace H := Option.bind_eq_some_iff.mp H
          obtain ⟨t350, A250, H⟩ := H
          replace H : (if t349 = t350 then ((casemateref04_Add.f k t343 t346).bind fun t351 => ((casemateref04_Bytes.f k t351).bind fun t354 => (if (strOfNums t331).toList = (strOfNums t354).toList then ((casemateref04_Mul.f k t343 t346).bind fun t357 => ((casemateref04_Bytes.f k t357).bind fun t360 => (casematelaw04_BpolyReckons.j0 k a2 t337 t340 t341 t342 t343 t346 ((strOfNums t334).toList != (strOfNums t360).toList)))) else (casematelaw04_BpolyReckons.j0 k a2 t337 t340 t341 t342 t343 t346 true)))) else (casematelaw04_BpolyReckons.j0 k a2 t337 t340 t341 t342 t343 t346 true)) = some r := H
          have A25 := Aside0.mk A250
          clear A250
          by_cases c26 : t349 = t350
          · rw [if_pos c26] at H
            have c26b0 : (t349 == t350) = true := beq_iff_eq.mpr c26
            have c26b1 : (t349 != t350) = false := bne_eq_false_iff_eq.mpr c26
            clear c26
            replace H := Option.bind_eq_some_iff.mp H
            obtain ⟨t351, A270, H⟩ := H
            replace H : ((casemateref04_Bytes.f k t351).bind fun t354 => (if (strOfNums t331).toList = (strOfNums t354).toList then ((casemateref04_Mul.f k t343 t346).bind fun t357 => ((casemateref04_Bytes.f k t357).bind fun t360 => (casematelaw04_BpolyReckons.j0 k a2 t337 t340 t341 t342 t343 t346 ((strOfNums t334).toList != (strOfNums t360).toList)))) else (casematelaw04_BpolyReckons.j0 k a2 t337 t340 t341 t342 t343 t346 true))) = some r := H
            have A27 := Aside0.mk A270
            clear A270
            replace H := Option.bind_eq_some_iff.mp H
            obtain ⟨t354, A280, H⟩ := H
            replace H : (if (strOfNums t331).toList = (strOfNums t354).toList then ((casemateref04_Mul.f k t343 t346).bind fun t357 => ((casemateref04_Bytes.f k t357).bind fun t360 => (casematelaw04_BpolyReckons.j0 k a2 t337 t340 t341 t342 t343 t346 ((strOfNums t334).toList != (strOfNums t360).toList)))) else (casematelaw04_BpolyReckons.j0 k a2 t337 t340 t341 t342 t343 t346 true)) = some r := H
            have A28 := Aside0.mk A280
            clear A280
            by_cases c29 : (strOfNums t331).toList = (strOfNums t354).toList
            · rw [if_pos c29] at H
              have c29b0 : ((strOfNums t331).toList == (strOfNums t354).toList) = true := beq_iff_eq.mpr c29
              have c29b1 : ((strOfNums t331).toList != (strOfNums t354).toList) = false := bne_eq_false_iff_eq.mpr c29
              clear c29
              replace H := Option.bind_eq_some_iff.mp H
              obtain ⟨t357, A300, H⟩ := H
              replace H : ((casemateref04_Bytes.f k t357).bind fun t360 => (casematelaw04_BpolyReckons.j0 k a2 t337 t340 t341 t342 t343 t346 ((strOfNums t334).toList != (strOfNums t360).toList))) = some r := H
              have A30 := Aside0.mk A300
              clear A300
              replace H := Option.bind_eq_some_iff.mp H
              obtain ⟨t360, A310, H⟩ := H
              replace H : (casematelaw04_BpolyReckons.j0 k a2 t337 t340 t341 t342 t343 t346 ((strOfNums t334).toList != (strOfNums t360).toList)) = some r := H
              have A31 := Aside0.mk A310
              clear A310
              have H' := Aside0.mk H
              clear H
              obtain ⟨Ao32, co32, eo32⟩ := Kd.R_slice HO345.out
              subst eo32
              obtain ⟨Ao33, co33, eo33⟩ := Kd.R_slice HO348.out
              subst eo33
              try go_wp2
              have n0_ := Aside0.mk (Kd.R_drew HO330.out)
              have n1_ := Aside0.mk (Kd.V_drew HO333.out)
              have n2_ := Aside0.mk (Kd.V_drew HO336.out)
              have n3_ := Aside0.mk (Kd.V_drew HO339.out)
              have n4_ := Aside0.mk (Kd.R_drew HO345.out)
              have n5_ := Aside0.mk (Kd.R_drew HO348.out)
              have n6_ := Aside0.mk (below_drew1 HB.out)
              clear HO330
              clear HO333
              clear HO336
              clear HO339
              clear HO345
              clear HO348
              clear HB
              have HO330 := n0_
              have HO333 := n1_
              have HO336 := n2_
              have HO339 := n3_
              have HO345 := n4_
              have HO348 := n5_
              have HB := n6_
              clear n0_ n1_ n2_ n3_ n4_ n5_ n6_
              have hcv35 := own_string (P := Try.prog) Try.underlying22 Try.underlying5 Try.underlying9 (Kd.own_of_R HO330.out)
              have hcv36 := Kd.C_string (P := Try.prog) (A := A0) (c := c0) Try.underlying22 Try.underlying5 Try.underlying9 (Kd.C_below HR0.out HB.out)
              refine start_ (n := 32) (S := fun w' => Sem.run Try.prog (convert 22 9 (.slice Ao17 y328.length co17)) w' = .ok (.string (strOfNums y328)) w' ∧ Sem.run Try.prog (convert 22 9 (.slice A0 l0.length c0)) w' = .ok (.string (strOfNums l0)) w' ∧ Sem.run Try.prog (convert 22 9 (v332)) w' = .ok (.string (strOfNums t331)) w' ∧ Sem.run Try.prog (convert 22 9 (v335)) w' = .ok (.string (strOfNums t334)) w') (ds := []) #[false, false, false, false, false, false, false, false, false, false, false, false, false, false, false, false, false, false, false, false, false, false, false, false, false, false, false, false, false, false, false, false] (by kernel_rfl) rfl rfl ⟨(by first | exact own_string (P := Try.prog) Try.underlying22 Try.underlying5 Try.underlying9 (Kd.own_of_R HO330.out) | exact own_string (P := Try.prog) Try.underlying22 Try.underlying5 Try.underlying9 (Kd.own_of_R (Kd.R_drewN HO330.out _))), (by first | exact Kd.C_string (P := Try.prog) Try.underlying22 Try.underlying5 Try.underlying9 (Kd.C_below HR0.out HB.out) | exact Kd.C_string (P := Try.prog) Try.underlying22 Try.underlying5 Try.underlying9 (Kd.C_drew (Kd.C_below HR0.out HB.out)) | exact Kd.C_string (P := Try.prog) Try.underlying22 Try.underlying5 Try.underlying9 (Kd.C_drewN (Kd.C_below HR0.out HB.out) _)), (by first | exact casematelaw04_BpolyReckons.strV Try.underlying22 Try.underlying5 Try.underlying9 HO333.out | exact casematelaw04_BpolyReckons.strV Try.underlying22 Try.underlying5 Try.underlying9 (Kd.V_drewN HO333.out _)), (by first | exact casematelaw04_BpolyReckons.strV Try.underlying22 Try.underlying5 Try.underlying9 HO336.out | exact casematelaw04_BpolyReckons.strV Try.underlying22 Try.underlying5 Try.underlying9 (Kd.V_drewN HO336.out _))⟩ (fun hHeld => ?_); refine with_tabW casematelaw04_BpolyReckons.tab10 casematelaw04_BpolyReckons.bits10 (fun HT_ HW_ => ?_)
              generalize w22.drew = w34 at HO330 HO333 HO336 HO339 HO345 HO348 HB hHeld ⊢
              refine pure_ (i := 0) (N := some 45) (v := ?_) (a' := ?_) #[true, false, false, false, false, false, false, false, false, false, false, false, false, false, false, false, false, false, false, false, false, false, false, false, false, false, false, false, false, false, false, false] rfl rfl (any_of HT_.out (by kernel_rfl)) (fun _ _ _ h => h) (Or.inl ⟨by rfl, ?_⟩) ?_ ?_
              rotate_left
              · intro w'
                go_simp
                with_reducible rfl
              rotate_left
              · simp only [Act.put, List.setIfInBounds_toArray, List.set_cons_zero, List.set_cons_succ, i64_w, i32_w]
                rfl
              refine take_ (i := 1) (N := some 46) (v := ?_) (a' := ?_) #[true, true, false, false, false, false, false, false, false, false, false, false, false, false, false, false, false, false, false, false, false, false, false, false, false, false, false, false, false, false, false, false] rfl rfl (take_ofW HT_.out HW_.out (by kernel_rfl)) (fun _ _ _ h => h) (Or.inl ⟨by rfl, ?_⟩) hHeld ?_ ?_
              rotate_left
              · rintro w' ⟨s0, s1, s2, s3⟩
                go_simp
                with_reducible rfl
              rotate_left
              · simp only [Act.put, List.setIfInBounds_toArray, List.set_cons_zero, List.set_cons_succ, i64_w, i32_w]
                rfl
              refine pure_ (i := 2) (N := some 47) (v := ?_) (a' := ?_) #[true, true, true, false, false, false, false, false, false, false, false, false, false, false, false, false, false, false, false, false, false, false, false, false, false, false, false, false, false, false, false, false] rfl rfl (any_of HT_.out (by kernel_rfl)) (fun _ _ _ h => h) (Or.inl ⟨by rfl, ?_⟩) ?_ ?_
              rotate_left
              · intro w'
                go_simp
                with_reducible rfl
              rotate_left
              · simp only [Act.put, List.setIfInBounds_toArray, List.set_cons_zero, List.set_cons_succ, i64_w, i32_w]
                rfl
              refine take_ (i := 3) (N := some 48) (v := ?_) (a' := ?_) #[true, true, true, true, false, false, false, false, false, false, false, false, false, false, false, false, false, false, false, false, false, false, false, false, false, false, false, false, false, false, false, false] rfl rfl (take_ofW HT_.out HW_.out (by kernel_rfl)) (fun _ _ _ h => h) (Or.inl ⟨by rfl, ?_⟩) hHeld ?_ ?_
              rotate_left
              · rintro w' ⟨s0, s1, s2, s3⟩
                go_simp
                with_reducible rfl
              rotate_left
              · simp only [Act.put, List.setIfInBounds_toArray, List.set_cons_zero, List.set_cons_succ, i64_w, i32_w]
                rfl
              refine pure_ (i := 4) (N := some 49) (v := ?_) (a' := ?_) #[true, true, true, true, true, false, false, false, false, false, false, false, false, false, false, false, false, false, false, false, false, false, false, false, false, false, false, false, false, false, false, false] rfl rfl (any_of HT_.out (by kernel_rfl)) (fun _ _ _ h => h) (Or.inl ⟨by rfl, ?_⟩) ?_ ?_
              rotate_left
              · intro w'
                go_simp
                with_reducible rfl
              rotate_left
              · simp only [Act.put, List.setIfInBounds_toArray, List.set_cons_zero, List.set_cons_succ, i64_w, i32_w]
                rfl
              refine pure_ (i := 5) (N := some 50) (v := ?_) (a' := ?_) #[true, true, true, true, true, true, false, false, false, false, false, false, false, false, false, false, false, false, false, false, false, false, false, false, false, false, false, false, false, false, false, false] rfl rfl (any_of HT_.out (by kernel_rfl)) (fun _ _ _ h => h) (Or.inl ⟨by rfl, ?_⟩) ?_ ?_
              rotate_left
              · intro w'
                go_simp
                with_reducible rfl
              rotate_left
              · simp only [Act.put, List.setIfInBounds_toArray, List.set_cons_zero, List.set_cons_succ, i64_w, i32_w]
                rfl
              refine pure_ (i := 6) (N := some 51) (v := ?_) (a' := ?_) #[true, true, true, true, true, true, true, false, false, false, false, false, false, false, false, false, false, false, false, false, false, false, false, false, false, false, false, false, false, false, false, false] rfl rfl (any_of HT_.out (by kernel_rfl)) (fun _ _ _ h => h) (Or.inl ⟨by rfl, ?_⟩) ?_ ?_
              rotate_left
              · intro w'
                go_simp
                with_reducible rfl
              rotate_left
              · simp only [Act.put, List.setIfInBounds_toArray, List.set_cons_zero, List.set_cons_succ, i64_w, i32_w]
                rfl
              refine pure_ (i := 8) (N := some 53) (v := ?_) (a' := ?_) #[true, true, true, true, true, true, true, false, true, false, false, false, false, false, false, false, false, false, false, false, false, false, false, false, false, false, false, false, false, false, false, false] rfl rfl (any_of HT_.out (by kernel_rfl)) (fun _ _ _ h => h) (Or.inl ⟨by rfl, ?_⟩) ?_ ?_
              rotate_left
              · intro w'
                go_simp
                with_reducible rfl
              rotate_left
              · simp only [Act.put, List.setIfInBounds_toArray, List.set_cons_zero, List.set_cons_succ, i64_w, i32_w]
                rfl
              refine one_ (i := 7) (N := some 52) #[true, true, true, true, true, true, true, true, true, false, false, false, false, false, false, false, false, false, false, false, false, false, false, false, false, false, false, false, false, false, false, false] rfl rfl (one_of HT_.out (by kernel_rfl)) (by decide) (fun K hK => ?_)
              refine goes_ Try.func23 (by kernel_rfl) rfl #[.slice Ao17 y328.length co17] (by rfl) rfl rfl (by (try simp only [List.map_toArray, List.map_cons, List.map_nil]); first | done | rfl | (simp only [List.length_drop, List.length_take]; rfl)) ?_
              with_reducible refine (bpoly_Degree.calls k _ _ y328 t349 _ ?side1 ?side2 A24.out).mono ?_
              (case side1 => repeat (first | exact (Kd.R_reads' HO330.out).2.2 | (with_reducible refine Kd.C_alloc ?_ _) | (with_reducible refine Kd.C_drewN ?_ _) | (with_reducible refine Kd.C_drew ?_)))
              (case side2 => exact (Kd.R_reads' HO330.out).2.1)
              rintro e w37 ⟨rfl, hb⟩
              refine ⟨_, rfl, ?_⟩
              have n0_ := Aside0.mk (Kd.R_below (by (with_reducible repeat (first | apply Kd.R_alloc | apply Kd.R_drewN | apply Kd.R_drew)); exact HO330.out) hb)
              have n1_ := Aside0.mk (Kd.V_below (by (with_reducible repeat (first | apply Kd.V_alloc | apply Kd.V_drewN | apply Kd.V_drew)); exact HO333.out) hb)
              have n2_ := Aside0.mk (Kd.V_below (by (with_reducible repeat (first | apply Kd.V_alloc | apply Kd.V_drewN | apply Kd.V_drew)); exact HO336.out) hb)
              have n3_ := Aside0.mk (Kd.V_below (by (with_reducible repeat (first | apply Kd.V_alloc | apply Kd.V_drewN | apply Kd.V_drew)); exact HO339.out) hb)
              have n4_ := Aside0.mk (Kd.R_below (by (with_reducible repeat (first | apply Kd.R_alloc | apply Kd.R_drewN | apply Kd.R_drew)); exact HO345.out) hb)
              have n5_ := Aside0.mk (Kd.R_below (by (with_reducible repeat (first | apply Kd.R_alloc | apply Kd.R_drewN | apply Kd.R_drew)); exact HO348.out) hb)
              have n6_ := Aside0.mk (below_step (by repeat (first | (with_reducible first | exact HB.out | apply below_alloc | apply pw_below_drewN | apply below_drew1) | exact HB.out)) hb)
              clear HO330
              clear HO333
              clear HO336
              clear HO339
              clear HO345
              clear HO348
              clear HB
              have HO330 := n0_
              have HO333 := n1_
              have HO336 := n2_
              have HO339 := n3_
              have HO345 := n4_
              have HO348 := n5_
              have HB := n6_
              clear n0_ n1_ n2_ n3_ n4_ n5_ n6_
              (try clear hb)
              (try clear hb2)
              (try clear hk)
              (try clear hi)
              refine hK.out _ _ ⟨(by first | exact own_string (P := Try.prog) Try.underlying22 Try.underlying5 Try.underlying9 (Kd.own_of_R HO330.out) | exact own_string (P := Try.prog) Try.underlying22 Try.underlying5 Try.underlying9 (Kd.own_of_R (Kd.R_drewN HO330.out _))), (by first | exact Kd.C_string (P := Try.prog) Try.underlying22 Try.underlying5 Try.underlying9 (Kd.C_below HR0.out HB.out) | exact Kd.C_string (P := Try.prog) Try.underlying22 Try.underlying5 Try.underlying9 (Kd.C_drew (Kd.C_below HR0.out HB.out)) | exact Kd.C_string (P := Try.prog) Try.underlying22 Try.underlying5 Try.underlying9 (Kd.C_drewN (Kd.C_below HR0.out HB.out) _)), (by first | exact casematelaw04_BpolyReckons.strV Try.underlying22 Try.underlying5 Try.underlying9 HO333.out | exact casematelaw04_BpolyReckons.strV Try.underlying22 Try.underlying5 Try.underlying9 (Kd.V_drewN HO333.out _)), (by first | exact casematelaw04_BpolyReckons.strV Try.underlying22 Try.underlying5 Try.underlying9 HO336.out | exact casematelaw04_BpolyReckons.strV Try.underlying22 Try.underlying5 Try.underlying9 (Kd.V_drewN HO336.out _))⟩ (fun hHeld => ?_)
              clear hK K
              refine norm_ (a' := ?_) ?_ ?_
              rotate_left
              · show Act.put _ (some 52) _ = _
                simp only [Act.put, List.setIfInBounds_toArray, List.set_cons_zero, List.set_cons_succ, i64_w, i32_w]
                rfl
              refine one_ (i := 9) (N := some 54) #[true, true, true, true, true, true, true, true, true, true, false, false, false, false, false, false, false, false, false, false, false, false, false, false, false, false, false, false, false, false, false, false] rfl rfl (one_of HT_.out (by kernel_rfl)) (by decide) (fun K hK => ?_)
              refine goes_ Try.func12 (by kernel_rfl) rfl #[.slice Ao32 t343.length co32] (by rfl) rfl rfl (by (try simp only [List.map_toArray, List.map_cons, List.map_nil]); first | done | rfl | (simp only [List.length_drop, List.length_take]; rfl)) ?_
              with_reducible refine (casemateref04_Degree.calls k _ _ t343 t350 _ ?side1 ?side2 A25.out).mono ?_
              (case side1 => repeat (first | exact (Kd.R_reads' HO345.out).2.2 | (with_reducible refine Kd.C_alloc ?_ _) | (with_reducible refine Kd.C_drewN ?_ _) | (with_reducible refine Kd.C_drew ?_)))
              (case side2 => exact (Kd.R_reads' HO345.out).2.1)
              rintro e w' ⟨rfl, ⟨nd, rfl⟩⟩
              refine ⟨_, rfl, ?_⟩
              have hcv38 := casematelaw04_BpolyReckons.strV Try.underlying22 Try.underlying5 Try.underlying9 HO333.out
              refine hK.out _ _ ⟨(by first | exact own_string (P := Try.prog) Try.underlying22 Try.underlying5 Try.underlying9 (Kd.own_of_R HO330.out) | exact own_string (P := Try.prog) Try.underlying22 Try.underlying5 Try.underlying9 (Kd.own_of_R (Kd.R_drewN HO330.out _))), (by first | exact Kd.C_string (P := Try.prog) Try.underlying22 Try.underlying5 Try.underlying9 (Kd.C_below HR0.out HB.out) | exact Kd.C_string (P := Try.prog) Try.underlying22 Try.underlying5 Try.underlying9 (Kd.C_drew (Kd.C_below HR0.out HB.out)) | exact Kd.C_string (P := Try.prog) Try.underlying22 Try.underlying5 Try.underlying9 (Kd.C_drewN (Kd.C_below HR0.out HB.out) _)), (by first | exact casematelaw04_BpolyReckons.strV Try.underlying22 Try.underlying5 Try.underlying9 HO333.out | exact casematelaw04_BpolyReckons.strV Try.underlying22 Try.underlying5 Try.underlying9 (Kd.V_drewN HO333.out _)), (by first | exact casematelaw04_BpolyReckons.strV Try.underlying22 Try.underlying5 Try.underlying9 HO336.out | exact casematelaw04_BpolyReckons.strV Try.underlying22 Try.underlying5 Try.underlying9 (Kd.V_drewN HO336.out _))⟩ (fun hHeld => ?_)
              clear hK K
              refine norm_ (a' := ?_) ?_ ?_
              rotate_left
              · show Act.put _ (some 54) _ = _
                simp only [Act.put, List.setIfInBounds_toArray, List.set_cons_zero, List.set_cons_succ, i64_w, i32_w]
                rfl
              refine pure_ (i := 10) (N := some 55) (v := ?_) (a' := ?_) #[true, true, true, true, true, true, true, true, true, true, true, false, false, false, false, false, false, false, false, false, false, false, false, false, false, false, false, false, false, false, false, false] rfl rfl (any_of HT_.out (by kernel_rfl)) (fun _ _ _ h => h) (Or.inl ⟨by rfl, ?_⟩) ?_ ?_
              rotate_left
              · intro w'
                go_simp
                with_reducible rfl
              rotate_left
              · simp only [Act.put, List.setIfInBounds_toArray, List.set_cons_zero, List.set_cons_succ, i64_w, i32_w]
                rfl
              refine pure_ (i := 11) (N := some 56) (v := ?_) (a' := ?_) #[true, true, true, true, true, true, true, true, true, true, true, true, false, false, false, false, false, false, false, false, false, false, false, false, false, false, false, false, false, false, false, false] rfl rfl (any_of HT_.out (by kernel_rfl)) (fun _ _ _ h => h) (Or.inl ⟨by rfl, ?_⟩) ?_ ?_
              rotate_left
              · intro w'
                go_simp
                with_reducible rfl
              rotate_left
              · simp only [Act.put, List.setIfInBounds_toArray, List.set_cons_zero, List.set_cons_succ, i64_w, i32_w]
                rfl
              refine pure_ (i := 12) (N := some 57) (v := ?_) (a' := ?_) #[true, true, true, true, true, true, true, true, true, true, true, true, true, false, false, false, false, false, false, false, false, false, false, false, false, false, false, false, false, false, false, false] rfl rfl (any_of HT_.out (by kernel_rfl)) (fun _ _ _ h => h) (Or.inl ⟨by rfl, ?_⟩) ?_ ?_
              rotate_left
              · intro w'
                go_simp
                with_reducible rfl
              rotate_left
              · simp only [Act.put, List.setIfInBounds_toArray, List.set_cons_zero, List.set_cons_succ, i64_w, i32_w]
                rfl
              refine pure_ (i := 13) (N := some 58) (v := ?_) (a' := ?_) #[true, true, true, true, true, true, true, true, true, true, true, true, true, true, false, false, false, false, false, false, false, false, false, false, false, false, false, false, false, false, false, false] rfl rfl (any_of HT_.out (by kernel_rfl)) (fun _ _ _ h => h) (Or.inl ⟨by rfl, ?_⟩) ?_ ?_
              rotate_left
              · intro w'
                go_simp
                with_reducible rfl
              rotate_left
              · simp only [Act.put, List.setIfInBounds_toArray, List.set_cons_zero, List.set_cons_succ, i64_w, i32_w]
                rfl
              refine take_ (i := 14) (N := some 59) (v := ?_) (a' := ?_) #[true, true, true, true, true, true, true, true, true, true, true, true, true, true, true, false, false, false, false, false, false, false, false, false, false, false, false, false, false, false, false, false] rfl rfl (take_ofW HT_.out HW_.out (by kernel_rfl)) (fun _ _ _ h => h) (Or.inl ⟨by rfl, ?_⟩) hHeld ?_ ?_
              rotate_left
              · rintro w' ⟨s0, s1, s2, s3⟩
                go_simp
                with_reducible rfl
              rotate_left
              · simp only [Act.put, List.setIfInBounds_toArray, List.set_cons_zero, List.set_cons_succ, i64_w, i32_w]
                rfl
              refine pure_ (i := 15) (N := some 60) (v := ?_) (a' := ?_) #[true, true, true, true, true, true, true, true, true, true, true, true, true, true, true, true, false, false, false, false, false, false, false, false, false, false, false, false, false, false, false, false] rfl rfl (any_of HT_.out (by kernel_rfl)) (fun _ _ _ h => h) (Or.inl ⟨by rfl, ?_⟩) ?_ ?_
              rotate_left
              · intro w'
                go_simp
                with_reducible rfl
              rotate_left
              · simp only [Act.put, List.setIfInBounds_toArray, List.set_cons_zero, List.set_cons_succ, i64_w, i32_w]
                rfl
              refine pure_ (i := 16) (N := some 61) (v := ?_) (a' := ?_) #[true, true, true, true, true, true, true, true, true, true, true, true, true, true, true, true, true, false, false, false, false, false, false, false, false, false, false, false, false, false, false, false] rfl rfl (any_of HT_.out (by kernel_rfl)) (fun _ _ _ h => h) (Or.inl ⟨by rfl, ?_⟩) ?_ ?_
              rotate_left
              · intro w'
                go_simp
                with_reducible rfl
              rotate_left
              · simp only [Act.put, List.setIfInBounds_toArray, List.set_cons_zero, List.set_cons_succ, i64_w, i32_w]
                rfl
              refine one_ (i := 17) (N := some 62) #[true, true, true, true, true, true, true, true, true, true, true, true, true, true, true, true, true, true, false, false, false, false, false, false, false, false, false, false, false, false, false, false] rfl rfl (one_of HT_.out (by kernel_rfl)) (by decide) (fun K hK => ?_)
              refine goes_ Try.func24 (by kernel_rfl) rfl #[.slice Ao32 t343.length co32, .slice Ao33 t346.length co33] (by rfl) rfl rfl (by (try simp only [List.map_toArray, List.map_cons, List.map_nil]); first | done | rfl | (simp only [List.length_drop, List.length_take]; rfl)) ?_
              with_reducible refine (casemateref04_Add.calls k _ _ t343 _ _ t346 t351 _ ?side1 ?side2 ?side3 ?side4 A27.out).mono ?_
              (case side1 => repeat (first | exact (Kd.R_reads' HO345.out).2.2 | (with_reducible refine Kd.C_alloc ?_ _) | (with_reducible refine Kd.C_drewN ?_ _) | (with_reducible refine Kd.C_drew ?_)))
              (case side2 => exact (Kd.R_reads' HO345.out).2.1)
              (case side3 => repeat (first | exact (Kd.R_reads' HO348.out).2.2 | (with_reducible refine Kd.C_alloc ?_ _) | (with_reducible refine Kd.C_drewN ?_ _) | (with_reducible refine Kd.C_drew ?_)))
              (case side4 => exact (Kd.R_reads' HO348.out).2.1)
              rintro e w39 ⟨v352, rfl, ho0, hb⟩
              refine ⟨_, rfl, ?_⟩
              have n0_ := Aside0.mk (Kd.R_below (by (with_reducible repeat (first | apply Kd.R_alloc | apply Kd.R_drewN | apply Kd.R_drew)); exact HO330.out) hb)
              have n1_ := Aside0.mk (Kd.V_elder' (by (with_reducible repeat (first | apply Kd.V_alloc | apply Kd.V_drewN | apply Kd.V_drew)); exact HO333.out) (Kd.R_base ho0) hb)
              have n2_ := Aside0.mk (Kd.V_elder' (by (with_reducible repeat (first | apply Kd.V_alloc | apply Kd.V_drewN | apply Kd.V_drew)); exact HO336.out) (Kd.R_base ho0) hb)
              have n3_ := Aside0.mk (Kd.V_elder' (by (with_reducible repeat (first | apply Kd.V_alloc | apply Kd.V_drewN | apply Kd.V_drew)); exact HO339.out) (Kd.R_base ho0) hb)
              have n4_ := Aside0.mk (Kd.R_elder' (by (with_reducible repeat (first | apply Kd.R_alloc | apply Kd.R_drewN | apply Kd.R_drew)); exact HO345.out) (Kd.R_base ho0) hb)
              have n5_ := Aside0.mk (Kd.R_elder' (by (with_reducible repeat (first | apply Kd.R_alloc | apply Kd.R_drewN | apply Kd.R_drew)); exact HO348.out) (Kd.R_base ho0) hb)
              have n6_ := Aside0.mk (Kd.R_lower (Kd.R_new' (Kd.R_new' ho0 (Kd.R_lt (by (with_reducible repeat (first | apply Kd.R_alloc | apply Kd.R_drewN | apply Kd.R_drew)); exact HO345.out))) (Kd.R_lt (by (with_reducible repeat (first | apply Kd.R_alloc | apply Kd.R_drewN | apply Kd.R_drew)); exact HO348.out))) (below_size (by repeat (first | (with_reducible first | exact HB.out | apply below_alloc | apply pw_below_drewN | apply below_drew1) | exact HB.out))))
              have n7_ := Aside0.mk (below_step (by repeat (first | (with_reducible first | exact HB.out | apply below_alloc | apply pw_below_drewN | apply below_drew1) | exact HB.out)) hb)
              clear HO330
              clear HO333
              clear HO336
              clear HO339
              clear HO345
              clear HO348
              clear HB
              have HO330 := n0_
              have HO333 := n1_
              have HO336 := n2_
              have HO339 := n3_
              have HO345 := n4_
              have HO348 := n5_
              have HO353 := n6_
              have HB := n7_
              clear n0_ n1_ n2_ n3_ n4_ n5_ n6_ n7_
              (try clear hb)
              (try clear hb2)
              (try clear hk)
              (try clear hi)
              (try clear ho0)
              obtain ⟨Ao40, co40, eo40⟩ := Kd.R_slice HO353.out
              (first | subst eo40 | (injection eo40 with f1_ f2_ f3_; have f4_ := f1_.symm; have f5_ := f3_.symm; clear f1_ f2_ f3_; subst f4_; subst f5_))
              refine hK.out _ _ ⟨(by first | exact own_string (P := Try.prog) Try.underlying22 Try.underlying5 Try.underlying9 (Kd.own_of_R HO330.out) | exact own_string (P := Try.prog) Try.underlying22 Try.underlying5 Try.underlying9 (Kd.own_of_R (Kd.R_drewN HO330.out _))), (by first | exact Kd.C_string (P := Try.prog) Try.underlying22 Try.underlying5 Try.underlying9 (Kd.C_below HR0.out HB.out) | exact Kd.C_string (P := Try.prog) Try.underlying22 Try.underlying5 Try.underlying9 (Kd.C_drew (Kd.C_below HR0.out HB.out)) | exact Kd.C_string (P := Try.prog) Try.underlying22 Try.underlying5 Try.underlying9 (Kd.C_drewN (Kd.C_below HR0.out HB.out) _)), (by first | exact casematelaw04_BpolyReckons.strV Try.underlying22 Try.underlying5 Try.underlying9 HO333.out | exact casematelaw04_BpolyReckons.strV Try.underlying22 Try.underlying5 Try.underlying9 (Kd.V_drewN HO333.out _)), (by first | exact casematelaw04_BpolyReckons.strV Try.underlying22 Try.underlying5 Try.underlying9 HO336.out | exact casematelaw04_BpolyReckons.strV Try.underlying22 Try.underlying5 Try.underlying9 (Kd.V_drewN HO336.out _))⟩ (fun hHeld => ?_)
              clear hK K
              refine norm_ (a' := ?_) ?_ ?_
              rotate_left
              · show Act.put _ (some 62) _ = _
                simp only [Act.put, List.setIfInBounds_toArray, List.set_cons_zero, List.set_cons_succ, i64_w, i32_w]
                rfl
              refine one_ (i := 18) (N := some 63) #[true, true, true, true, true, true, true, true, true, true, true, true, true, true, true, true, true, true, true, false, false, false, false, false, false, false, false, false, false, false, false, false] rfl rfl (one_of HT_.out (by kernel_rfl)) (by decide) (fun K hK => ?_)
              refine goes_ Try.func17 (by kernel_rfl) rfl #[.slice Ao40 t351.length co40] (by rfl) rfl rfl (by (try simp only [List.map_toArray, List.map_cons, List.map_nil]); first | done | rfl | (simp only [List.length_drop, List.length_take]; rfl)) ?_
              with_reducible refine (casemateref04_Bytes.calls k _ _ t351 t354 _ ?side1 ?side2 A28.out).mono ?_
              (case side1 => repeat (first | exact (Kd.R_reads' HO353.out).2.2 | (with_reducible refine Kd.C_alloc ?_ _) | (with_reducible refine Kd.C_drewN ?_ _) | (with_reducible refine Kd.C_drew ?_)))
              (case side2 => exact (Kd.R_reads' HO353.out).2.1)
              rintro e w41 ⟨v355, rfl, ho0, hb⟩
              refine ⟨_, rfl, ?_⟩
              have n0_ := Aside0.mk (Kd.R_elder' (by (with_reducible repeat (first | apply Kd.R_alloc | apply Kd.R_drewN | apply Kd.R_drew)); exact HO330.out) (Kd.R_base ho0) hb)
              have n1_ := Aside0.mk (Kd.V_elder' (by (with_reducible repeat (first | apply Kd.V_alloc | apply Kd.V_drewN | apply Kd.V_drew)); exact HO333.out) (Kd.R_base ho0) hb)
              have n2_ := Aside0.mk (Kd.V_elder' (by (with_reducible repeat (first | apply Kd.V_alloc | apply Kd.V_drewN | apply Kd.V_drew)); exact HO336.out) (Kd.R_base ho0) hb)
              have n3_ := Aside0.mk (Kd.V_elder' (by (with_reducible repeat (first | apply Kd.V_alloc | apply Kd.V_drewN | apply Kd.V_drew)); exact HO339.out) (Kd.R_base ho0) hb)
              have n4_ := Aside0.mk (Kd.R_below (by (with_reducible repeat (first | apply Kd.R_alloc | apply Kd.R_drewN | apply Kd.R_drew)); exact HO345.out) hb)
              have n5_ := Aside0.mk (Kd.R_below (by (with_reducible repeat (first | apply Kd.R_alloc | apply Kd.R_drewN | apply Kd.R_drew)); exact HO348.out) hb)
              have n6_ := Aside0.mk (Kd.R_below (by (with_reducible repeat (first | apply Kd.R_alloc | apply Kd.R_drewN | apply Kd.R_drew)); exact HO353.out) hb)
              have n7_ := Aside0.mk (Kd.R_lower (Kd.R_new' ho0 (Kd.R_lt (by (with_reducible repeat (first | apply Kd.R_alloc | apply Kd.R_drewN | apply Kd.R_drew)); exact HO330.out))) (below_size (by repeat (first | (with_reducible first | exact HB.out | apply below_alloc | apply pw_below_drewN | apply below_drew1) | exact HB.out))))
              have n8_ := Aside0.mk (below_step (by repeat (first | (with_reducible first | exact HB.out | apply below_alloc | apply pw_below_drewN | apply below_drew1) | exact HB.out)) hb)
              clear HO330
              clear HO333
              clear HO336
              clear HO339
              clear HO345
              clear HO348
              clear HO353
              clear HB
              have HO330 := n0_
              have HO333 := n1_
              have HO336 := n2_
              have HO339 := n3_
              have HO345 := n4_
              have HO348 := n5_
              have HO353 := n6_
              have HO356 := n7_
              have HB := n8_
              clear n0_ n1_ n2_ n3_ n4_ n5_ n6_ n7_ n8_
              (try clear hb)
              (try clear hb2)
              (try clear hk)
              (try clear hi)
              (try clear ho0)
              have hcv43 := casematelaw04_BpolyReckons.strV Try.underlying22 Try.underlying5 Try.underlying9 HO336.out
              refine hK.out _ _ ⟨(by first | exact own_string (P := Try.prog) Try.underlying22 Try.underlying5 Try.underlying9 (Kd.own_of_R HO330.out) | exact own_string (P := Try.prog) Try.underlying22 Try.underlying5 Try.underlying9 (Kd.own_of_R (Kd.R_drewN HO330.out _))), (by first | exact Kd.C_string (P := Try.prog) Try.underlying22 Try.underlying5 Try.underlying9 (Kd.C_below HR0.out HB.out) | exact Kd.C_string (P := Try.prog) Try.underlying22 Try.underlying5 Try.underlying9 (Kd.C_drew (Kd.C_below HR0.out HB.out)) | exact Kd.C_string (P := Try.prog) Try.underlying22 Try.underlying5 Try.underlying9 (Kd.C_drewN (Kd.C_below HR0.out HB.out) _)), (by first | exact casematelaw04_BpolyReckons.strV Try.underlying22 Try.underlying5 Try.underlying9 HO333.out | exact casematelaw04_BpolyReckons.strV Try.underlying22 Try.underlying5 Try.underlying9 (Kd.V_drewN HO333.out _)), (by first | exact casematelaw04_BpolyReckons.strV Try.underlying22 Try.underlying5 Try.underlying9 HO336.out | exact casematelaw04_BpolyReckons.strV Try.underlying22 Try.underlying5 Try.underlying9 (Kd.V_drewN HO336.out _))⟩ (fun hHeld => ?_)
              clear hK K
              refine norm_ (a' := ?_) ?_ ?_
              rotate_left
              · show Act.put _ (some 63) _ = _
                simp only [Act.put, List.setIfInBounds_toArray, List.set_cons_zero, List.set_cons_succ, i64_w, i32_w]
                rfl
              refine one_ (i := 19) (N := some 64) #[true, true, true, true, true, true, true, true, true, true, true, true, true, true, true, true, true, true, true, true, false, false, false, false, false, false, false, false, false, false, false, false] rfl rfl (one_of HT_.out (by kernel_rfl)) (by decide) (fun K hK => ?_)
              have hcv42 := own_string (P := Try.prog) Try.underlying22 Try.underlying5 Try.underlying9 (Kd.own_of_R HO356.out)
              refine value_ (w1 := ?_) (v := ?_) (by rfl) rfl ?_ ?_
              rotate_left 2
              · go_simp
                constructor
                · rfl
                · rfl
              clear hcv42
              refine hK.out _ _ ⟨(by first | exact own_string (P := Try.prog) Try.underlying22 Try.underlying5 Try.underlying9 (Kd.own_of_R HO330.out) | exact own_string (P := Try.prog) Try.underlying22 Try.underlying5 Try.underlying9 (Kd.own_of_R (Kd.R_drewN HO330.out _))), (by first | exact Kd.C_string (P := Try.prog) Try.underlying22 Try.underlying5 Try.underlying9 (Kd.C_below HR0.out HB.out) | exact Kd.C_string (P := Try.prog) Try.underlying22 Try.underlying5 Try.underlying9 (Kd.C_drew (Kd.C_below HR0.out HB.out)) | exact Kd.C_string (P := Try.prog) Try.underlying22 Try.underlying5 Try.underlying9 (Kd.C_drewN (Kd.C_below HR0.out HB.out) _)), (by first | exact casematelaw04_BpolyReckons.strV Try.underlying22 Try.underlying5 Try.underlying9 HO333.out | exact casematelaw04_BpolyReckons.strV Try.underlying22 Try.underlying5 Try.underlying9 (Kd.V_drewN HO333.out _)), (by first | exact casematelaw04_BpolyReckons.strV Try.underlying22 Try.underlying5 Try.underlying9 HO336.out | exact casematelaw04_BpolyReckons.strV Try.underlying22 Try.underlying5 Try.underlying9 (Kd.V_drewN HO336.out _))⟩ (fun hHeld => ?_)
              clear hK K
              refine norm_ (a' := ?_) ?_ ?_
              rotate_left
              · show Act.put _ (some 64) _ = _
                simp only [Act.put, List.setIfInBounds_toArray, List.set_cons_zero, List.set_cons_succ, i64_w, i32_w]
                rfl
              refine pure_ (i := 20) (N := some 65) (v := ?_) (a' := ?_) #[true, true, true, true, true, true, true, true, true, true, true, true, true, true, true, true, true, true, true, true, true, false, false, false, false, false, false, false, false, false, false, false] rfl rfl (any_of HT_.out (by kernel_rfl)) (fun _ _ _ h => h) (Or.inl ⟨by rfl, ?_⟩) ?_ ?_
              rotate_left
              · intro w'
                go_simp
                with_reducible rfl
              rotate_left
              · simp only [Act.put, List.setIfInBounds_toArray, List.set_cons_zero, List.set_cons_succ, i64_w, i32_w]
                rfl
              refine pure_ (i := 21) (N := some 66) (v := ?_) (a' := ?_) #[true, true, true, true, true, true, true, true, true, true, true, true, true, true, true, true, true, true, true, true, true, true, false, false, false, false, false, false, false, false, false, false] rfl rfl (any_of HT_.out (by kernel_rfl)) (fun _ _ _ h => h) (Or.inl ⟨by rfl, ?_⟩) ?_ ?_
              rotate_left
              · intro w'
                go_simp
                with_reducible rfl
              rotate_left
              · simp only [Act.put, List.setIfInBounds_toArray, List.set_cons_zero, List.set_cons_succ, i64_w, i32_w]
                rfl
              refine pure_ (i := 22) (N := some 67) (v := ?_) (a' := ?_) #[true, true, true, true, true, true, true, true, true, true, true, true, true, true, true, true, true, true, true, true, true, true, true, false, false, false, false, false, false, false, false, false] rfl rfl (any_of HT_.out (by kernel_rfl)) (fun _ _ _ h => h) (Or.inl ⟨by rfl, ?_⟩) ?_ ?_
              rotate_left
              · intro w'
                go_simp
                with_reducible rfl
              rotate_left
              · simp only [Act.put, List.setIfInBounds_toArray, List.set_cons_zero, List.set_cons_succ, i64_w, i32_w]
                rfl
              refine pure_ (i := 23) (N := some 68) (v := ?_) (a' := ?_) #[true, true, true, true, true, true, true, true, true, true, true, true, true, true, true, true, true, true, true, true, true, true, true, true, false, false, false, false, false, false, false, false] rfl rfl (any_of HT_.out (by kernel_rfl)) (fun _ _ _ h => h) (Or.inl ⟨by rfl, ?_⟩) ?_ ?_
              rotate_left
              · intro w'
                go_simp
                with_reducible rfl
              rotate_left
              · simp only [Act.put, List.setIfInBounds_toArray, List.set_cons_zero, List.set_cons_succ, i64_w, i32_w]
                rfl
              refine take_ (i := 24) (N := some 69) (v := ?_) (a' := ?_) #[true, true, true, true, true, true, true, true, true, true, true, true, true, true, true, true, true, true, true, true, true, true, true, true, true, false, false, false, false, false, false, false] rfl rfl (take_ofW HT_.out HW_.out (by kernel_rfl)) (fun _ _ _ h => h) (Or.inl ⟨by rfl, ?_⟩) hHeld ?_ ?_
              rotate_left
              · rintro w' ⟨s0, s1, s2, s3⟩
                go_simp
                with_reducible rfl
              rotate_left
              · simp only [Act.put, List.setIfInBounds_toArray, List.set_cons_zero, List.set_cons_succ, i64_w, i32_w]
                rfl
              refine pure_ (i := 25) (N := some 70) (v := ?_) (a' := ?_) #[true, true, true, true, true, true, true, true, true, true, true, true, true, true, true, true, true, true, true, true, true, true, true, true, true, true, false, false, false, false, false, false] rfl rfl (any_of HT_.out (by kernel_rfl)) (fun _ _ _ h => h) (Or.inl ⟨by rfl, ?_⟩) ?_ ?_
              rotate_left
              · intro w'
                go_simp
                with_reducible rfl
              rotate_left
              · simp only [Act.put, List.setIfInBounds_toArray, List.set_cons_zero, List.set_cons_succ, i64_w, i32_w]
                rfl
              refine pure_ (i := 26) (N := some 71) (v := ?_) (a' := ?_) #[true, true, true, true, true, true, true, true, true, true, true, true, true, true, true, true, true, true, true, true, true, true, true, true, true, true, true, false, false, false, false, false] rfl rfl (any_of HT_.out (by kernel_rfl)) (fun _ _ _ h => h) (Or.inl ⟨by rfl, ?_⟩) ?_ ?_
              rotate_left
              · intro w'
                go_simp
                with_reducible rfl
              rotate_left
              · simp only [Act.put, List.setIfInBounds_toArray, List.set_cons_zero, List.set_cons_succ, i64_w, i32_w]
                rfl
              refine one_ (i := 27) (N := some 72) #[true, true, true, true, true, true, true, true, true, true, true, true, true, true, true, true, true, true, true, true, true, true, true, true, true, true, true, true, false, false, false, false] rfl rfl (one_of HT_.out (by kernel_rfl)) (by decide) (fun K hK => ?_)
              refine goes_ Try.func16 (by kernel_rfl) rfl #[.slice Ao32 t343.length co32, .slice Ao33 t346.length co33] (by rfl) rfl rfl (by (try simp only [List.map_toArray, List.map_cons, List.map_nil]); first | done | rfl | (simp only [List.length_drop, List.length_take]; rfl)) ?_
              with_reducible refine (casemateref04_Mul.calls k _ _ t343 _ _ t346 t357 _ ?side1 ?side2 ?side3 ?side4 A30.out).mono ?_
              (case side1 => repeat (first | exact (Kd.R_reads' HO345.out).2.2 | (with_reducible refine Kd.C_alloc ?_ _) | (with_reducible refine Kd.C_drewN ?_ _) | (with_reducible refine Kd.C_drew ?_)))
              (case side2 => exact (Kd.R_reads' HO345.out).2.1)
              (case side3 => repeat (first | exact (Kd.R_reads' HO348.out).2.2 | (with_reducible refine Kd.C_alloc ?_ _) | (with_reducible refine Kd.C_drewN ?_ _) | (with_reducible refine Kd.C_drew ?_)))
              (case side4 => exact (Kd.R_reads' HO348.out).2.1)
              rintro e w44 ⟨v358, rfl, ho0, hb⟩
              refine ⟨_, rfl, ?_⟩
              have n0_ := Aside0.mk (Kd.R_below (by (with_reducible repeat (first | apply Kd.R_alloc | apply Kd.R_drewN | apply Kd.R_drew)); exact HO330.out) hb)
              have n1_ := Aside0.mk (Kd.V_elder' (by (with_reducible repeat (first | apply Kd.V_alloc | apply Kd.V_drewN | apply Kd.V_drew)); exact HO333.out) (Kd.R_base ho0) hb)
              have n2_ := Aside0.mk (Kd.V_elder' (by (with_reducible repeat (first | apply Kd.V_alloc | apply Kd.V_drewN | apply Kd.V_drew)); exact HO336.out) (Kd.R_base ho0) hb)
              have n3_ := Aside0.mk (Kd.V_elder' (by (with_reducible repeat (first | apply Kd.V_alloc | apply Kd.V_drewN | apply Kd.V_drew)); exact HO339.out) (Kd.R_base ho0) hb)
              have n4_ := Aside0.mk (Kd.R_elder' (by (with_reducible repeat (first | apply Kd.R_alloc | apply Kd.R_drewN | apply Kd.R_drew)); exact HO345.out) (Kd.R_base ho0) hb)
              have n5_ := Aside0.mk (Kd.R_elder' (by (with_reducible repeat (first | apply Kd.R_alloc | apply Kd.R_drewN | apply Kd.R_drew)); exact HO348.out) (Kd.R_base ho0) hb)
              have n6_ := Aside0.mk (Kd.R_elder' (by (with_reducible repeat (first | apply Kd.R_alloc | apply Kd.R_drewN | apply Kd.R_drew)); exact HO353.out) (Kd.R_base ho0) hb)
              have n7_ := Aside0.mk (Kd.R_below (by (with_reducible repeat (first | apply Kd.R_alloc | apply Kd.R_drewN | apply Kd.R_drew)); exact HO356.out) hb)
              have n8_ := Aside0.mk (Kd.R_lower (Kd.R_new' (Kd.R_new' (Kd.R_new' ho0 (Kd.R_lt (by (with_reducible repeat (first | apply Kd.R_alloc | apply Kd.R_drewN | apply Kd.R_drew)); exact HO345.out))) (Kd.R_lt (by (with_reducible repeat (first | apply Kd.R_alloc | apply Kd.R_drewN | apply Kd.R_drew)); exact HO348.out))) (Kd.R_lt (by (with_reducible repeat (first | apply Kd.R_alloc | apply Kd.R_drewN | apply Kd.R_drew)); exact HO353.out))) (below_size (by repeat (first | (with_reducible first | exact HB.out | apply below_alloc | apply pw_below_drewN | apply below_drew1) | exact HB.out))))
              have n9_ := Aside0.mk (below_step (by repeat (first | (with_reducible first | exact HB.out | apply below_alloc | apply pw_below_drewN | apply below_drew1) | exact HB.out)) hb)
              clear HO330
              clear HO333
              clear HO336
              clear HO339
              clear HO345
              clear HO348
              clear HO353
              clear HO356
              clear HB
              have HO330 := n0_
              have HO333 := n1_
              have HO336 := n2_
              have HO339 := n3_
              have HO345 := n4_
              have HO348 := n5_
              have HO353 := n6_
              have HO356 := n7_
              have HO359 := n8_
              have HB := n9_
              clear n0_ n1_ n2_ n3_ n4_ n5_ n6_ n7_ n8_ n9_
              (try clear hb)
              (try clear hb2)
              (try clear hk)
              (try clear hi)
              (try clear ho0)
              obtain ⟨Ao45, co45, eo45⟩ := Kd.R_slice HO359.out
              (first | subst eo45 | (injection eo45 with f1_ f2_ f3_; have f4_ := f1_.symm; have f5_ := f3_.symm; clear f1_ f2_ f3_; subst f4_; subst f5_))
              refine hK.out _ _ ⟨(by first | exact own_string (P := Try.prog) Try.underlying22 Try.underlying5 Try.underlying9 (Kd.own_of_R HO330.out) | exact own_string (P := Try.prog) Try.underlying22 Try.underlying5 Try.underlying9 (Kd.own_of_R (Kd.R_drewN HO330.out _))), (by first | exact Kd.C_string (P := Try.prog) Try.underlying22 Try.underlying5 Try.underlying9 (Kd.C_below HR0.out HB.out) | exact Kd.C_string (P := Try.prog) Try.underlying22 Try.underlying5 Try.underlying9 (Kd.C_drew (Kd.C_below HR0.out HB.out)) | exact Kd.C_string (P := Try.prog) Try.underlying22 Try.underlying5 Try.underlying9 (Kd.C_drewN (Kd.C_below HR0.out HB.out) _)), (by first | exact casematelaw04_BpolyReckons.strV Try.underlying22 Try.underlying5 Try.underlying9 HO333.out | exact casematelaw04_BpolyReckons.strV Try.underlying22 Try.underlying5 Try.underlying9 (Kd.V_drewN HO333.out _)), (by first | exact casematelaw04_BpolyReckons.strV Try.underlying22 Try.underlying5 Try.underlying9 HO336.out | exact casematelaw04_BpolyReckons.strV Try.underlying22 Try.underlying5 Try.underlying9 (Kd.V_drewN HO336.out _))⟩ (fun hHeld => ?_)
              clear hK K
              refine norm_ (a' := ?_) ?_ ?_
              rotate_left
              · show Act.put _ (some 72) _ = _
                simp only [Act.put, List.setIfInBounds_toArray, List.set_cons_zero, List.set_cons_succ, i64_w, i32_w]
                rfl
              refine one_ (i := 28) (N := some 73) #[true, true, true, true, true, true, true, true, true, true, true, true, true, true, true, true, true, true, true, true, true, true, true, true, true, true, true, true, true, false, false, false] rfl rfl (one_of HT_.out (by kernel_rfl)) (by decide) (fun K hK => ?_)
              refine goes_ Try.func17 (by kernel_rfl) rfl #[.slice Ao45 t357.length co45] (by rfl) rfl rfl (by (try simp only [List.map_toArray, List.map_cons, List.map_nil]); first | done | rfl | (simp only [List.length_drop, List.length_take]; rfl)) ?_
              with_reducible refine (casemateref04_Bytes.calls k _ _ t357 t360 _ ?side1 ?side2 A31.out).mono ?_
              (case side1 => repeat (first | exact (Kd.R_reads' HO359.out).2.2 | (with_reducible refine Kd.C_alloc ?_ _) | (with_reducible refine Kd.C_drewN ?_ _) | (with_reducible refine Kd.C_drew ?_)))
              (case side2 => exact (Kd.R_reads' HO359.out).2.1)
              rintro e w46 ⟨v361, rfl, ho0, hb⟩
              refine ⟨_, rfl, ?_⟩
              have n0_ := Aside0.mk (Kd.R_elder' (by (with_reducible repeat (first | apply Kd.R_alloc | apply Kd.R_drewN | apply Kd.R_drew)); exact HO330.out) (Kd.R_base ho0) hb)
              have n1_ := Aside0.mk (Kd.V_elder' (by (with_reducible repeat (first | apply Kd.V_alloc | apply Kd.V_drewN | apply Kd.V_drew)); exact HO333.out) (Kd.R_base ho0) hb)
              have n2_ := Aside0.mk (Kd.V_elder' (by (with_reducible repeat (first | apply Kd.V_alloc | apply Kd.V_drewN | apply Kd.V_drew)); exact HO336.out) (Kd.R_base ho0) hb)
              have n3_ := Aside0.mk (Kd.V_elder' (by (with_reducible repeat (first | apply Kd.V_alloc | apply Kd.V_drewN | apply Kd.V_drew)); exact HO339.out) (Kd.R_base ho0) hb)
              have n4_ := Aside0.mk (Kd.R_below (by (with_reducible repeat (first | apply Kd.R_alloc | apply Kd.R_drewN | apply Kd.R_drew)); exact HO345.out) hb)
              have n5_ := Aside0.mk (Kd.R_below (by (with_reducible repeat (first | apply Kd.R_alloc | apply Kd.R_drewN | apply Kd.R_drew)); exact HO348.out) hb)
              have n6_ := Aside0.mk (Kd.R_below (by (with_reducible repeat (first | apply Kd.R_alloc | apply Kd.R_drewN | apply Kd.R_drew)); exact HO353.out) hb)
              have n7_ := Aside0.mk (Kd.R_elder' (by (with_reducible repeat (first | apply Kd.R_alloc | apply Kd.R_drewN | apply Kd.R_drew)); exact HO356.out) (Kd.R_base ho0) hb)
              have n8_ := Aside0.mk (Kd.R_below (by (with_reducible repeat (first | apply Kd.R_alloc | apply Kd.R_drewN | apply Kd.R_drew)); exact HO359.out) hb)
              have n9_ := Aside0.mk (Kd.R_lower (Kd.R_new' (Kd.R_new' ho0 (Kd.R_lt (by (with_reducible repeat (first | apply Kd.R_alloc | apply Kd.R_drewN | apply Kd.R_drew)); exact HO330.out))) (Kd.R_lt (by (with_reducible repeat (first | apply Kd.R_alloc | apply Kd.R_drewN | apply Kd.R_drew)); exact HO356.out))) (below_size (by repeat (first | (with_reducible first | exact HB.out | apply below_alloc | apply pw_below_drewN | apply below_drew1) | exact HB.out))))
              have n10_ := Aside0.mk (below_step (by repeat (first | (with_reducible first | exact HB.out | apply below_alloc | apply pw_below_drewN | apply below_drew1) | exact HB.out)) hb)
              clear HO330
              clear HO333
              clear HO336
              clear HO339
              clear HO345
              clear HO348
              clear HO353
              clear HO356
              clear HO359
              clear HB
              have HO330 := n0_
              have HO333 := n1_
              have HO336 := n2_
              have HO339 := n3_
              have HO345 := n4_
              have HO348 := n5_
              have HO353 := n6_
              have HO356 := n7_
              have HO359 := n8_
              have HO362 := n9_
              have HB := n10_
              clear n0_ n1_ n2_ n3_ n4_ n5_ n6_ n7_ n8_ n9_ n10_
              (try clear hb)
              (try clear hb2)
              (try clear hk)
              (try clear hi)
              (try clear ho0)
              refine hK.out _ _ ⟨(by first | exact own_string (P := Try.prog) Try.underlying22 Try.underlying5 Try.underlying9 (Kd.own_of_R HO330.out) | exact own_string (P := Try.prog) Try.underlying22 Try.underlying5 Try.underlying9 (Kd.own_of_R (Kd.R_drewN HO330.out _))), (by first | exact Kd.C_string (P := Try.prog) Try.underlying22 Try.underlying5 Try.underlying9 (Kd.C_below HR0.out HB.out) | exact Kd.C_string (P := Try.prog) Try.underlying22 Try.underlying5 Try.underlying9 (Kd.C_drew (Kd.C_below HR0.out HB.out)) | exact Kd.C_string (P := Try.prog) Try.underlying22 Try.underlying5 Try.underlying9 (Kd.C_drewN (Kd.C_below HR0.out HB.out) _)), (by first | exact casematelaw04_BpolyReckons.strV Try.underlying22 Try.underlying5 Try.underlying9 HO333.out | exact casematelaw04_BpolyReckons.strV Try.underlying22 Try.underlying5 Try.underlying9 (Kd.V_drewN HO333.out _)), (by first | exact casematelaw04_BpolyReckons.strV Try.underlying22 Try.underlying5 Try.underlying9 HO336.out | exact casematelaw04_BpolyReckons.strV Try.underlying22 Try.underlying5 Try.underlying9 (Kd.V_drewN HO336.out _))⟩ (fun hHeld => ?_)
              clear hK K
              refine norm_ (a' := ?_) ?_ ?_
              rotate_left
              · show Act.put _ (some 73) _ = _
                simp only [Act.put, List.setIfInBounds_toArray, List.set_cons_zero, List.set_cons_succ, i64_w, i32_w]
                rfl
              refine one_ (i := 29) (N := some 74) #[true, true, true, true, true, true, true, true, true, true, true, true, true, true, true, true, true, true, true, true, true, true, true, true, true, true, true, true, true, true, false, false] rfl rfl (one_of HT_.out (by kernel_rfl)) (by decide) (fun K hK => ?_)
              have hcv47 := own_string (P := Try.prog) Try.underlying22 Try.underlying5 Try.underlying9 (Kd.own_of_R HO362.out)
              refine value_ (w1 := ?_) (v := ?_) (by rfl) rfl ?_ ?_
              rotate_left 2
              · go_simp
                constructor
                · rfl
                · rfl
              clear hcv47
              refine hK.out _ _ ⟨(by first | exact own_string (P := Try.prog) Try.underlying22 Try.underlying5 Try.underlying9 (Kd.own_of_R HO330.out) | exact own_string (P := Try.prog) Try.underlying22 Try.underlying5 Try.underlying9 (Kd.own_of_R (Kd.R_drewN HO330.out _))), (by first | exact Kd.C_string (P := Try.prog) Try.underlying22 Try.underlying5 Try.underlying9 (Kd.C_below HR0.out HB.out) | exact Kd.C_string (P := Try.prog) Try.underlying22 Try.underlying5 Try.underlying9 (Kd.C_drew (Kd.C_below HR0.out HB.out)) | exact Kd.C_string (P := Try.prog) Try.underlying22 Try.underlying5 Try.underlying9 (Kd.C_drewN (Kd.C_below HR0.out HB.out) _)), (by first | exact casematelaw04_BpolyReckons.strV Try.underlying22 Try.underlying5 Try.underlying9 HO333.out | exact casematelaw04_BpolyReckons.strV Try.underlying22 Try.underlying5 Try.underlying9 (Kd.V_drewN HO333.out _)), (by first | exact casematelaw04_BpolyReckons.strV Try.underlying22 Try.underlying5 Try.underlying9 HO336.out | exact casematelaw04_BpolyReckons.strV Try.underlying22 Try.underlying5 Try.underlying9 (Kd.V_drewN HO336.out _))⟩ (fun hHeld => ?_)
              clear hK K
              refine norm_ (a' := ?_) ?_ ?_
              rotate_left
              · show Act.put _ (some 74) _ = _
                simp only [Act.put, List.setIfInBounds_toArray, List.set_cons_zero, List.set_cons_succ, i64_w, i32_w]
                rfl
              refine pure_ (i := 30) (N := some 75) (v := ?_) (a' := ?_) #[true, true, true, true, true, true, true, true, true, true, true, true, true, true, true, true, true, true, true, true, true, true, true, true, true, true, true, true, true, true, true, false] rfl rfl (any_of HT_.out (by kernel_rfl)) (fun _ _ _ h => h) (Or.inl ⟨by rfl, ?_⟩) ?_ ?_
              rotate_left
              · intro w'
                go_simp
                with_reducible rfl
              rotate_left
              · simp only [Act.put, List.setIfInBounds_toArray, List.set_cons_zero, List.set_cons_succ, i64_w, i32_w]
                rfl
              refine pure_ (i := 31) (N := some 76) (v := ?_) (a' := ?_) #[true, true, true, true, true, true, true, true, true, true, true, true, true, true, true, true, true, true, true, true, true, true, true, true, true, true, true, true, true, true, true, true] rfl rfl (any_of HT_.out (by kernel_rfl)) (fun _ _ _ h => h) (Or.inl ⟨by rfl, ?_⟩) ?_ ?_
              rotate_left
              · intro w'
                go_simp
                with_reducible rfl
              rotate_left
              · simp only [Act.put, List.setIfInBounds_toArray, List.set_cons_zero, List.set_cons_succ, i64_w, i32_w]
                rfl
              refine done_ (done_of HT_.out (by kernel_rfl)) ?_
              try go_wp2
              go_meet
              case rel => exact ⟨_, (((strOfNums t334).toList != (strOfNums t360).toList)), (by first | rfl | (simp; done) | (simp [*]; done)), H', ⟨by first | omega | exact Nat.le_refl _⟩, ⟨by (with_reducible repeat (first | apply Kd.V_alloc | apply Kd.V_drewN | apply Kd.V_drew)); exact Kd.V_mono HO339.out (fun _ hk => by first | exact ⟨hk.2.1, hk.2.2.1⟩ | simp [hk])⟩, ⟨by (with_reducible repeat (first | apply Kd.R_alloc | apply Kd.R_drewN | apply Kd.R_drew)); exact Kd.R_mono HO345.out (fun _ hk => by first | exact hk.1 | simp [hk])⟩, ⟨by (with_reducible repeat (first | apply Kd.R_alloc | apply Kd.R_drewN | apply Kd.R_drew)); exact Kd.R_mono HO348.out (fun _ hk => by first | exact hk.1 | simp [hk])⟩, ⟨by repeat (first | (with_reducible first | exact HB.out | apply below_alloc | apply pw_below_drewN | apply below_drew1) | exact HB.out)⟩⟩
            · rw [if_neg c29] at H
              (try rw [hr_.out] at H)
              exact absurd H (casematelaw04_BpolyReckons.j0_no _ _ _ _ _ _ _ _)
          · rw [if_neg c26] at H
            (try rw [hr_.out] at H)
            exact absurd H (casematelaw04_BpolyReckons.j0_no _ _ _ _ _ _ _ _)
        · rw [if_neg c23] at H
          (try rw [hr_.out] at H)
          exact absurd H (casematelaw04_BpolyReckons.j0_no _ _ _ _ _ _ _ _)
      case rest =>
        clear HC13
        try clear c1
        try clear c2
        try clear p2
        try clear hcv5
        try clear hcv6
        try clear c12
        try clear c23
        try clear c23b0
        try clear c23b1
        try clear c26
        try clear c26b0
        try clear c26b1
        try clear hcv59
        try clear hcv63
        try clear hcv64
        try clear hcv68
        try clear hcv69
        obtain ⟨kq, x76_12, rfl, HA, HJ12, HO_10, HO_14, HO_15, HB⟩ := hcut
        cases kq with
        | zero => exact absurd HA.out (by simp [casematelaw04_BpolyReckons.j0])
        | succ kj12 =>
          have H := HA.out
          clear HA
          simp only [casematelaw04_BpolyReckons.j0] at H
          by_cases c71 : x76_12 = true
          · subst c71
            have H1 : (some false) = some r := by rw [if_pos rfl] at H; exact H
            rw [hr_.out] at H1
            exact absurd H1 (by simp)
          · replace c71 := Bool.eq_false_iff.mpr c71
            subst c71
            have H1 : ((casemateref02_Is.f a2).bind fun t363 => (if (t363 != (t342 == 0)) = true then (casematelaw04_BpolyReckons.j1 kj12 t337 t340 t343 t346 true) else (if t342 = 0 then ((casemateref04_Value.f kj12 t343 a2).bind fun t364 => (casematelaw04_BpolyReckons.j1 kj12 t337 t340 t343 t346 (t341 != t364))) else (if t342 = 1 then (if t341 = 0 then (casematelaw04_BpolyReckons.j1 kj12 t337 t340 t343 t346 false) else (casematelaw04_BpolyReckons.j1 kj12 t337 t340 t343 t346 true)) else (casematelaw04_BpolyReckons.j1 kj12 t337 t340 t343 t346 true))))) = some r := by rw [if_neg (show ¬ (false = true) by decide)] at H; exact H
            clear H
            have H := H1
            clear H1
            have HC72 := Aside0.mk H
            clear H
            go_upto_region 12 with (fail)
            go_cut [104] (fun v104 wc => ∃ (kq : Nat) (x104_71 : Bool), v104 = .bool x104_71 ∧ Aside0 (casematelaw04_BpolyReckons.j1 kq t337 t340 t343 t346 x104_71 = some r) ∧ Aside0 (kq ≤ kj12) ∧ Aside0 (Kd.V (Kd.int .u8) 5 wc w.heap.size (fun k_ => some k_ ≠ (v344 : Value).ownBlock ∧ some k_ ≠ (v347 : Value).ownBlock) v338 t337) ∧ Aside0 (Kd.R (Kd.int .i64) 3 wc w.heap.size (fun k_ => some k_ ≠ (v347 : Value).ownBlock) v344 t343) ∧ Aside0 (Kd.R (Kd.int .i64) 3 wc w.heap.size (fun k_ => some k_ ≠ (v344 : Value).ownBlock) v347 t346) ∧ Aside0 (Below w.heap.size w wc))
            case first =>
              have H := HC72.out
              clear HC72
              replace H := Option.bind_eq_some_iff.mp H
              obtain ⟨t363, A730, H⟩ := H
              replace H : (if (t363 != (t342 == 0)) = true then (casematelaw04_BpolyReckons.j1 kj12 t337 t340 t343 t346 true) else (if t342 = 0 then ((casemateref04_Value.f kj12 t343 a2).bind fun t364 => (casematelaw04_BpolyReckons.j1 kj12 t337 t340 t343 t346 (t341 != t364))) else (if t342 = 1 then (if t341 = 0 then (casematelaw04_BpolyReckons.j1 kj12 t337 t340 t343 t346 false) else (casematelaw04_BpolyReckons.j1 kj12 t337 t340 t343 t346 true)) else (casematelaw04_BpolyReckons.j1 kj12 t337 t340 t343 t346 true)))) = some r := H
              have A73 := Aside0.mk A730
              clear A730
              by_cases c74 : (t363 != (t342 == 0)) = true
              · rw [if_pos c74] at H
                (try rw [hr_.out] at H)
                exact absurd H (casematelaw04_BpolyReckons.j1_no _ _ _ _ _)
              · rw [if_neg c74] at H
                have c74b0 : (t363 != (t342 == 0)) = false := by simpa using c74
                (try (have c74b1 : decide (t363 = (t342 == 0)) = true := by simpa using c74))
                (try (have c74b2 : (t363 == (t342 == 0)) = true := by simpa using c74))
                clear c74
                (first | rw [c74b0] | (simp only [i64_w, i32_w]; rw [c74b0]) | skip)
                by_cases c75 : t342 = 0
                · rw [if_pos c75] at H
                  have c75b0 : (t342 == 0) = true := beq_iff_eq.mpr c75
                  have c75z : t363 = true := by have h_ := c74b2; rw [c75b0] at h_; exact eq_of_beq h_
                  have c75b1 : (t342 != 0) = false := bne_eq_false_iff_eq.mpr c75
                  clear c75
                  replace H := Option.bind_eq_some_iff.mp H
                  obtain ⟨t364, A760, H⟩ := H
                  replace H : (casematelaw04_BpolyReckons.j1 kj12 t337 t340 t343 t346 (t341 != t364)) = some r := H
                  have A76 := Aside0.mk A760
                  clear A760
                  have H' := Aside0.mk H
                  clear H
                  go_wp2_with (first | ((with_reducible refine gate_callee (f := 25) rfl ?_); refine goesL_ (some 78) rfl rfl Try.func25 (by kernel_rfl) rfl #[.int .i64 a2] rfl (by (try simp only [List.map_toArray, List.map_cons, List.map_nil]); first | done | rfl | (simp only [List.length_drop, List.length_take]; rfl)) ?_; (with_reducible refine (casemateref02_Is.calls a2 t363 _ A73.out).mono ?_); rintro e w' ⟨rfl, ⟨nd, rfl⟩⟩; refine ⟨_, rfl, ?_⟩; obtain ⟨Ao77, co77, eo77⟩ := Kd.R_slice HO_14.out; subst eo77) | (go_at_call 14; (with_reducible refine (casemateref04_Value.calls kj12 _ _ t343 a2 t364 _ ?side1 ?side2 A76.out).mono ?_); (case side1 => repeat (first | exact (Kd.R_reads' HO_14.out).2.2 | (with_reducible refine Kd.C_alloc ?_ _) | (with_reducible refine Kd.C_drewN ?_ _) | (with_reducible refine Kd.C_drew ?_))); (case side2 => exact (Kd.R_reads' HO_14.out).2.1); rintro e w' ⟨rfl, ⟨nd, rfl⟩⟩))
                  go_meet
                  case rel => exact ⟨_, ((t341 != t364)), (by first | rfl | (simp; done) | (simp [*]; done)), H', ⟨by have := HJ12.out; first | omega | exact Nat.le_refl _⟩, ⟨by (with_reducible repeat (first | apply Kd.V_alloc | apply Kd.V_drewN | apply Kd.V_drew)); first | exact HO_10.out | exact Kd.V_mono HO_10.out (fun _ hk => by simp [hk])⟩, ⟨by (with_reducible repeat (first | apply Kd.R_alloc | apply Kd.R_drewN | apply Kd.R_drew)); first | exact HO_14.out | exact Kd.R_mono HO_14.out (fun _ hk => by simp [hk])⟩, ⟨by (with_reducible repeat (first | apply Kd.R_alloc | apply Kd.R_drewN | apply Kd.R_drew)); first | exact HO_15.out | exact Kd.R_mono HO_15.out (fun _ hk => by simp [hk])⟩, ⟨by repeat (first | (with_reducible first | exact HB.out | apply below_alloc | apply pw_below_drewN | apply below_drew1) | exact HB.out)⟩⟩
                · rw [if_neg c75] at H
                  have c75b0 : (t342 == 0) = false := beq_eq_false_iff_ne.mpr c75
                  have c75z : t363 = false := by have h_ := c74b2; rw [c75b0] at h_; exact eq_of_beq h_
                  have c75b1 : (t342 != 0) = true := bne_iff_ne.mpr c75
                  by_cases c78 : t342 = 1
                  · rw [if_pos c78] at H
                    have c78b0 : (t342 == 1) = true := beq_iff_eq.mpr c78
                    have c78b1 : (t342 != 1) = false := bne_eq_false_iff_eq.mpr c78
                    clear c78
                    by_cases c79 : t341 = 0
                    · rw [if_pos c79] at H
                      have c79b0 : (t341 == 0) = true := beq_iff_eq.mpr c79
                      have c79b1 : (t341 != 0) = false := bne_eq_false_iff_eq.mpr c79
                      clear c79
                      have H' := Aside0.mk H
                      clear H
                      go_wp2_with (first | ((with_reducible refine gate_callee (f := 25) rfl ?_); refine goesL_ (some 78) rfl rfl Try.func25 (by kernel_rfl) rfl #[.int .i64 a2] rfl (by (try simp only [List.map_toArray, List.map_cons, List.map_nil]); first | done | rfl | (simp only [List.length_drop, List.length_take]; rfl)) ?_; (with_reducible refine (casemateref02_Is.calls a2 t363 _ A73.out).mono ?_); rintro e w' ⟨rfl, ⟨nd, rfl⟩⟩; refine ⟨_, rfl, ?_⟩))
                      go_meet
                      case rel => exact ⟨_, (false), (by first | rfl | (simp; done) | (simp [*]; done)), H', ⟨by have := HJ12.out; first | omega | exact Nat.le_refl _⟩, ⟨by (with_reducible repeat (first | apply Kd.V_alloc | apply Kd.V_drewN | apply Kd.V_drew)); first | exact HO_10.out | exact Kd.V_mono HO_10.out (fun _ hk => by simp [hk])⟩, ⟨by (with_reducible repeat (first | apply Kd.R_alloc | apply Kd.R_drewN | apply Kd.R_drew)); first | exact HO_14.out | exact Kd.R_mono HO_14.out (fun _ hk => by simp [hk])⟩, ⟨by (with_reducible repeat (first | apply Kd.R_alloc | apply Kd.R_drewN | apply Kd.R_drew)); first | exact HO_15.out | exact Kd.R_mono HO_15.out (fun _ hk => by simp [hk])⟩, ⟨by repeat (first | (with_reducible first | exact HB.out | apply below_alloc | apply pw_below_drewN | apply below_drew1) | exact HB.out)⟩⟩
                    · rw [if_neg c79] at H
                      (try rw [hr_.out] at H)
                      exact absurd H (casematelaw04_BpolyReckons.j1_no _ _ _ _ _)
                  · rw [if_neg c78] at H
                    (try rw [hr_.out] at H)
                    exact absurd H (casematelaw04_BpolyReckons.j1_no _ _ _ _ _)
            case rest =>
              clear HC72
              try clear c1
              try clear c2
              try clear p2
              try clear hcv5
              try clear hcv6
              try clear c7
              try clear c12
              try clear c23
              try clear c23b0
              try clear c23b1
              try clear c25
              try clear c26
              try clear c26b0
              try clear c26b1
              try clear hcv59
              try clear hcv63
              try clear hcv64
              try clear hcv68
              try clear hcv69
              try clear c71
              try clear c74
              try clear c74b0
              try clear c74b1
              try clear c74b2
              try clear c75
              try clear c75b0
              try clear c75b1
              try clear c78
              try clear c78b0
              try clear c78b1
              try clear c79
              try clear c79b0
              try clear c79b1
              try clear p2
              obtain ⟨kq, x104_71, rfl, HA, HJ71, HO_10, HO_14, HO_15, HB⟩ := hcut
              cases kq with
              | zero => exact absurd HA.out (by simp [casematelaw04_BpolyReckons.j1])
              | succ kj71 =>
                have H := HA.out
                clear HA
                simp only [casematelaw04_BpolyReckons.j1] at H
                by_cases c80 : x104_71 = true
                · subst c80
                  have H1 : (some false) = some r := by rw [if_pos rfl] at H; exact H
                  rw [hr_.out] at H1
                  exact absurd H1 (by simp)
                · replace c80 := Bool.eq_false_iff.mpr c80
                  subst c80
                  have H1 : ((casemateref04_Degree.f kj71 t346).bind fun t365 => (if t365 < 0 then ((casematelaw04_awake.f kj71).bind fun t366 => (if t366 = true then (if t340 = 20 then (some ((t337.length : Int) == 0)) else (some false)) else (some false))) else ((casematelaw04_awake.f kj71).bind fun t367 => (if t367 = true then (if t340 = 0 then ((casemateref04_Mod.f kj71 t343 t346).bind fun t368 => ((casemateref04_Bytes.f kj71 t368).bind fun t371 => (some ((strOfNums t337).toList == (strOfNums t371).toList)))) else (some false)) else (some false))))) = some r := by rw [if_neg (show ¬ (false = true) by decide)] at H; exact H
                  clear H
                  have H := H1
                  clear H1
                  replace H := Option.bind_eq_some_iff.mp H
                  obtain ⟨t365, A810, H⟩ := H
                  replace H : (if t365 < 0 then ((casematelaw04_awake.f kj71).bind fun t366 => (if t366 = true then (if t340 = 20 then (some ((t337.length : Int) == 0)) else (some false)) else (some false))) else ((casematelaw04_awake.f kj71).bind fun t367 => (if t367 = true then (if t340 = 0 then ((casemateref04_Mod.f kj71 t343 t346).bind fun t368 => ((casemateref04_Bytes.f kj71 t368).bind fun t371 => (some ((strOfNums t337).toList == (strOfNums t371).toList)))) else (some false)) else (some false)))) = some r := H
                  have A81 := Aside0.mk A810
                  clear A810
                  by_cases c82 : t365 < 0
                  · rw [if_pos c82] at H
                    have c82b0 : decide (t365 < 0) = true := decide_eq_true c82
                    clear c82
                    replace H := Option.bind_eq_some_iff.mp H
                    obtain ⟨t366, A830, H⟩ := H
                    replace H : (if t366 = true then (if t340 = 20 then (some ((t337.length : Int) == 0)) else (some false)) else (some false)) = some r := H
                    have A83 := Aside0.mk A830
                    clear A830
                    by_cases c84 : t366 = true
                    · subst c84
                      have H1 : (if t340 = 20 then (some ((t337.length : Int) == 0)) else (some false)) = some r := by rw [if_pos rfl] at H; exact H
                      clear H
                      have H := H1
                      clear H1
                      by_cases c85 : t340 = 20
                      · rw [if_pos c85] at H
                        have c85b0 : (t340 == 20) = true := beq_iff_eq.mpr c85
                        have c85b1 : (t340 != 20) = false := bne_eq_false_iff_eq.mpr c85
                        clear c85
                        obtain rfl := Option.some.inj H
                        obtain ⟨Ao86, co86, eo86⟩ := Kd.R_slice HO_15.out
                        subst eo86
                        go_wp2_with (first | ((with_reducible refine gate_callee (f := 12) rfl ?_); refine goesL_ (some 106) rfl rfl Try.func12 (by kernel_rfl) rfl #[.slice Ao86 t346.length co86] rfl (by (try simp only [List.map_toArray, List.map_cons, List.map_nil]); first | done | rfl | (simp only [List.length_drop, List.length_take]; rfl)) ?_; (with_reducible refine (casemateref04_Degree.calls kj71 _ _ t346 t365 _ ?side1 ?side2 A81.out).mono ?_); (case side1 => repeat (first | exact (Kd.R_reads' HO_15.out).2.2 | (with_reducible refine Kd.C_alloc ?_ _) | (with_reducible refine Kd.C_drewN ?_ _) | (with_reducible refine Kd.C_drew ?_))); (case side2 => exact (Kd.R_reads' HO_15.out).2.1); rintro e w' ⟨rfl, ⟨nd, rfl⟩⟩; refine ⟨_, rfl, ?_⟩) | ((with_reducible refine gate_callee (f := 11) rfl ?_); refine goesL_ (some 108) rfl rfl Try.func11 (by kernel_rfl) rfl #[] rfl (by (try simp only [List.map_toArray, List.map_cons, List.map_nil]); first | done | rfl | (simp only [List.length_drop, List.length_take]; rfl)) ?_; (with_reducible refine (casematelaw04_awake.calls kj71  true _ A83.out).mono ?_); rintro e w87 ⟨rfl, hb⟩; refine ⟨_, rfl, ?_⟩; have n0_ := Aside0.mk (Kd.V_below (by (with_reducible repeat (first | apply Kd.V_alloc | apply Kd.V_drewN | apply Kd.V_drew)); exact HO_10.out) hb); have n1_ := Aside0.mk (Kd.R_below (by (with_reducible repeat (first | apply Kd.R_alloc | apply Kd.R_drewN | apply Kd.R_drew)); exact HO_14.out) hb); have n2_ := Aside0.mk (Kd.R_below (by (with_reducible repeat (first | apply Kd.R_alloc | apply Kd.R_drewN | apply Kd.R_drew)); exact HO_15.out) hb); have n3_ := Aside0.mk (below_step (by repeat (first | (with_reducible first | exact HB.out | apply below_alloc | apply pw_below_drewN | apply below_drew1) | exact HB.out)) hb); clear HO_10; clear HO_14; clear HO_15; clear HB; have HO_10 := n0_; have HO_14 := n1_; have HO_15 := n2_; have HB := n3_; clear n0_ n1_ n2_ n3_; (try clear hb); (try clear hb2); (try clear hk); (try clear hi); obtain ⟨Ao88, co88, eo88⟩ := Kd.V_slice HO_10.out; subst eo88))
                        go_ret
                        exact ⟨by first | rfl | (simp [errW_none, errW_some] <;> rfl) | (simp [*, errW_none, errW_some] <;> rfl), by repeat (first | (with_reducible first | exact HB.out | apply below_alloc | apply pw_below_drewN | apply below_drew1) | exact HB.out)⟩
                      · rw [if_neg c85] at H
                        (try rw [hr_.out] at H)
                        exact absurd H (by simp)
                    · replace c84 := Bool.eq_false_iff.mpr c84
                      subst c84
                      have H1 : (some false) = some r := by rw [if_neg (show ¬ (false = true) by decide)] at H; exact H
                      rw [hr_.out] at H1
                      exact absurd H1 (by simp)
                  · rw [if_neg c82] at H
                    have c82b0 : decide (t365 < 0) = false := decide_eq_false c82
                    clear c82
                    replace H := Option.bind_eq_some_iff.mp H
                    obtain ⟨t367, A930, H⟩ := H
                    replace H : (if t367 = true then (if t340 = 0 then ((casemateref04_Mod.f kj71 t343 t346).bind fun t368 => ((casemateref04_Bytes.f kj71 t368).bind fun t371 => (some ((strOfNums t337).toList == (strOfNums t371).toList)))) else (some false)) else (some false)) = some r := H
                    have A93 := Aside0.mk A930
                    clear A930
                    by_cases c94 : t367 = true
                    · subst c94
                      have H1 : (if t340 = 0 then ((casemateref04_Mod.f kj71 t343 t346).bind fun t368 => ((casemateref04_Bytes.f kj71 t368).bind fun t371 => (some ((strOfNums t337).toList == (strOfNums t371).toList)))) else (some false)) = some r := by rw [if_pos rfl] at H; exact H
                      clear H
                      have H := H1
                      clear H1
                      by_cases c95 : t340 = 0
                      · rw [if_pos c95] at H
                        have c95b0 : (t340 == 0) = true := beq_iff_eq.mpr c95
                        have c95b1 : (t340 != 0) = false := bne_eq_false_iff_eq.mpr c95
                        clear c95
                        replace H := Option.bind_eq_some_iff.mp H
                        obtain ⟨t368, A960, H⟩ := H
                        replace H : ((casemateref04_Bytes.f kj71 t368).bind fun t371 => (some ((strOfNums t337).toList == (strOfNums t371).toList))) = some r := H
                        have A96 := Aside0.mk A960
                        clear A960
                        replace H := Option.bind_eq_some_iff.mp H
                        obtain ⟨t371, A970, H⟩ := H
                        replace H : (some ((strOfNums t337).toList == (strOfNums t371).toList)) = some r := H
                        have A97 := Aside0.mk A970
                        clear A970
                        obtain rfl := Option.some.inj H
                        obtain ⟨Ao98, co98, eo98⟩ := Kd.R_slice HO_15.out
                        subst eo98
                        try go_wp2_with (first | ((with_reducible refine gate_callee (f := 12) rfl ?_); refine goesL_ (some 106) rfl rfl Try.func12 (by kernel_rfl) rfl #[.slice Ao98 t346.length co98] rfl (by (try simp only [List.map_toArray, List.map_cons, List.map_nil]); first | done | rfl | (simp only [List.length_drop, List.length_take]; rfl)) ?_; (with_reducible refine (casemateref04_Degree.calls kj71 _ _ t346 t365 _ ?side1 ?side2 A81.out).mono ?_); (case side1 => repeat (first | exact (Kd.R_reads' HO_15.out).2.2 | (with_reducible refine Kd.C_alloc ?_ _) | (with_reducible refine Kd.C_drewN ?_ _) | (with_reducible refine Kd.C_drew ?_))); (case side2 => exact (Kd.R_reads' HO_15.out).2.1); rintro e w' ⟨rfl, ⟨nd, rfl⟩⟩; refine ⟨_, rfl, ?_⟩; obtain ⟨Ao99, co99, eo99⟩ := Kd.R_slice HO_14.out; subst eo99))
                        (try (rw [drewN_self wc]; generalize hq_ : World.drewN wc _ = wc; have n0_ : Aside0 (Kd.V (Kd.int .u8) 5 wc w.heap.size (fun k_ => some k_ ≠ (.slice Ao99 t343.length co99 : Value).ownBlock ∧ some k_ ≠ (.slice Ao98 t346.length co98 : Value).ownBlock) v338 t337) := ⟨by rw [← hq_]; exact (by (with_reducible repeat (first | apply Kd.V_alloc | apply Kd.V_drewN | apply Kd.V_drew)); exact HO_10.out)⟩; have n1_ : Aside0 (Kd.R (Kd.int .i64) 3 wc w.heap.size (fun k_ => some k_ ≠ (.slice Ao98 t346.length co98 : Value).ownBlock) (.slice Ao99 t343.length co99) t343) := ⟨by rw [← hq_]; exact (by (with_reducible repeat (first | apply Kd.R_alloc | apply Kd.R_drewN | apply Kd.R_drew)); exact HO_14.out)⟩; have n2_ : Aside0 (Kd.R (Kd.int .i64) 3 wc w.heap.size (fun k_ => some k_ ≠ (.slice Ao99 t343.length co99 : Value).ownBlock) (.slice Ao98 t346.length co98) t346) := ⟨by rw [← hq_]; exact (by (with_reducible repeat (first | apply Kd.R_alloc | apply Kd.R_drewN | apply Kd.R_drew)); exact HO_15.out)⟩; have n3_ : Aside0 (Below w.heap.size w wc) := ⟨by rw [← hq_]; exact (by repeat (first | (with_reducible first | exact HB.out | apply below_alloc | apply pw_below_drewN | apply below_drew1) | exact HB.out))⟩; clear HO_10 HO_14 HO_15 HB hq_; have HO_10 := n0_; have HO_14 := n1_; have HO_15 := n2_; have HB := n3_; clear n0_ n1_ n2_ n3_))
                        have n0_ := Aside0.mk (Kd.V_drew HO_10.out)
                        have n1_ := Aside0.mk (Kd.R_drew HO_14.out)
                        have n2_ := Aside0.mk (Kd.R_drew HO_15.out)
                        have n3_ := Aside0.mk (below_drew1 HB.out)
                        clear HO_10
                        clear HO_14
                        clear HO_15
                        clear HB
                        have HO_10 := n0_
                        have HO_14 := n1_
                        have HO_15 := n2_
                        have HB := n3_
                        clear n0_ n1_ n2_ n3_
                        refine start_ (n := 16) (S := fun w' => Sem.run Try.prog (convert 22 9 (v338)) w' = .ok (.string (strOfNums t337)) w') (ds := []) #[false, false, false, false, false, false, false, false, false, false, false, false, false, false, false, false] (by kernel_rfl) rfl rfl (by first | exact casematelaw04_BpolyReckons.strV Try.underlying22 Try.underlying5 Try.underlying9 HO_10.out | exact casematelaw04_BpolyReckons.strV Try.underlying22 Try.underlying5 Try.underlying9 (Kd.V_drewN HO_10.out _)) (fun hHeld => ?_); refine with_tabW casematelaw04_BpolyReckons.tab16 casematelaw04_BpolyReckons.bits16 (fun HT_ HW_ => ?_)
                        generalize wc.drew = w100 at HO_10 HO_14 HO_15 HB hHeld ⊢
                        refine one_ (i := 0) (N := some 118) #[true, false, false, false, false, false, false, false, false, false, false, false, false, false, false, false] rfl rfl (one_of HT_.out (by kernel_rfl)) (by decide) (fun K hK => ?_)
                        refine goes_ Try.func11 (by kernel_rfl) rfl #[] (by rfl) rfl rfl (by (try simp only [List.map_toArray, List.map_cons, List.map_nil]); first | done | rfl | (simp only [List.length_drop, List.length_take]; rfl)) ?_
                        with_reducible refine (casematelaw04_awake.calls kj71  true _ A93.out).mono ?_
                        rintro e w101 ⟨rfl, hb⟩
                        refine ⟨_, rfl, ?_⟩
                        have n0_ := Aside0.mk (Kd.V_below (by (with_reducible repeat (first | apply Kd.V_alloc | apply Kd.V_drewN | apply Kd.V_drew)); exact HO_10.out) hb)
                        have n1_ := Aside0.mk (Kd.R_below (by (with_reducible repeat (first | apply Kd.R_alloc | apply Kd.R_drewN | apply Kd.R_drew)); exact HO_14.out) hb)
                        have n2_ := Aside0.mk (Kd.R_below (by (with_reducible repeat (first | apply Kd.R_alloc | apply Kd.R_drewN | apply Kd.R_drew)); exact HO_15.out) hb)
                        have n3_ := Aside0.mk (below_step (by repeat (first | (with_reducible first | exact HB.out | apply below_alloc | apply pw_below_drewN | apply below_drew1) | exact HB.out)) hb)
                        clear HO_10
                        clear HO_14
                        clear HO_15
                        clear HB
                        have HO_10 := n0_
                        have HO_14 := n1_
                        have HO_15 := n2_
                        have HB := n3_
                        clear n0_ n1_ n2_ n3_
                        (try clear hb)
                        (try clear hb2)
                        (try clear hk)
                        (try clear hi)
                        have hcv102 := casematelaw04_BpolyReckons.strV Try.underlying22 Try.underlying5 Try.underlying9 HO_10.out
                        refine hK.out _ _ (by first | exact casematelaw04_BpolyReckons.strV Try.underlying22 Try.underlying5 Try.underlying9 HO_10.out | exact casematelaw04_BpolyReckons.strV Try.underlying22 Try.underlying5 Try.underlying9 (Kd.V_drewN HO_10.out _)) (fun hHeld => ?_)
                        clear hK K
                        refine norm_ (a' := ?_) ?_ ?_
                        rotate_left
                        · show Act.put _ (some 118) _ = _
                          simp only [Act.put, List.setIfInBounds_toArray, List.set_cons_zero, List.set_cons_succ, i64_w, i32_w]
                          rfl
                        refine pure_ (i := 1) (N := some 119) (v := ?_) (a' := ?_) #[true, true, false, false, false, false, false, false, false, false, false, false, false, false, false, false] rfl rfl (any_of HT_.out (by kernel_rfl)) (fun _ _ _ h => h) (Or.inl ⟨by rfl, ?_⟩) ?_ ?_
                        rotate_left
                        · intro w'
                          go_simp
                          with_reducible rfl
                        rotate_left
                        · simp only [Act.put, List.setIfInBounds_toArray, List.set_cons_zero, List.set_cons_succ, i64_w, i32_w]
                          rfl
                        refine pure_ (i := 2) (N := some 120) (v := ?_) (a' := ?_) #[true, true, true, false, false, false, false, false, false, false, false, false, false, false, false, false] rfl rfl (any_of HT_.out (by kernel_rfl)) (fun _ _ _ h => h) (Or.inl ⟨by rfl, ?_⟩) ?_ ?_
                        rotate_left
                        · intro w'
                          go_simp
                          with_reducible rfl
                        rotate_left
                        · simp only [Act.put, List.setIfInBounds_toArray, List.set_cons_zero, List.set_cons_succ, i64_w, i32_w]
                          rfl
                        refine pure_ (i := 3) (N := some 121) (v := ?_) (a' := ?_) #[true, true, true, true, false, false, false, false, false, false, false, false, false, false, false, false] rfl rfl (any_of HT_.out (by kernel_rfl)) (fun _ _ _ h => h) (Or.inl ⟨by rfl, ?_⟩) ?_ ?_
                        rotate_left
                        · intro w'
                          go_simp
                          with_reducible rfl
                        rotate_left
                        · simp only [Act.put, List.setIfInBounds_toArray, List.set_cons_zero, List.set_cons_succ, i64_w, i32_w]
                          rfl
                        refine pure_ (i := 4) (N := some 122) (v := ?_) (a' := ?_) #[true, true, true, true, true, false, false, false, false, false, false, false, false, false, false, false] rfl rfl (any_of HT_.out (by kernel_rfl)) (fun _ _ _ h => h) (Or.inl ⟨by rfl, ?_⟩) ?_ ?_
                        rotate_left
                        · intro w'
                          go_simp
                          with_reducible rfl
                        rotate_left
                        · simp only [Act.put, List.setIfInBounds_toArray, List.set_cons_zero, List.set_cons_succ, i64_w, i32_w]
                          rfl
                        refine pure_ (i := 5) (N := some 123) (v := ?_) (a' := ?_) #[true, true, true, true, true, true, false, false, false, false, false, false, false, false, false, false] rfl rfl (any_of HT_.out (by kernel_rfl)) (fun _ _ _ h => h) (Or.inl ⟨by rfl, ?_⟩) ?_ ?_
                        rotate_left
                        · intro w'
                          go_simp
                          with_reducible rfl
                        rotate_left
                        · simp only [Act.put, List.setIfInBounds_toArray, List.set_cons_zero, List.set_cons_succ, i64_w, i32_w]
                          rfl
                        refine pure_ (i := 6) (N := some 124) (v := ?_) (a' := ?_) #[true, true, true, true, true, true, true, false, false, false, false, false, false, false, false, false] rfl rfl (any_of HT_.out (by kernel_rfl)) (fun _ _ _ h => h) (Or.inl ⟨by rfl, ?_⟩) ?_ ?_
                        rotate_left
                        · intro w'
                          go_simp
                          with_reducible rfl
                        rotate_left
                        · simp only [Act.put, List.setIfInBounds_toArray, List.set_cons_zero, List.set_cons_succ, i64_w, i32_w]
                          rfl
                        refine take_ (i := 7) (N := some 125) (v := ?_) (a' := ?_) #[true, true, true, true, true, true, true, true, false, false, false, false, false, false, false, false] rfl rfl (take_ofW HT_.out HW_.out (by kernel_rfl)) (fun _ _ _ h => h) (Or.inl ⟨by rfl, ?_⟩) hHeld ?_ ?_
                        rotate_left
                        · rintro w' s0
                          go_simp
                          with_reducible rfl
                        rotate_left
                        · simp only [Act.put, List.setIfInBounds_toArray, List.set_cons_zero, List.set_cons_succ, i64_w, i32_w]
                          rfl
                        refine pure_ (i := 8) (N := some 126) (v := ?_) (a' := ?_) #[true, true, true, true, true, true, true, true, true, false, false, false, false, false, false, false] rfl rfl (any_of HT_.out (by kernel_rfl)) (fun _ _ _ h => h) (Or.inl ⟨by rfl, ?_⟩) ?_ ?_
                        rotate_left
                        · intro w'
                          go_simp
                          with_reducible rfl
                        rotate_left
                        · simp only [Act.put, List.setIfInBounds_toArray, List.set_cons_zero, List.set_cons_succ, i64_w, i32_w]
                          rfl
                        refine pure_ (i := 9) (N := some 127) (v := ?_) (a' := ?_) #[true, true, true, true, true, true, true, true, true, true, false, false, false, false, false, false] rfl rfl (any_of HT_.out (by kernel_rfl)) (fun _ _ _ h => h) (Or.inl ⟨by rfl, ?_⟩) ?_ ?_
                        rotate_left
                        · intro w'
                          go_simp
                          with_reducible rfl
                        rotate_left
                        · simp only [Act.put, List.setIfInBounds_toArray, List.set_cons_zero, List.set_cons_succ, i64_w, i32_w]
                          rfl
                        refine one_ (i := 10) (N := some 128) #[true, true, true, true, true, true, true, true, true, true, true, false, false, false, false, false] rfl rfl (one_of HT_.out (by kernel_rfl)) (by decide) (fun K hK => ?_)
                        refine goes_ Try.func26 (by kernel_rfl) rfl #[.slice Ao99 t343.length co99, .slice Ao98 t346.length co98] (by rfl) rfl rfl (by (try simp only [List.map_toArray, List.map_cons, List.map_nil]); first | done | rfl | (simp only [List.length_drop, List.length_take]; rfl)) ?_
                        with_reducible refine (casemateref04_Mod.calls kj71 _ _ t343 _ _ t346 t368 _ ?side1 ?side2 ?side3 ?side4 A96.out).mono ?_
                        (case side1 => repeat (first | exact (Kd.R_reads' HO_14.out).2.2 | (with_reducible refine Kd.C_alloc ?_ _) | (with_reducible refine Kd.C_drewN ?_ _) | (with_reducible refine Kd.C_drew ?_)))
                        (case side2 => exact (Kd.R_reads' HO_14.out).2.1)
                        (case side3 => repeat (first | exact (Kd.R_reads' HO_15.out).2.2 | (with_reducible refine Kd.C_alloc ?_ _) | (with_reducible refine Kd.C_drewN ?_ _) | (with_reducible refine Kd.C_drew ?_)))
                        (case side4 => exact (Kd.R_reads' HO_15.out).2.1)
                        rintro e w103 ⟨v369, rfl, ho0, hb⟩
                        refine ⟨_, rfl, ?_⟩
                        have n0_ := Aside0.mk (Kd.V_elder' (by (with_reducible repeat (first | apply Kd.V_alloc | apply Kd.V_drewN | apply Kd.V_drew)); exact HO_10.out) (Kd.R_base ho0) hb)
                        have n1_ := Aside0.mk (Kd.R_elder' (by (with_reducible repeat (first | apply Kd.R_alloc | apply Kd.R_drewN | apply Kd.R_drew)); exact HO_14.out) (Kd.R_base ho0) hb)
                        have n2_ := Aside0.mk (Kd.R_elder' (by (with_reducible repeat (first | apply Kd.R_alloc | apply Kd.R_drewN | apply Kd.R_drew)); exact HO_15.out) (Kd.R_base ho0) hb)
                        have n3_ := Aside0.mk (Kd.R_lower (Kd.R_new' (Kd.R_new' ho0 (Kd.R_lt (by (with_reducible repeat (first | apply Kd.R_alloc | apply Kd.R_drewN | apply Kd.R_drew)); exact HO_14.out))) (Kd.R_lt (by (with_reducible repeat (first | apply Kd.R_alloc | apply Kd.R_drewN | apply Kd.R_drew)); exact HO_15.out))) (below_size (by repeat (first | (with_reducible first | exact HB.out | apply below_alloc | apply pw_below_drewN | apply below_drew1) | exact HB.out))))
                        have n4_ := Aside0.mk (below_step (by repeat (first | (with_reducible first | exact HB.out | apply below_alloc | apply pw_below_drewN | apply below_drew1) | exact HB.out)) hb)
                        clear HO_10
                        clear HO_14
                        clear HO_15
                        clear HB
                        have HO_10 := n0_
                        have HO_14 := n1_
                        have HO_15 := n2_
                        have HO370 := n3_
                        have HB := n4_
                        clear n0_ n1_ n2_ n3_ n4_
                        (try clear hb)
                        (try clear hb2)
                        (try clear hk)
                        (try clear hi)
                        (try clear ho0)
                        obtain ⟨Ao104, co104, eo104⟩ := Kd.R_slice HO370.out
                        (first | subst eo104 | (injection eo104 with f1_ f2_ f3_; have f4_ := f1_.symm; have f5_ := f3_.symm; clear f1_ f2_ f3_; subst f4_; subst f5_))
                        refine hK.out _ _ (by first | exact casematelaw04_BpolyReckons.strV Try.underlying22 Try.underlying5 Try.underlying9 HO_10.out | exact casematelaw04_BpolyReckons.strV Try.underlying22 Try.underlying5 Try.underlying9 (Kd.V_drewN HO_10.out _)) (fun hHeld => ?_)
                        clear hK K
                        refine norm_ (a' := ?_) ?_ ?_
                        rotate_left
                        · show Act.put _ (some 128) _ = _
                          simp only [Act.put, List.setIfInBounds_toArray, List.set_cons_zero, List.set_cons_succ, i64_w, i32_w]
                          rfl
                        refine one_ (i := 11) (N := some 129) #[true, true, true, true, true, true, true, true, true, true, true, true, false, false, false, false] rfl rfl (one_of HT_.out (by kernel_rfl)) (by decide) (fun K hK => ?_)
                        refine goes_ Try.func17 (by kernel_rfl) rfl #[.slice Ao104 t368.length co104] (by rfl) rfl rfl (by (try simp only [List.map_toArray, List.map_cons, List.map_nil]); first | done | rfl | (simp only [List.length_drop, List.length_take]; rfl)) ?_
                        with_reducible refine (casemateref04_Bytes.calls kj71 _ _ t368 t371 _ ?side1 ?side2 A97.out).mono ?_
                        (case side1 => repeat (first | exact (Kd.R_reads' HO370.out).2.2 | (with_reducible refine Kd.C_alloc ?_ _) | (with_reducible refine Kd.C_drewN ?_ _) | (with_reducible refine Kd.C_drew ?_)))
                        (case side2 => exact (Kd.R_reads' HO370.out).2.1)
                        rintro e w105 ⟨v372, rfl, ho0, hb⟩
                        refine ⟨_, rfl, ?_⟩
                        have n0_ := Aside0.mk (Kd.V_elder' (by (with_reducible repeat (first | apply Kd.V_alloc | apply Kd.V_drewN | apply Kd.V_drew)); exact HO_10.out) (Kd.R_base ho0) hb)
                        have n1_ := Aside0.mk (Kd.R_below (by (with_reducible repeat (first | apply Kd.R_alloc | apply Kd.R_drewN | apply Kd.R_drew)); exact HO_14.out) hb)
                        have n2_ := Aside0.mk (Kd.R_below (by (with_reducible repeat (first | apply Kd.R_alloc | apply Kd.R_drewN | apply Kd.R_drew)); exact HO_15.out) hb)
                        have n3_ := Aside0.mk (Kd.R_below (by (with_reducible repeat (first | apply Kd.R_alloc | apply Kd.R_drewN | apply Kd.R_drew)); exact HO370.out) hb)
                        have n4_ := Aside0.mk (Kd.R_lower ho0 (below_size (by repeat (first | (with_reducible first | exact HB.out | apply below_alloc | apply pw_below_drewN | apply below_drew1) | exact HB.out))))
                        have n5_ := Aside0.mk (below_step (by repeat (first | (with_reducible first | exact HB.out | apply below_alloc | apply pw_below_drewN | apply below_drew1) | exact HB.out)) hb)
                        clear HO_10
                        clear HO_14
                        clear HO_15
                        clear HO370
                        clear HB
                        have HO_10 := n0_
                        have HO_14 := n1_
                        have HO_15 := n2_
                        have HO370 := n3_
                        have HO373 := n4_
                        have HB := n5_
                        clear n0_ n1_ n2_ n3_ n4_ n5_
                        (try clear hb)
                        (try clear hb2)
                        (try clear hk)
                        (try clear hi)
                        (try clear ho0)
                        refine hK.out _ _ (by first | exact casematelaw04_BpolyReckons.strV Try.underlying22 Try.underlying5 Try.underlying9 HO_10.out | exact casematelaw04_BpolyReckons.strV Try.underlying22 Try.underlying5 Try.underlying9 (Kd.V_drewN HO_10.out _)) (fun hHeld => ?_)
                        clear hK K
                        refine norm_ (a' := ?_) ?_ ?_
                        rotate_left
                        · show Act.put _ (some 129) _ = _
                          simp only [Act.put, List.setIfInBounds_toArray, List.set_cons_zero, List.set_cons_succ, i64_w, i32_w]
                          rfl
                        refine one_ (i := 12) (N := some 130) #[true, true, true, true, true, true, true, true, true, true, true, true, true, false, false, false] rfl rfl (one_of HT_.out (by kernel_rfl)) (by decide) (fun K hK => ?_)
                        have hcv106 := own_string (P := Try.prog) Try.underlying22 Try.underlying5 Try.underlying9 (Kd.own_of_R HO373.out)
                        refine value_ (w1 := ?_) (v := ?_) (by rfl) rfl ?_ ?_
                        rotate_left 2
                        · go_simp
                          constructor
                          · rfl
                          · rfl
                        clear hcv106
                        refine hK.out _ _ (by first | exact casematelaw04_BpolyReckons.strV Try.underlying22 Try.underlying5 Try.underlying9 HO_10.out | exact casematelaw04_BpolyReckons.strV Try.underlying22 Try.underlying5 Try.underlying9 (Kd.V_drewN HO_10.out _)) (fun hHeld => ?_)
                        clear hK K
                        refine norm_ (a' := ?_) ?_ ?_
                        rotate_left
                        · show Act.put _ (some 130) _ = _
                          simp only [Act.put, List.setIfInBounds_toArray, List.set_cons_zero, List.set_cons_succ, i64_w, i32_w]
                          rfl
                        refine pure_ (i := 13) (N := some 131) (v := ?_) (a' := ?_) #[true, true, true, true, true, true, true, true, true, true, true, true, true, true, false, false] rfl rfl (any_of HT_.out (by kernel_rfl)) (fun _ _ _ h => h) (Or.inl ⟨by rfl, ?_⟩) ?_ ?_
                        rotate_left
                        · intro w'
                          go_simp
                          with_reducible rfl
                        rotate_left
                        · simp only [Act.put, List.setIfInBounds_toArray, List.set_cons_zero, List.set_cons_succ, i64_w, i32_w]
                          rfl
                        refine pure_ (i := 14) (N := some 132) (v := ?_) (a' := ?_) #[true, true, true, true, true, true, true, true, true, true, true, true, true, true, true, false] rfl rfl (any_of HT_.out (by kernel_rfl)) (fun _ _ _ h => h) (Or.inl ⟨by rfl, ?_⟩) ?_ ?_
                        rotate_left
                        · intro w'
                          go_simp
                          with_reducible rfl
                        rotate_left
                        · simp only [Act.put, List.setIfInBounds_toArray, List.set_cons_zero, List.set_cons_succ, i64_w, i32_w]
                          rfl
                        refine pure_ (i := 15) (N := some 6) (v := ?_) (a' := ?_) #[true, true, true, true, true, true, true, true, true, true, true, true, true, true, true, true] rfl rfl (any_of HT_.out (by kernel_rfl)) (fun _ _ _ h => h) (Or.inl ⟨by rfl, ?_⟩) ?_ ?_
                        rotate_left
                        · intro w'
                          go_simp
                          with_reducible rfl
                        rotate_left
                        · simp only [Act.put, List.setIfInBounds_toArray, List.set_cons_zero, List.set_cons_succ, i64_w, i32_w]
                          rfl
                        refine done_ (done_of HT_.out (by kernel_rfl)) ?_
                        try go_wp2
                        go_ret
                        exact ⟨by first | rfl | (simp [errW_none, errW_some] <;> rfl) | (simp [*, errW_none, errW_some] <;> rfl), by repeat (first | (with_reducible first | exact HB.out | apply below_alloc | apply pw_below_drewN | apply below_drew1) | exact HB.out)⟩
                      · rw [if_neg c95] at H
                        (try rw [hr_.out] at H)
                        exact absurd H (by simp)
                    · replace c94 := Bool.eq_false_iff.mpr c94
                      subst c94
                      have H1 : (some false) = some r := by rw [if_neg (show ¬ (false = true) by decide)] at H; exact H
                      rw [hr_.out] at H1
                      exact absurd H1 (by simp)
    · rw [if_neg c6] at H
      exact absurd H (by simp)
  · replace c5 := Bool.eq_false_iff.mpr c5
    subst c5
    have H1 : (some true) = some r := by rw [if_neg (show ¬ (false = true) by decide)] at H; exact H
    clear H
    have H := H1
    clear H1
    obtain rfl := Option.some.inj H
    go_enter Try.func6, Try.ntmps6
    go_wp2_with (first | ((with_reducible refine gate_callee (f := 19) rfl ?_); refine goesL_ (some 18) rfl rfl Try.func19 (by kernel_rfl) rfl #[.slice A0 l0.length c0, .slice A1 l1.length c1] rfl (by (try simp only [List.map_toArray, List.map_cons, List.map_nil]); first | done | rfl | (simp only [List.length_drop, List.length_take]; rfl)) ?_; (with_reducible refine (casematelaw04_small.calls _ _ l0 _ _ l1 false _ ?side1 ?side2 ?side3 ?side4 A4.out).mono ?_); (case side1 => repeat (first | exact HR0.out | (with_reducible refine Kd.C_alloc ?_ _) | (with_reducible refine Kd.C_drewN ?_ _) | (with_reducible refine Kd.C_drew ?_))); (case side2 => exact HC0.out); (case side3 => repeat (first | exact HR1.out | (with_reducible refine Kd.C_alloc ?_ _) | (with_reducible refine Kd.C_drewN ?_ _) | (with_reducible refine Kd.C_drew ?_))); (case side4 => exact HC1.out); rintro e w' ⟨rfl, ⟨nd, rfl⟩⟩; refine ⟨_, rfl, ?_⟩))
    go_ret
    exact ⟨by first | rfl | (simp [errW_none, errW_some] <;> rfl) | (simp [*, errW_none, errW_some] <;> rfl), by repeat (first | (with_reducible first | exact HB.out | apply below_alloc | apply pw_below_drewN | apply below_drew1) | exact HB.out)⟩

/-- THE ONE PURE STATEMENT of casematelaw04_BpolyReckons: yours. -/
def casematelaw04_BpolyReckons.Pure : Prop := ∀ (l0 : List Int) (l1 : List Int) (a2 : Int), l0.length ≤ maxLen → l0.length * 1 ≤ 140737488351232 → (∀ x ∈ l0, (Lit.int .u8 x).wf = true) → l1.length ≤ maxLen → l1.length * 1 ≤ 140737488351232 → (∀ x ∈ l1, (Lit.int .u8 x).wf = true) → (Lit.int .i64 a2).wf = true → ∃ k, casematelaw04_BpolyReckons.f k l0 l1 a2 = some true
theorem casematelaw04_BpolyReckons.walk (P : casematelaw04_BpolyReckons.Pure) (a0 : Option Addr) (len0 cap0 : Nat) (z0 : List Int) (a1 : Option Addr) (len1 cap1 : Nat) (z1 : List Int) (a2 : Int) (w : World) (w0 : (a0 = none ∧ len0 = 0 ∧ cap0 = 0 ∧ z0 = []) ∨ ∃ x, a0 = some x ∧ len0 ≤ cap0 ∧ cap0 ≤ maxLen ∧ z0.length = cap0 ∧ (∀ i, i < z0.length → w.cell? (x.add i) = some (.int .u8 (z0.getD i 0))) ∧ ∀ n ∈ z0, (Lit.int .u8 n).wf = true) (y0 : len0 * 1 ≤ 140737488351232) (w1 : (a1 = none ∧ len1 = 0 ∧ cap1 = 0 ∧ z1 = []) ∨ ∃ x, a1 = some x ∧ len1 ≤ cap1 ∧ cap1 ≤ maxLen ∧ z1.length = cap1 ∧ (∀ i, i < z1.length → w.cell? (x.add i) = some (.int .u8 (z1.getD i 0))) ∧ ∀ n ∈ z1, (Lit.int .u8 n).wf = true) (y1 : len1 * 1 ≤ 140737488351232) (w2 : (Lit.int .i64 a2).wf = true) :
    Calls Try.prog 6 #[.slice a0 len0 cap0, .slice a1 len1 cap1, .int .i64 a2] w fun e w' => e = .returned (.bool true) ∧ Below w.heap.size w w' := by
  obtain ⟨l0, rfl, hr0, hm0, hw0, hc0⟩ := ReadsInt.ofRowC w0
  obtain ⟨l1, rfl, hr1, hm1, hw1, hc1⟩ := ReadsInt.ofRowC w1
  obtain ⟨k, h⟩ := P l0 l1 a2 hm0 y0 hw0 hm1 y1 hw1 w2
  refine (casematelaw04_BpolyReckons.calls k _ _ l0 _ _ l1 a2 true rfl w (Kd.C_of_reads (d := (0 : Int)) (h1 := fun _ => rfl) hr0) hc0 (Kd.C_of_reads (d := (0 : Int)) (h1 := fun _ => rfl) hr1) hc1 h).mono ?_
  rintro e w' ⟨rfl, hd⟩
  exact ⟨rfl, hd⟩

end Go.Proofs.Ytfclloehamgplaa.P

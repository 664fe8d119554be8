/- What Go functions of the translation come to, and that their calls come to just that. No condition but that the plain function answers. -/
import Derived.Test.YtfpdloccmneabaaPx0
import Derived.Test.YtfpdloccmneabaaPx6
import Derived.Test.YtfpdloccmneabaaPx10
import Derived.Test.YtfpdloccmneabaaPx18
import Derived.Test.YtfpdloccmneabaaUp
namespace Go.Proofs.Ytfpdloccmneabaa.P
open Go.RowKit Go.Proofs.YtfpdloccmneabaaW.PrintWords Go.Proofs.YtfpdloccmneabaaW.PrintLast Go.Proofs.YtfpdloccmneabaaW.PrintMore
attribute [local go_sem] max2_int min2_int max_two min_two max_three min_three max_four min_four   -- for this text's walks alone
set_option linter.unusedVariables false
set_option linter.unusedSimpArgs false
mutual
def casematelaw06_EccPacks.j0 : Nat → List Int → Bool → Int → Int → Int → Int → Int → Option (Bool)
 | 0, _, _, _, _, _, _, _ => none
 | k + 1, x1, x20, x543000, x543001, x543002, x543003, x543004 => if x20 = true then (some true) else ((some (([] : List Int) : List Int)).bind fun y544 => (if y544.length + x1.length < 140737488355328 then ((some (y544 ++ x1 : List Int)).bind fun y547 => ((ecc_Check.f x543000 x543001 x543002 x543003 x543004).bind fun t550 => ((ecc_Room.f x543000 x543001 x543002 x543003 x543004).bind fun bt551 => ((ecc_Raw.f x543000 x543001 x543002 x543003 x543004).bind fun bt553 => ((ecc_Pack.f k x543000 x543001 x543002 x543003 x543004 y547).bind fun bt555 => (if (strOfNums y547).toList = (strOfNums x1).toList then ((casemateref06_May.f x543000 x543001 x543002 x543003 x543004).bind fun t559 => (if t559 = true then (if t550 = 0 then (if bt551.2 = t550 then (if bt553.2 = t550 then ((casemateref06_Room.f x543000 x543001 x543002 x543003 x543004).bind fun t561 => (if bt551.1 = t561 then ((casemateref06_Raw.f x543000 x543001 x543002 x543003 x543004).bind fun t562 => (casematelaw06_EccPacks.j1 k x1 bt551.1 bt555.1 bt555.2 (bt553.1 != t562) x543000 x543001 x543002 x543003 x543004)) else (casematelaw06_EccPacks.j1 k x1 bt551.1 bt555.1 bt555.2 true x543000 x543001 x543002 x543003 x543004))) else (casematelaw06_EccPacks.j1 k x1 bt551.1 bt555.1 bt555.2 true x543000 x543001 x543002 x543003 x543004)) else (casematelaw06_EccPacks.j1 k x1 bt551.1 bt555.1 bt555.2 true x543000 x543001 x543002 x543003 x543004)) else (casematelaw06_EccPacks.j1 k x1 bt551.1 bt555.1 bt555.2 true x543000 x543001 x543002 x543003 x543004)) else ((casematelaw06_awake.f k).bind fun t560 => (if t560 = true then (if t550 = 1 then (if bt551.2 = t550 then (if bt553.2 = t550 then (if bt555.2 = t550 then (some ((wrap64 ((wrap64 (bt551.1 + bt553.1)) + (bt555.1.length : Int))) == 0)) else (some false)) else (some false)) else (some false)) else (some false)) else (some false))))) else (some false))))))) else (none)))
def casematelaw06_EccPacks.j1 : Nat → List Int → Int → List Int → Int → Bool → Int → Int → Int → Int → Int → Option (Bool)
 | 0, _, _, _, _, _, _, _, _, _, _ => none
 | k + 1, x1, x7, x11, x12, x102, x543000, x543001, x543002, x543003, x543004 => if x102 = true then (some false) else (if (x1.length : Int) = x7 then ((casematelaw06_awake.f k).bind fun t563 => (if t563 = true then (if x12 = 0 then ((casemateref06_Pack.f k x543000 x543001 x543002 x543003 x543004 x1).bind fun t564 => (some ((strOfNums x11).toList == (strOfNums t564).toList))) else (some false)) else (some false))) else ((casematelaw06_awake.f k).bind fun t567 => (if t567 = true then (if x12 = 1 then (some ((x11.length : Int) == 0)) else (some false)) else (some false))))
end
def casematelaw06_EccPacks.f (k : Nat) (a0_0 : Int) (a0_1 : Int) (a0_2 : Int) (a0_3 : Int) (a0_4 : Int) (l1 : List Int) : Option (Bool) := (casematelaw06_small.f a0_0 a0_1 a0_2 a0_3 a0_4).bind fun t543 => (if t543 = true then (casematelaw06_EccPacks.j0 k l1 (decide ((l1.length : Int) > 200)) a0_0 a0_1 a0_2 a0_3 a0_4) else (casematelaw06_EccPacks.j0 k l1 true a0_0 a0_1 a0_2 a0_3 a0_4))
def casematelaw06_EccPacks.T16 : Bool × List (List Nat × List Nat) := (true, [([], []), ([0, 0], [0]), ([1], [1]), ([2, 1], [1, 2]), ([1, 3], [1, 3]), ([4, 1], [4]), ([5], [5]), ([6, 5], [5, 6]), ([5], [5]), ([5], [5]), ([8, 9, 5, 5], [5, 8, 9]), ([10, 5], [5, 10]), ([7, 11, 5], [5, 7, 11]), ([5, 12], [5, 12]), ([13, 10, 0, 1, 2, 3, 4, 5, 6, 7, 8, 9, 10, 11, 12, 13], [13])])
def casematelaw06_EccPacks.B16 : List Nat := [0, 1, 3, 7, 15, 31, 63, 127, 63, 63, 831, 1855, 4095, 8191, 16383]
theorem casematelaw06_EccPacks.tab16 : rtab .any (opsOf Try.f5 16) = casematelaw06_EccPacks.T16 := by kernel_rfl
theorem casematelaw06_EccPacks.bits16 : waitsOk casematelaw06_EccPacks.T16.2 casematelaw06_EccPacks.B16 = true := by kernel_rfl
set_option maxHeartbeats 8000000 in
set_option maxRecDepth 100000 in
theorem casematelaw06_EccPacks.calls (k : Nat) (a0_0 : Int) (a0_1 : Int) (a0_2 : Int) (a0_3 : Int) (a0_4 : Int) (A1 : Option Addr) (c1 : Nat) (l1 : List Int) (r : Bool) (hr0_ : r = true) (w : World) (hr1 : Kd.C (Kd.int .u8) w A1 l1.length l1) (hc1 : l1.length ≤ c1) (h : casematelaw06_EccPacks.f k a0_0 a0_1 a0_2 a0_3 a0_4 l1 = some r) :
  Calls Try.prog 5 #[.agg #[.int .i64 a0_0, .int .i64 a0_1, .int .i64 a0_2, .int .i64 a0_3, .int .i64 a0_4], .slice A1 l1.length c1] w fun e w' => e = .returned (.bool r) ∧ Below w.heap.size w w' := by
 have hu23 := Try.underlying23
 have HR1 := Aside0.mk hr1
 have HC1 := Aside0.mk hc1
 clear hr1 hc1
 have HB := Aside0.mk (Below.refl w.heap.size w)
 have hr_ := Aside0.mk hr0_
 have H := h
 unfold casematelaw06_EccPacks.f at H
 clear h
 have HC3 := Aside0.mk H
 clear H
 go_enter Try.func5, Try.ntmps5
 go_upto_region 1 with (first | ((with_reducible refine gate_dst (N := 2) rfl ?_); (try (refine gate_guard (by rfl) ?_; dsimp only)); refine uX 2 #[.int .i64 a0_0, .int .i64 a0_1, .int .i64 a0_2, .int .i64 a0_3, .int .i64 a0_4] 23 ?_; intro gb542 hg w4 hbox hb; have BK542 := uA hbox; have GW542 := uGe HB hg; have GE542 := uGe HB hg; replace HB := uBb HB hb; clear hg))
 (try simp only [Act.put, List.setIfInBounds_toArray, List.set_cons_zero, List.set_cons_succ])
 go_cut [20] (fun v20 wc => ∃ (kq : Nat) (x20_2 : Bool), v20 = .bool x20_2 ∧ Aside0 (casematelaw06_EccPacks.j0 kq l1 x20_2 a0_0 a0_1 a0_2 a0_3 a0_4 = some r) ∧ Aside0 (kq ≤ k) ∧ Aside0 (wc.heap[gb542]? = some (.cells #[.int .i64 a0_0, .int .i64 a0_1, .int .i64 a0_2, .int .i64 a0_3, .int .i64 a0_4] 23 (0, 0))) ∧ Aside0 (Below w.heap.size w wc))
 case first =>
  have H := HC3.out
  clear HC3
  obtain ⟨t543, A5, H⟩ := uO H
  by_cases c6 : t543 = true
  ·subst c6
   replace H := uI rfl H
   have H' := Aside0.mk H
   clear H
   obtain ⟨_, _, _, _, _, _, _, _, _, _⟩ := uZ BK542
   go_wp2_with (first | ((with_reducible refine gate_callee (f := 9) rfl ?_); refine uG (some 14) Try.func9 #[.agg #[.int .i64 a0_0, .int .i64 a0_1, .int .i64 a0_2, .int .i64 a0_3, .int .i64 a0_4]] ?_; (with_reducible refine (casematelaw06_small.calls a0_0 a0_1 a0_2 a0_3 a0_4 true _ A5.out).mono ?_); rintro e w8 ⟨rfl, hb⟩; refine ⟨_, rfl, ?_⟩; replace BK542 := uKb BK542 hb; replace HB := uBb HB hb))
   go_meet
   case rel => exact ⟨_, (decide ((l1.length : Int) > 200)), rfl, H', ⟨by omega⟩, ⟨uK BK542.out⟩, ⟨uB HB.out⟩⟩
  ·replace c6 := Bool.eq_false_iff.mpr c6
   subst c6
   replace H := uJ uN0 H
   have H' := Aside0.mk H
   clear H
   obtain ⟨_, _, _, _, _, _, _, _, _, _⟩ := uZ BK542
   go_wp2_with (first | ((with_reducible refine gate_callee (f := 9) rfl ?_); refine uG (some 14) Try.func9 #[.agg #[.int .i64 a0_0, .int .i64 a0_1, .int .i64 a0_2, .int .i64 a0_3, .int .i64 a0_4]] ?_; (with_reducible refine (casematelaw06_small.calls a0_0 a0_1 a0_2 a0_3 a0_4 false _ A5.out).mono ?_); rintro e w10 ⟨rfl, hb⟩; refine ⟨_, rfl, ?_⟩; replace BK542 := uKb BK542 hb; replace HB := uBb HB hb))
   go_meet
   case rel => exact ⟨_, (true), rfl, H', ⟨by omega⟩, ⟨uK BK542.out⟩, ⟨uB HB.out⟩⟩
 case rest =>
  clear HC3
  obtain ⟨kq, x20_2, rfl, HA, HJ2, BK542, HB⟩ := hcut
  cases kq with
  | zero => exact absurd HA.out (by simp [casematelaw06_EccPacks.j0])
  | succ kj2 =>
   have H := HA.out
   clear HA
   simp only [casematelaw06_EccPacks.j0] at H
   by_cases c11 : x20_2 = true
   ·subst c11
    replace H := uI rfl H
    obtain rfl := Option.some.inj H
    go_wp2
    go_ret
    exact ⟨rfl, uB HB.out⟩
   ·replace c11 := Bool.eq_false_iff.mpr c11
    subst c11
    replace H := uJ uN0 H
    rw [uY] at H
    obtain ⟨y544, Ny544, H⟩ := H
    by_cases c12 : y544.length + l1.length < 140737488355328
    ·rw [if_pos c12] at H
     have LMc12 := Aside0.mk c12
     clear c12
     rw [uY] at H
     obtain ⟨y547, Ny547, H⟩ := H
     obtain ⟨t550, A13, H⟩ := uO H
     obtain ⟨⟨t551, t552⟩, A14, H⟩ := uO H
     dsimp only at H
     obtain ⟨⟨t553, t554⟩, A15, H⟩ := uO H
     dsimp only at H
     obtain ⟨⟨t555, t558⟩, A16, H⟩ := uO H
     dsimp only at H
     by_cases c17 : (strOfNums y547).toList = (strOfNums l1).toList
     ·rw [if_pos c17] at H
      have c17b0 : ((strOfNums y547).toList == (strOfNums l1).toList) = true := beq_iff_eq.mpr c17
      have c17b1 : ((strOfNums y547).toList != (strOfNums l1).toList) = false := bne_eq_false_iff_eq.mpr c17
      clear c17
      obtain ⟨t559, A18, H⟩ := uO H
      by_cases c19 : t559 = true
      ·subst c19
       replace H := uI rfl H
       have HC20 := Aside0.mk H
       clear H
       go_upto_region 12 with (first | ((with_reducible refine gate_dst (N := 21) rfl ?_); (try (refine gate_guard (by rfl) ?_; dsimp only)); refine Kd.R_lit (Kd.int .u8) _ 5 ?hg (N := 21) ?hd (xs := ([] : List Int)) (inner := []) (ok := fun _ => True) (okp := fun _ => True) ?hr ?hp (fun _ hk => hk) trivial (Below.refl _ _) (Nat.le_refl _) (by simp) ?_; (case hd => rfl); (case hg => rfl); (case hr => first | (go_simp; done) | (go_simp; rfl)); (case hp => exact (Reps.none _ _)); intro v545 w21 ho22 hb hg_ hnew_; clear hg_ hnew_; (first | rw [← Ny544.out] at ho22 | (simp only [Int.reduceToNat] at ho22; rw [← Ny544.out] at ho22)); have HO546 := uA (Kd.R_lower ho22 (below_size (uB HB.out))); replace BK542 := uKb BK542 hb; replace HB := uBb HB hb; clear hb ho22) | ((with_reducible refine gate_builtin (b := .append) (xs := #[.tmp 21, .tmp 22]) rfl ?_); (try (refine gate_guard (by rfl) ?_; dsimp only)); at_builtin; refine Kd.R_append_rows (Kd.int .u8) (w0 := w) w.heap.size rfl (.tmp 21) (.tmp 22) 26 5 (.int .u8 0) 1 rfl Try.underlying26 info5 rfl (by decide) (by omega) v545 y544 l1 _ _ _ (fun _ => True) (fun _ => False) rfl rfl ?aO ?aR (fun _ _ h => h) (fun _ h => h.elim) ?aF ?aB ?aS ?aL ?_; (case aR => exact uC (Kd.C_below HR1.out HB.out)); (case aB => exact (uB HB.out)); (case aF => exact (fun _ _ => trivial)); (case aO => exact (uR HO546.out)); (case aS => exact (below_size (uB HB.out))); (case aL => have := LMc12.out; omega); intro v548 w23 ho hb hg hat; rw [← Ny547.out] at ho; have n0_ := Aside0.mk (blk_grown (g := gb542) (o := .cells #[.int .i64 a0_0, .int .i64 a0_1, .int .i64 a0_2, .int .i64 a0_3, .int .i64 a0_4] 23 (0, 0)) (uK BK542.out) hg (Kd.R_ne HO546.out BK542.out (by decide))); have n1_ := Aside0.mk (hb); have n2_ := Aside0.mk (ho); clear BK542; clear HB; clear HO546; have BK542 := n0_; have HB := n1_; have HO549 := n2_; clear n0_ n1_ n2_; clear ho hb hg hat; obtain ⟨_, _, _, _, _, _, _, _, _, _⟩ := uZ BK542) | ((with_reducible refine gate_callee (f := 19) rfl ?_); refine uG (some 25) Try.func19 #[.agg #[.int .i64 a0_0, .int .i64 a0_1, .int .i64 a0_2, .int .i64 a0_3, .int .i64 a0_4]] ?_; (with_reducible refine (ecc_Check.calls a0_0 a0_1 a0_2 a0_3 a0_4 t550 _ A13.out).mono ?_); rintro e w25 ⟨rfl, hb⟩; refine ⟨_, rfl, ?_⟩; replace HO549 := uRb HO549 hb; replace BK542 := uKb BK542 hb; replace HB := uBb HB hb; obtain ⟨_, _, _, _, _, _, _, _, _, _⟩ := uZ BK542) | ((with_reducible refine gate_callee (f := 20) rfl ?_); refine uG (some 28) Try.func20 #[.agg #[.int .i64 a0_0, .int .i64 a0_1, .int .i64 a0_2, .int .i64 a0_3, .int .i64 a0_4]] ?_; (with_reducible refine (ecc_Room.calls a0_0 a0_1 a0_2 a0_3 a0_4 t551 t552 _ A14.out).mono ?_); rintro e w27 ⟨rfl, hb⟩; refine ⟨_, rfl, ?_⟩; replace HO549 := uRb HO549 hb; replace BK542 := uKb BK542 hb; replace HB := uBb HB hb; obtain ⟨_, _, _, _, _, _, _, _, _, _⟩ := uZ BK542) | ((with_reducible refine gate_callee (f := 21) rfl ?_); refine uG (some 33) Try.func21 #[.agg #[.int .i64 a0_0, .int .i64 a0_1, .int .i64 a0_2, .int .i64 a0_3, .int .i64 a0_4]] ?_; (with_reducible refine (ecc_Raw.calls a0_0 a0_1 a0_2 a0_3 a0_4 t553 t554 _ A15.out).mono ?_); rintro e w29 ⟨rfl, hb⟩; refine ⟨_, rfl, ?_⟩; replace HO549 := uRb HO549 hb; replace BK542 := uKb BK542 hb; replace HB := uBb HB hb; obtain ⟨_, _, _, _, _, _, _, _, _, _⟩ := uZ BK542; obtain ⟨Ao31, co31, eo31⟩ := Kd.R_slice HO549.out; subst eo31) | ((with_reducible refine gate_callee (f := 18) rfl ?_); refine uG (some 39) Try.func18 #[.agg #[.int .i64 a0_0, .int .i64 a0_1, .int .i64 a0_2, .int .i64 a0_3, .int .i64 a0_4], .slice Ao31 y547.length co31] ?_; (with_reducible refine (ecc_Pack.calls kj2 a0_0 a0_1 a0_2 a0_3 a0_4 (fun k_ => some k_ = (.slice Ao31 y547.length co31 : Value).ownBlock) _ _ y547 t555 t558 _ ?side1 A16.out).mono ?_); (case side1 => exact Kd.R_V (Kd.R_tight rfl (Kd.R_types (HO549.out) BK542.out (by decide)))); rintro e w32 ⟨v556, rfl, ho0, hb⟩; refine ⟨_, rfl, ?_⟩; have HO557 := uA (Kd.R_lower (Kd.R_new' (Kd.R_mono (ok' := fun k_ => True) ho0 (fun _ hk_ => trivial)) (Kd.R_lt (uR HO549.out))) (below_size (uB HB.out))); replace HO549 := uA (Kd.R_elder' (uR HO549.out) (Kd.R_base ho0) hb); replace BK542 := uKb BK542 hb; replace HB := uBb HB hb; have hcv33 := own_string (P := Try.prog) Try.underlying26 Try.underlying5 Try.underlying9 (Kd.own_of_R HO549.out); have hcv34 := Kd.C_string (P := Try.prog) (A := A1) (c := c1) Try.underlying26 Try.underlying5 Try.underlying9 (Kd.C_below HR1.out HB.out); obtain ⟨_, _, _, _, _, _, _, _, _, _⟩ := uZ BK542) | ((with_reducible refine gate_callee (f := 10) rfl ?_); refine uG (some 48) Try.func10 #[.agg #[.int .i64 a0_0, .int .i64 a0_1, .int .i64 a0_2, .int .i64 a0_3, .int .i64 a0_4]] ?_; (with_reducible refine (casemateref06_May.calls a0_0 a0_1 a0_2 a0_3 a0_4 true _ A18.out).mono ?_); rintro e w36 ⟨rfl, hb⟩; refine ⟨_, rfl, ?_⟩; replace HO549 := uRb HO549 hb; replace HO557 := uRb HO557 hb; replace BK542 := uKb BK542 hb; replace HB := uBb HB hb))
       (try simp only [Act.put, List.setIfInBounds_toArray, List.set_cons_zero, List.set_cons_succ])
       go_cut [102] (fun v102 wc => ∃ (kq : Nat) (x102_19 : Bool), v102 = .bool x102_19 ∧ Aside0 (casematelaw06_EccPacks.j1 kq l1 t551 t555 t558 x102_19 a0_0 a0_1 a0_2 a0_3 a0_4 = some r) ∧ Aside0 (kq ≤ kj2) ∧ Aside0 (Kd.R (Kd.int .u8) 5 wc w.heap.size (fun _ => True) v556 t555) ∧ Aside0 (wc.heap[gb542]? = some (.cells #[.int .i64 a0_0, .int .i64 a0_1, .int .i64 a0_2, .int .i64 a0_3, .int .i64 a0_4] 23 (0, 0))) ∧ Aside0 (Below w.heap.size w wc))
       case first =>
        have H := HC20.out
        clear HC20
        by_cases c37 : t550 = 0
        ·rw [if_pos c37] at H
         have c37b0 : (t550 == 0) = true := beq_iff_eq.mpr c37
         have c37b1 : (t550 != 0) = false := bne_eq_false_iff_eq.mpr c37
         clear c37
         (first | rw [c37b0] | (simp only [i64_w, i32_w]; rw [c37b0]) | skip)
         by_cases c38 : t552 = t550
         ·rw [if_pos c38] at H
          have c38b0 : (t552 == t550) = true := beq_iff_eq.mpr c38
          have c38b1 : (t552 != t550) = false := bne_eq_false_iff_eq.mpr c38
          clear c38
          by_cases c39 : t554 = t550
          ·rw [if_pos c39] at H
           have c39b0 : (t554 == t550) = true := beq_iff_eq.mpr c39
           have c39b1 : (t554 != t550) = false := bne_eq_false_iff_eq.mpr c39
           clear c39
           obtain ⟨t561, A40, H⟩ := uO H
           by_cases c41 : t551 = t561
           ·rw [if_pos c41] at H
            have c41b0 : (t551 == t561) = true := beq_iff_eq.mpr c41
            have c41b1 : (t551 != t561) = false := bne_eq_false_iff_eq.mpr c41
            clear c41
            obtain ⟨t562, A42, H⟩ := uO H
            have H' := Aside0.mk H
            clear H
            obtain ⟨_, _, _, _, _, _, _, _, _, _⟩ := uZ BK542
            go_wp2_with (first | (go_at_call 17; (with_reducible refine (casemateref06_Room.calls a0_0 a0_1 a0_2 a0_3 a0_4 t561 _ A40.out).mono ?_); rintro e w44 ⟨rfl, hb⟩; replace HO549 := uRb HO549 hb; replace HO557 := uRb HO557 hb; replace BK542 := uKb BK542 hb; replace HB := uBb HB hb; obtain ⟨_, _, _, _, _, _, _, _, _, _⟩ := uZ BK542) | (go_at_call 12; (with_reducible refine (casemateref06_Raw.calls a0_0 a0_1 a0_2 a0_3 a0_4 t562 _ A42.out).mono ?_); rintro e w46 ⟨rfl, hb⟩; replace HO549 := uRb HO549 hb; replace HO557 := uRb HO557 hb; replace BK542 := uKb BK542 hb; replace HB := uBb HB hb))
            go_meet
            case rel => exact ⟨_, ((t553 != t562)), rfl, H', ⟨by have := HJ2.out; omega⟩, ⟨by (with_reducible repeat (first | apply Kd.R_alloc | apply Kd.R_drewN | apply Kd.R_drew)); exact Kd.R_mono HO557.out (fun _ hk => trivial)⟩, ⟨uK BK542.out⟩, ⟨uB HB.out⟩⟩
           ·rw [if_neg c41] at H
            have c41b0 : (t551 == t561) = false := beq_eq_false_iff_ne.mpr c41
            have c41b1 : (t551 != t561) = true := bne_iff_ne.mpr c41
            have H' := Aside0.mk H
            clear H
            obtain ⟨_, _, _, _, _, _, _, _, _, _⟩ := uZ BK542
            go_wp2_with (first | (go_at_call 17; (with_reducible refine (casemateref06_Room.calls a0_0 a0_1 a0_2 a0_3 a0_4 t561 _ A40.out).mono ?_); rintro e w48 ⟨rfl, hb⟩; replace HO549 := uRb HO549 hb; replace HO557 := uRb HO557 hb; replace BK542 := uKb BK542 hb; replace HB := uBb HB hb))
            go_meet
            case rel => exact ⟨_, (true), rfl, H', ⟨by have := HJ2.out; omega⟩, ⟨by (with_reducible repeat (first | apply Kd.R_alloc | apply Kd.R_drewN | apply Kd.R_drew)); exact Kd.R_mono HO557.out (fun _ hk => trivial)⟩, ⟨uK BK542.out⟩, ⟨uB HB.out⟩⟩
          ·rw [if_neg c39] at H
           have c39b0 : (t554 == t550) = false := beq_eq_false_iff_ne.mpr c39
           have c39b1 : (t554 != t550) = true := bne_iff_ne.mpr c39
           have H' := Aside0.mk H
           clear H
           go_wp2
           go_meet
           case rel => exact ⟨_, (true), rfl, H', ⟨by have := HJ2.out; omega⟩, ⟨by (with_reducible repeat (first | apply Kd.R_alloc | apply Kd.R_drewN | apply Kd.R_drew)); exact Kd.R_mono HO557.out (fun _ hk => trivial)⟩, ⟨uK BK542.out⟩, ⟨uB HB.out⟩⟩
         ·rw [if_neg c38] at H
          have c38b0 : (t552 == t550) = false := beq_eq_false_iff_ne.mpr c38
          have c38b1 : (t552 != t550) = true := bne_iff_ne.mpr c38
          have H' := Aside0.mk H
          clear H
          go_wp2
          go_meet
          case rel => exact ⟨_, (true), rfl, H', ⟨by have := HJ2.out; omega⟩, ⟨by (with_reducible repeat (first | apply Kd.R_alloc | apply Kd.R_drewN | apply Kd.R_drew)); exact Kd.R_mono HO557.out (fun _ hk => trivial)⟩, ⟨uK BK542.out⟩, ⟨uB HB.out⟩⟩
        ·rw [if_neg c37] at H
         have c37b0 : (t550 == 0) = false := beq_eq_false_iff_ne.mpr c37
         have c37b1 : (t550 != 0) = true := bne_iff_ne.mpr c37
         (first | rw [c37b0] | (simp only [i64_w, i32_w]; rw [c37b0]) | skip)
         have H' := Aside0.mk H
         clear H
         go_wp2
         go_meet
         case rel => exact ⟨_, (true), rfl, H', ⟨by have := HJ2.out; omega⟩, ⟨by (with_reducible repeat (first | apply Kd.R_alloc | apply Kd.R_drewN | apply Kd.R_drew)); exact Kd.R_mono HO557.out (fun _ hk => trivial)⟩, ⟨uK BK542.out⟩, ⟨uB HB.out⟩⟩
       case rest =>
        clear HC20
        obtain ⟨kq, x102_19, rfl, HA, HJ19, HO_11, BK542, HB⟩ := hcut
        cases kq with
        | zero => exact absurd HA.out (by simp [casematelaw06_EccPacks.j1])
        | succ kj19 =>
         have H := HA.out
         clear HA
         simp only [casematelaw06_EccPacks.j1] at H
         by_cases c49 : x102_19 = true
         ·subst c49
          have H1 : (some false) = some r := by rw [if_pos rfl] at H; exact H
          rw [hr_.out] at H1
          exact absurd H1 (by simp)
         ·replace c49 := Bool.eq_false_iff.mpr c49
          subst c49
          replace H := uJ uN0 H
          by_cases c50 : (l1.length : Int) = t551
          ·rw [if_pos c50] at H
           have c50b0 : ((l1.length : Int) == t551) = true := beq_iff_eq.mpr c50
           have c50b1 : ((l1.length : Int) != t551) = false := bne_eq_false_iff_eq.mpr c50
           clear c50
           obtain ⟨t563, A51, H⟩ := uO H
           by_cases c52 : t563 = true
           ·subst c52
            replace H := uI rfl H
            by_cases c53 : t558 = 0
            ·rw [if_pos c53] at H
             have c53b0 : (t558 == 0) = true := beq_iff_eq.mpr c53
             have c53b1 : (t558 != 0) = false := bne_eq_false_iff_eq.mpr c53
             clear c53
             obtain ⟨t564, A54, H⟩ := uO H
             obtain rfl := Option.some.inj H
             try go_wp2
             replace HO_11 := uA (Kd.R_drew HO_11.out); replace BK542 := uA (blk_drew BK542.out); replace HB := uA (below_drew1 HB.out)
             refine start_ (n := 15) (S := fun w' => w'.cell? ⟨gb542, 0, none⟩ = some (.int .i64 a0_0) ∧ w'.cell? ⟨gb542, 1, none⟩ = some (.int .i64 a0_1) ∧ w'.cell? ⟨gb542, 2, none⟩ = some (.int .i64 a0_2) ∧ w'.cell? ⟨gb542, 3, none⟩ = some (.int .i64 a0_3) ∧ w'.cell? ⟨gb542, 4, none⟩ = some (.int .i64 a0_4) ∧ Sem.run Try.prog (convert 26 9 (v556)) w' = .ok (.string (strOfNums t555)) w') (ds := []) #[false, false, false, false, false, false, false, false, false, false, false, false, false, false, false] (by kernel_rfl) rfl rfl ⟨(blk_cell BK542.out 0).trans rfl, (blk_cell BK542.out 1).trans rfl, (blk_cell BK542.out 2).trans rfl, (blk_cell BK542.out 3).trans rfl, (blk_cell BK542.out 4).trans rfl, (by first | exact own_string (P := Try.prog) Try.underlying26 Try.underlying5 Try.underlying9 (Kd.own_of_R HO_11.out) | exact own_string (P := Try.prog) Try.underlying26 Try.underlying5 Try.underlying9 (Kd.own_of_R (Kd.R_drewN HO_11.out _)))⟩ (fun hHeld => ?_); refine with_tabW casematelaw06_EccPacks.tab16 casematelaw06_EccPacks.bits16 (fun HT_ HW_ => ?_)
             generalize wc.drew = w55 at HO_11 BK542 HB hHeld ⊢
             refine one_ (i := 0) (N := some 117) #[true, false, false, false, false, false, false, false, false, false, false, false, false, false, false] rfl rfl (one_of HT_.out (by kernel_rfl)) (by decide) (fun K hK => ?_)
             refine goes_ Try.func16 (by kernel_rfl) rfl #[] (by rfl) rfl rfl (by (try simp only [List.map_toArray, List.map_cons, List.map_nil]); first | done | rfl | (simp only [List.length_drop, List.length_take]; rfl)) ?_
             with_reducible refine (casematelaw06_awake.calls kj19  true _ A51.out).mono ?_
             rintro e w56 ⟨rfl, hb⟩
             refine ⟨_, rfl, ?_⟩
             replace HO_11 := uRb HO_11 hb; replace BK542 := uKb BK542 hb; replace HB := uBb HB hb
             have hcv57 := own_string (P := Try.prog) Try.underlying26 Try.underlying5 Try.underlying9 (Kd.own_of_R HO_11.out)
             refine hK.out _ _ ⟨(blk_cell BK542.out 0).trans rfl, (blk_cell BK542.out 1).trans rfl, (blk_cell BK542.out 2).trans rfl, (blk_cell BK542.out 3).trans rfl, (blk_cell BK542.out 4).trans rfl, (by first | exact own_string (P := Try.prog) Try.underlying26 Try.underlying5 Try.underlying9 (Kd.own_of_R HO_11.out) | exact own_string (P := Try.prog) Try.underlying26 Try.underlying5 Try.underlying9 (Kd.own_of_R (Kd.R_drewN HO_11.out _)))⟩ (fun hHeld => ?_)
             clear hK K
             refine uN (some 117) _ ?_
             refine uP HT_ 1 (some 118) (lb 15 3) ?_
             refine uP HT_ 2 (some 119) (lb 15 7) ?_
             refine uP HT_ 3 (some 120) (lb 15 15) ?_
             refine uP HT_ 4 (some 121) (lb 15 31) ?_
             refine uP HT_ 5 (some 122) (lb 15 63) ?_
             refine uP HT_ 6 (some 123) (lb 15 127) ?_
             refine uT HT_ HW_ 7 (some 124) (lb 15 255) rfl hHeld ?_ (by rintro w' ⟨s0, s1, s2, s3, s4, s5⟩; go_simp; with_reducible rfl)
             refine uP HT_ 9 (some 126) (lb 15 767) ?_
             refine uT HT_ HW_ 8 (some 125) (lb 15 1023) rfl hHeld ?_ (by rintro w' ⟨s0, s1, s2, s3, s4, s5⟩; go_simp; with_reducible rfl)
             refine one_ (i := 10) (N := some 127) #[true, true, true, true, true, true, true, true, true, true, true, false, false, false, false] rfl rfl (one_of HT_.out (by kernel_rfl)) (by decide) (fun K hK => ?_)
             refine goes_ Try.func22 (by kernel_rfl) rfl #[.agg #[.int .i64 a0_0, .int .i64 a0_1, .int .i64 a0_2, .int .i64 a0_3, .int .i64 a0_4], .slice A1 l1.length c1] (by rfl) rfl rfl (by (try simp only [List.map_toArray, List.map_cons, List.map_nil]); first | done | rfl | (simp only [List.length_drop, List.length_take]; rfl)) ?_
             with_reducible refine (casemateref06_Pack.calls kj19 a0_0 a0_1 a0_2 a0_3 a0_4 _ _ l1 t564 _ ?side1 ?side2 A54.out).mono ?_
             (case side1 => exact uC (Kd.C_below HR1.out HB.out))
             (case side2 => exact HC1.out)
             rintro e w58 ⟨v565, rfl, ho0, hb⟩
             refine ⟨_, rfl, ?_⟩
             have HO566 := uA (Kd.R_lower (Kd.R_new' ho0 (Kd.R_lt (uR HO_11.out))) (below_size (uB HB.out))); replace HO_11 := uA (Kd.R_elder' (uR HO_11.out) (Kd.R_base ho0) hb); replace BK542 := uKb BK542 hb; replace HB := uBb HB hb
             refine hK.out _ _ ⟨(blk_cell BK542.out 0).trans rfl, (blk_cell BK542.out 1).trans rfl, (blk_cell BK542.out 2).trans rfl, (blk_cell BK542.out 3).trans rfl, (blk_cell BK542.out 4).trans rfl, (by first | exact own_string (P := Try.prog) Try.underlying26 Try.underlying5 Try.underlying9 (Kd.own_of_R HO_11.out) | exact own_string (P := Try.prog) Try.underlying26 Try.underlying5 Try.underlying9 (Kd.own_of_R (Kd.R_drewN HO_11.out _)))⟩ (fun hHeld => ?_)
             clear hK K
             refine uN (some 127) _ ?_
             refine one_ (i := 11) (N := some 128) #[true, true, true, true, true, true, true, true, true, true, true, true, false, false, false] rfl rfl (one_of HT_.out (by kernel_rfl)) (by decide) (fun K hK => ?_)
             have hcv59 := own_string (P := Try.prog) Try.underlying26 Try.underlying5 Try.underlying9 (Kd.own_of_R HO566.out)
             refine value_ (w1 := ?_) (v := ?_) (by rfl) rfl ?_ ?_
             rotate_left 2
             ·go_simp
              constructor
              ·rfl
              ·rfl
             clear hcv59
             refine hK.out _ _ ⟨(blk_cell BK542.out 0).trans rfl, (blk_cell BK542.out 1).trans rfl, (blk_cell BK542.out 2).trans rfl, (blk_cell BK542.out 3).trans rfl, (blk_cell BK542.out 4).trans rfl, (by first | exact own_string (P := Try.prog) Try.underlying26 Try.underlying5 Try.underlying9 (Kd.own_of_R HO_11.out) | exact own_string (P := Try.prog) Try.underlying26 Try.underlying5 Try.underlying9 (Kd.own_of_R (Kd.R_drewN HO_11.out _)))⟩ (fun hHeld => ?_)
             clear hK K
             refine uN (some 128) _ ?_
             refine uP HT_ 12 (some 129) (lb 15 8191) ?_
             refine uP HT_ 13 (some 130) (lb 15 16383) ?_
             refine uP HT_ 14 (some 4) (lb 15 32767) ?_
             refine done_ (done_of HT_.out (by kernel_rfl)) ?_
             try go_wp2
             go_ret
             exact ⟨by first | rfl | (simp [errW_none, errW_some] <;> rfl) | (simp [*, errW_none, errW_some] <;> rfl), uB HB.out⟩
            ·rw [if_neg c53] at H
             (try rw [hr_.out] at H)
             cases H
           ·replace c52 := Bool.eq_false_iff.mpr c52
            subst c52
            have H1 : (some false) = some r := by rw [if_neg (show ¬ (false = true) by decide)] at H; exact H
            rw [hr_.out] at H1
            exact absurd H1 (by simp)
          ·rw [if_neg c50] at H
           have c50b0 : ((l1.length : Int) == t551) = false := beq_eq_false_iff_ne.mpr c50
           have c50b1 : ((l1.length : Int) != t551) = true := bne_iff_ne.mpr c50
           obtain ⟨t567, A65, H⟩ := uO H
           by_cases c66 : t567 = true
           ·subst c66
            replace H := uI rfl H
            by_cases c67 : t558 = 1
            ·rw [if_pos c67] at H
             have c67b0 : (t558 == 1) = true := beq_iff_eq.mpr c67
             have c67b1 : (t558 != 1) = false := bne_eq_false_iff_eq.mpr c67
             clear c67
             obtain rfl := Option.some.inj H
             go_wp2_with (first | ((with_reducible refine gate_callee (f := 16) rfl ?_); refine uG (some 107) Try.func16 #[] ?_; (with_reducible refine (casematelaw06_awake.calls kj19  true _ A65.out).mono ?_); rintro e w68 ⟨rfl, hb⟩; refine ⟨_, rfl, ?_⟩; replace HO_11 := uRb HO_11 hb; replace BK542 := uKb BK542 hb; replace HB := uBb HB hb; obtain ⟨Ao69, co69, eo69⟩ := Kd.R_slice HO_11.out; subst eo69))
             go_ret
             exact ⟨rfl, uB HB.out⟩
            ·rw [if_neg c67] at H
             (try rw [hr_.out] at H)
             cases H
           ·replace c66 := Bool.eq_false_iff.mpr c66
            subst c66
            have H1 : (some false) = some r := by rw [if_neg (show ¬ (false = true) by decide)] at H; exact H
            rw [hr_.out] at H1
            exact absurd H1 (by simp)
      ·replace c19 := Bool.eq_false_iff.mpr c19
       subst c19
       replace H := uJ uN0 H
       obtain ⟨t560, A72, H⟩ := uO H
       by_cases c73 : t560 = true
       ·subst c73
        replace H := uI rfl H
        by_cases c74 : t550 = 1
        ·rw [if_pos c74] at H
         have c74b0 : (t550 == 1) = true := beq_iff_eq.mpr c74
         have c74b1 : (t550 != 1) = false := bne_eq_false_iff_eq.mpr c74
         clear c74
         by_cases c75 : t552 = t550
         ·rw [if_pos c75] at H
          have c75b0 : (t552 == t550) = true := beq_iff_eq.mpr c75
          have c75b1 : (t552 != t550) = false := bne_eq_false_iff_eq.mpr c75
          clear c75
          by_cases c76 : t554 = t550
          ·rw [if_pos c76] at H
           have c76b0 : (t554 == t550) = true := beq_iff_eq.mpr c76
           have c76b1 : (t554 != t550) = false := bne_eq_false_iff_eq.mpr c76
           clear c76
           by_cases c77 : t558 = t550
           ·rw [if_pos c77] at H
            have c77b0 : (t558 == t550) = true := beq_iff_eq.mpr c77
            have c77b1 : (t558 != t550) = false := bne_eq_false_iff_eq.mpr c77
            clear c77
            obtain rfl := Option.some.inj H
            go_wp2_with (first | ((with_reducible refine gate_dst (N := 21) rfl ?_); (try (refine gate_guard (by rfl) ?_; dsimp only)); refine Kd.R_lit (Kd.int .u8) _ 5 ?hg (N := 21) ?hd (xs := ([] : List Int)) (inner := []) (ok := fun _ => True) (okp := fun _ => True) ?hr ?hp (fun _ hk => hk) trivial (Below.refl _ _) (Nat.le_refl _) (by simp) ?_; (case hd => rfl); (case hg => rfl); (case hr => first | (go_simp; done) | (go_simp; rfl)); (case hp => exact (Reps.none _ _)); intro v545 w78 ho79 hb hg_ hnew_; clear hg_ hnew_; (first | rw [← Ny544.out] at ho79 | (simp only [Int.reduceToNat] at ho79; rw [← Ny544.out] at ho79)); have HO546 := uA (Kd.R_lower ho79 (below_size (uB HB.out))); replace BK542 := uKb BK542 hb; replace HB := uBb HB hb; clear hb ho79) | ((with_reducible refine gate_builtin (b := .append) (xs := #[.tmp 21, .tmp 22]) rfl ?_); (try (refine gate_guard (by rfl) ?_; dsimp only)); at_builtin; refine Kd.R_append_rows (Kd.int .u8) (w0 := w) w.heap.size rfl (.tmp 21) (.tmp 22) 26 5 (.int .u8 0) 1 rfl Try.underlying26 info5 rfl (by decide) (by omega) v545 y544 l1 _ _ _ (fun _ => True) (fun _ => False) rfl rfl ?aO ?aR (fun _ _ h => h) (fun _ h => h.elim) ?aF ?aB ?aS ?aL ?_; (case aR => exact uC (Kd.C_below HR1.out HB.out)); (case aB => exact (uB HB.out)); (case aF => exact (fun _ _ => trivial)); (case aO => exact (uR HO546.out)); (case aS => exact (below_size (uB HB.out))); (case aL => have := LMc12.out; omega); intro v548 w80 ho hb hg hat; rw [← Ny547.out] at ho; have n0_ := Aside0.mk (blk_grown (g := gb542) (o := .cells #[.int .i64 a0_0, .int .i64 a0_1, .int .i64 a0_2, .int .i64 a0_3, .int .i64 a0_4] 23 (0, 0)) (uK BK542.out) hg (Kd.R_ne HO546.out BK542.out (by decide))); have n1_ := Aside0.mk (hb); have n2_ := Aside0.mk (ho); clear BK542; clear HB; clear HO546; have BK542 := n0_; have HB := n1_; have HO549 := n2_; clear n0_ n1_ n2_; clear ho hb hg hat; obtain ⟨_, _, _, _, _, _, _, _, _, _⟩ := uZ BK542) | ((with_reducible refine gate_callee (f := 19) rfl ?_); refine uG (some 25) Try.func19 #[.agg #[.int .i64 a0_0, .int .i64 a0_1, .int .i64 a0_2, .int .i64 a0_3, .int .i64 a0_4]] ?_; (with_reducible refine (ecc_Check.calls a0_0 a0_1 a0_2 a0_3 a0_4 t550 _ A13.out).mono ?_); rintro e w82 ⟨rfl, hb⟩; refine ⟨_, rfl, ?_⟩; replace HO549 := uRb HO549 hb; replace BK542 := uKb BK542 hb; replace HB := uBb HB hb; obtain ⟨_, _, _, _, _, _, _, _, _, _⟩ := uZ BK542) | ((with_reducible refine gate_callee (f := 20) rfl ?_); refine uG (some 28) Try.func20 #[.agg #[.int .i64 a0_0, .int .i64 a0_1, .int .i64 a0_2, .int .i64 a0_3, .int .i64 a0_4]] ?_; (with_reducible refine (ecc_Room.calls a0_0 a0_1 a0_2 a0_3 a0_4 t551 t552 _ A14.out).mono ?_); rintro e w84 ⟨rfl, hb⟩; refine ⟨_, rfl, ?_⟩; replace HO549 := uRb HO549 hb; replace BK542 := uKb BK542 hb; replace HB := uBb HB hb; obtain ⟨_, _, _, _, _, _, _, _, _, _⟩ := uZ BK542) | ((with_reducible refine gate_callee (f := 21) rfl ?_); refine uG (some 33) Try.func21 #[.agg #[.int .i64 a0_0, .int .i64 a0_1, .int .i64 a0_2, .int .i64 a0_3, .int .i64 a0_4]] ?_; (with_reducible refine (ecc_Raw.calls a0_0 a0_1 a0_2 a0_3 a0_4 t553 t554 _ A15.out).mono ?_); rintro e w86 ⟨rfl, hb⟩; refine ⟨_, rfl, ?_⟩; replace HO549 := uRb HO549 hb; replace BK542 := uKb BK542 hb; replace HB := uBb HB hb; obtain ⟨_, _, _, _, _, _, _, _, _, _⟩ := uZ BK542; obtain ⟨Ao88, co88, eo88⟩ := Kd.R_slice HO549.out; subst eo88) | ((with_reducible refine gate_callee (f := 18) rfl ?_); refine uG (some 39) Try.func18 #[.agg #[.int .i64 a0_0, .int .i64 a0_1, .int .i64 a0_2, .int .i64 a0_3, .int .i64 a0_4], .slice Ao88 y547.length co88] ?_; (with_reducible refine (ecc_Pack.calls kj2 a0_0 a0_1 a0_2 a0_3 a0_4 (fun k_ => some k_ = (.slice Ao88 y547.length co88 : Value).ownBlock) _ _ y547 t555 t558 _ ?side1 A16.out).mono ?_); (case side1 => exact Kd.R_V (Kd.R_tight rfl (Kd.R_types (HO549.out) BK542.out (by decide)))); rintro e w89 ⟨v556, rfl, ho0, hb⟩; refine ⟨_, rfl, ?_⟩; have HO557 := uA (Kd.R_lower (Kd.R_new' (Kd.R_mono (ok' := fun k_ => True) ho0 (fun _ hk_ => trivial)) (Kd.R_lt (uR HO549.out))) (below_size (uB HB.out))); replace HO549 := uA (Kd.R_elder' (uR HO549.out) (Kd.R_base ho0) hb); replace BK542 := uKb BK542 hb; replace HB := uBb HB hb; have hcv90 := own_string (P := Try.prog) Try.underlying26 Try.underlying5 Try.underlying9 (Kd.own_of_R HO549.out); have hcv91 := Kd.C_string (P := Try.prog) (A := A1) (c := c1) Try.underlying26 Try.underlying5 Try.underlying9 (Kd.C_below HR1.out HB.out); obtain ⟨_, _, _, _, _, _, _, _, _, _⟩ := uZ BK542) | ((with_reducible refine gate_callee (f := 10) rfl ?_); refine uG (some 48) Try.func10 #[.agg #[.int .i64 a0_0, .int .i64 a0_1, .int .i64 a0_2, .int .i64 a0_3, .int .i64 a0_4]] ?_; (with_reducible refine (casemateref06_May.calls a0_0 a0_1 a0_2 a0_3 a0_4 false _ A18.out).mono ?_); rintro e w93 ⟨rfl, hb⟩; refine ⟨_, rfl, ?_⟩; replace HO549 := uRb HO549 hb; replace HO557 := uRb HO557 hb; replace BK542 := uKb BK542 hb; replace HB := uBb HB hb) | ((with_reducible refine gate_callee (f := 16) rfl ?_); refine uG (some 50) Try.func16 #[] ?_; (with_reducible refine (casematelaw06_awake.calls kj2  true _ A72.out).mono ?_); rintro e w94 ⟨rfl, hb⟩; refine ⟨_, rfl, ?_⟩; replace HO549 := uRb HO549 hb; replace HO557 := uRb HO557 hb; replace BK542 := uKb BK542 hb; replace HB := uBb HB hb; obtain ⟨Ao95, co95, eo95⟩ := Kd.R_slice HO557.out; subst eo95))
            go_ret
            exact ⟨rfl, uB HB.out⟩
           ·rw [if_neg c77] at H
            (try rw [hr_.out] at H)
            cases H
          ·rw [if_neg c76] at H
           (try rw [hr_.out] at H)
           cases H
         ·rw [if_neg c75] at H
          (try rw [hr_.out] at H)
          cases H
        ·rw [if_neg c74] at H
         (try rw [hr_.out] at H)
         cases H
       ·replace c73 := Bool.eq_false_iff.mpr c73
        subst c73
        have H1 : (some false) = some r := by rw [if_neg (show ¬ (false = true) by decide)] at H; exact H
        rw [hr_.out] at H1
        exact absurd H1 (by simp)
     ·rw [if_neg c17] at H
      (try rw [hr_.out] at H)
      cases H
    ·rw [if_neg c12] at H
     cases H
def casemateref06_sector.f (a0_0 : Int) (a0_1 : Int) (a0_2 : Int) (a0_3 : Int) (a0_4 : Int) (l1 : List Int) (a2 : Int) : Option (List Int) := (casemateref06_Whole.f a0_0 a0_1 a0_2 a0_3 a0_4).bind fun t => if 0 ≤ wrap64 (a2 * t) then (if wrap64 (a2 * t) ≤ wrap64 (wrap64 (a2 + 1) * t) then (if wrap64 (wrap64 (a2 + 1) * t) ≤ (l1.length : Int) then some ((l1.take (wrap64 (wrap64 (a2 + 1) * t) : Int).toNat).drop (wrap64 (a2 * t) : Int).toNat) else none) else none) else none
mutual
def casemateref06_Marked.l0 : Nat → List Int → Int → Int → Int → Int → Int → Int → Option (Int)
 | 0, _, _, _, _, _, _, _ => none
 | k + 1, x1, x6, x569000, x569001, x569002, x569003, x569004 => if x6 < x569002 then ((casemateref06_sector.f x569000 x569001 x569002 x569003 x569004 x1 x6).bind fun t570 => ((casemateref01_All.f k t570).bind fun t573 => (casemateref06_Marked.l1 k x1 x6 t573 0 0 x569000 x569001 x569002 x569003 x569004))) else (some 61)
def casemateref06_Marked.l1 : Nat → List Int → Int → List Int → Int → Int → Int → Int → Int → Int → Int → Option (Int)
 | 0, _, _, _, _, _, _, _, _, _, _ => none
 | k + 1, x1, x6, x7, x8, x9, x569000, x569001, x569002, x569003, x569004 => if x9 < (x7.length : Int) then (if 0 ≤ x9 then (casemateref06_Marked.l1 k x1 x6 x7 (wrap64 ((wrap64 (x8 + 1)) - (rd x7 x9))) (wrap64 (x9 + 1)) x569000 x569001 x569002 x569003 x569004) else (none)) else (if x8 > x569004 then (some 60) else (casemateref06_Marked.l0 k x1 (wrap64 (x6 + 1)) x569000 x569001 x569002 x569003 x569004))
end
def casemateref06_Marked.f (k : Nat) (a0_0 : Int) (a0_1 : Int) (a0_2 : Int) (a0_3 : Int) (a0_4 : Int) (l1 : List Int) : Option (Int) := if 0 ≤ (wrap64 ((l1.length : Int) - 1)) then (if (wrap64 ((l1.length : Int) - 1)) < (l1.length : Int) then (if (rd l1 (wrap64 ((l1.length : Int) - 1))) = 0 then (some 0) else (if (rd l1 (wrap64 ((l1.length : Int) - 1))) = 255 then (casemateref06_Marked.l0 k l1 0 a0_0 a0_1 a0_2 a0_3 a0_4) else (some 60))) else (none)) else (none)
def casemateref05_Apart.l0 : Nat → List Int → List Int → Int → Int → Option (Int)
 | 0, _, _, _, _ => none
 | k + 1, x0, x1, x5, x6 => if x6 < (x0.length : Int) then (if 0 ≤ x6 then (if x6 < (x1.length : Int) then (if (rd x0 x6) = (rd x1 x6) then (casemateref05_Apart.l0 k x0 x1 x5 (wrap64 (x6 + 1))) else (casemateref05_Apart.l0 k x0 x1 (wrap64 (x5 + 1)) (wrap64 (x6 + 1)))) else (none)) else (none)) else (some x5)
def casemateref05_Apart.f (k : Nat) (l0 : List Int) (l1 : List Int) : Option (Int) := casemateref05_Apart.l0 k l0 l1 0 0
end Go.Proofs.Ytfpdloccmneabaa.P

/- What Go functions of the translation come to, and that their calls come to just that. No condition but that the plain function answers. -/
import Derived.Test.YtfpdloccmneabaaPx0
import Derived.Test.YtfpdloccmneabaaUp
namespace Go.Proofs.Ytfpdloccmneabaa.P
open Go.RowKit Go.Proofs.YtfpdloccmneabaaW.PrintWords Go.Proofs.YtfpdloccmneabaaW.PrintLast Go.Proofs.YtfpdloccmneabaaW.PrintMore
attribute [local go_sem] max2_int min2_int max_two min_two max_three min_three max_four min_four   -- for this text's walks alone
set_option linter.unusedVariables false
set_option linter.unusedSimpArgs false
def casemateref06_May.f (a0_0 : Int) (a0_1 : Int) (a0_2 : Int) (a0_3 : Int) (a0_4 : Int) : Option (Bool) := if a0_0 ≥ 1 then (if a0_0 ≤ 256 then (if a0_1 ≥ 2 then (if a0_1 ≤ 64 then (if a0_2 ≥ 1 then (if a0_2 ≤ 8 then (if a0_3 ≥ 4 then (if a0_3 ≤ 512 then (if (Int.tmod a0_3 4) = 0 then (if a0_4 ≥ 1 then (if a0_4 ≤ 8 then (some (decide ((wrap64 (a0_2 * a0_3)) ≥ 16))) else (some false)) else (some false)) else (some false)) else (some false)) else (some false)) else (some false)) else (some false)) else (some false)) else (some false)) else (some false)) else (some false)
set_option maxHeartbeats 8000000 in
set_option maxRecDepth 100000 in
theorem casemateref06_May.calls (a0_0 : Int) (a0_1 : Int) (a0_2 : Int) (a0_3 : Int) (a0_4 : Int) (r : Bool) (w : World) (h : casemateref06_May.f a0_0 a0_1 a0_2 a0_3 a0_4 = some r) :
  Calls Try.prog 10 #[.agg #[.int .i64 a0_0, .int .i64 a0_1, .int .i64 a0_2, .int .i64 a0_3, .int .i64 a0_4]] w fun e w' => e = .returned (.bool r) ∧ Below w.heap.size w w' := by
 have hu23 := Try.underlying23
 have HB := Aside0.mk (Below.refl w.heap.size w)
 have H := h
 unfold casemateref06_May.f at H
 clear h
 by_cases c2 : a0_0 ≥ 1
 rotate_left
 rw [if_neg c2] at H
 have c2b0 : decide (1 ≤ a0_0) = false := decide_eq_false c2
 clear c2
 obtain rfl := Option.some.inj H
 rotate_right
 rw [if_pos c2] at H
 have c2b0 : decide (1 ≤ a0_0) = true := decide_eq_true c2
 clear c2
 by_cases c3 : a0_0 ≤ 256
 rotate_left
 rw [if_neg c3] at H
 have c3b0 : decide (a0_0 ≤ 256) = false := decide_eq_false c3
 clear c3
 obtain rfl := Option.some.inj H
 rotate_right
 rw [if_pos c3] at H
 have c3b0 : decide (a0_0 ≤ 256) = true := decide_eq_true c3
 clear c3
 by_cases c4 : a0_1 ≥ 2
 rotate_left
 rw [if_neg c4] at H
 have c4b0 : decide (2 ≤ a0_1) = false := decide_eq_false c4
 clear c4
 obtain rfl := Option.some.inj H
 rotate_right
 rw [if_pos c4] at H
 have c4b0 : decide (2 ≤ a0_1) = true := decide_eq_true c4
 clear c4
 by_cases c5 : a0_1 ≤ 64
 rotate_left
 rw [if_neg c5] at H
 have c5b0 : decide (a0_1 ≤ 64) = false := decide_eq_false c5
 clear c5
 obtain rfl := Option.some.inj H
 rotate_right
 rw [if_pos c5] at H
 have c5b0 : decide (a0_1 ≤ 64) = true := decide_eq_true c5
 clear c5
 by_cases c6 : a0_2 ≥ 1
 rotate_left
 rw [if_neg c6] at H
 have c6b0 : decide (1 ≤ a0_2) = false := decide_eq_false c6
 clear c6
 obtain rfl := Option.some.inj H
 rotate_right
 rw [if_pos c6] at H
 have c6b0 : decide (1 ≤ a0_2) = true := decide_eq_true c6
 clear c6
 by_cases c7 : a0_2 ≤ 8
 rotate_left
 rw [if_neg c7] at H
 have c7b0 : decide (a0_2 ≤ 8) = false := decide_eq_false c7
 clear c7
 obtain rfl := Option.some.inj H
 rotate_right
 rw [if_pos c7] at H
 have c7b0 : decide (a0_2 ≤ 8) = true := decide_eq_true c7
 clear c7
 by_cases c8 : a0_3 ≥ 4
 rotate_left
 rw [if_neg c8] at H
 have c8b0 : decide (4 ≤ a0_3) = false := decide_eq_false c8
 clear c8
 obtain rfl := Option.some.inj H
 rotate_right
 rw [if_pos c8] at H
 have c8b0 : decide (4 ≤ a0_3) = true := decide_eq_true c8
 clear c8
 by_cases c9 : a0_3 ≤ 512
 rotate_left
 rw [if_neg c9] at H
 have c9b0 : decide (a0_3 ≤ 512) = false := decide_eq_false c9
 clear c9
 obtain rfl := Option.some.inj H
 rotate_right
 rw [if_pos c9] at H
 have c9b0 : decide (a0_3 ≤ 512) = true := decide_eq_true c9
 clear c9
 by_cases c10 : (Int.tmod a0_3 4) = 0
 rotate_left
 rw [if_neg c10] at H
 have c10b0 : ((Int.tmod a0_3 4) == 0) = false := beq_eq_false_iff_ne.mpr c10
 have c10b1 : ((Int.tmod a0_3 4) != 0) = true := bne_iff_ne.mpr c10
 obtain rfl := Option.some.inj H
 rotate_right
 rw [if_pos c10] at H
 have c10b0 : ((Int.tmod a0_3 4) == 0) = true := beq_iff_eq.mpr c10
 have c10b1 : ((Int.tmod a0_3 4) != 0) = false := bne_eq_false_iff_eq.mpr c10
 clear c10
 by_cases c11 : a0_4 ≥ 1
 rotate_left
 rw [if_neg c11] at H
 have c11b0 : decide (1 ≤ a0_4) = false := decide_eq_false c11
 clear c11
 obtain rfl := Option.some.inj H
 rotate_right
 rw [if_pos c11] at H
 have c11b0 : decide (1 ≤ a0_4) = true := decide_eq_true c11
 clear c11
 by_cases c12 : a0_4 ≤ 8
 rotate_left
 rw [if_neg c12] at H
 have c12b0 : decide (a0_4 ≤ 8) = false := decide_eq_false c12
 clear c12
 obtain rfl := Option.some.inj H
 rotate_right
 rw [if_pos c12] at H
 have c12b0 : decide (a0_4 ≤ 8) = true := decide_eq_true c12
 clear c12
 obtain rfl := Option.some.inj H
 all_goals
  go_enter Try.func10, Try.ntmps10
  go_wp2_with (first | ((with_reducible refine gate_dst (N := 1) rfl ?_); refine uX 1 #[.int .i64 a0_0, .int .i64 a0_1, .int .i64 a0_2, .int .i64 a0_3, .int .i64 a0_4] 23 ?_; intro gb101 hg w35 hbox hb; have BK101 := uA hbox; have GW101 := uGe HB hg; have GE101 := uGe HB hg; replace HB := uBb HB hb; clear hg; obtain ⟨_, _, _, _, _, _, _, _, _, _⟩ := uZ BK101))
  go_ret
  exact ⟨rfl, uB HB.out⟩
def casemateref06_Room.f (a0_0 : Int) (a0_1 : Int) (a0_2 : Int) (a0_3 : Int) (a0_4 : Int) : Option (Int) := some (wrap64 (a0_2 * a0_3))
set_option maxHeartbeats 8000000 in
set_option maxRecDepth 100000 in
theorem casemateref06_Room.calls (a0_0 : Int) (a0_1 : Int) (a0_2 : Int) (a0_3 : Int) (a0_4 : Int) (r : Int) (w : World) (h : casemateref06_Room.f a0_0 a0_1 a0_2 a0_3 a0_4 = some r) :
  Calls Try.prog 17 #[.agg #[.int .i64 a0_0, .int .i64 a0_1, .int .i64 a0_2, .int .i64 a0_3, .int .i64 a0_4]] w fun e w' => e = .returned (.int .i64 r) ∧ Below w.heap.size w w' := by
 have hu23 := Try.underlying23
 have HB := Aside0.mk (Below.refl w.heap.size w)
 have H : (some (wrap64 (a0_2 * a0_3))) = some r := h
 clear h
 obtain rfl := Option.some.inj H
 go_enter Try.func17, Try.ntmps17
 go_wp2_with (first | ((with_reducible refine gate_dst (N := 1) rfl ?_); refine uX 1 #[.int .i64 a0_0, .int .i64 a0_1, .int .i64 a0_2, .int .i64 a0_3, .int .i64 a0_4] 23 ?_; intro gb102 hg w2 hbox hb; have BK102 := uA hbox; have GW102 := uGe HB hg; have GE102 := uGe HB hg; replace HB := uBb HB hb; clear hg; obtain ⟨_, _, _, _, _, _, _, _, _, _⟩ := uZ BK102))
 go_ret
 exact ⟨rfl, uB HB.out⟩
def casematelaw06_small.f (a0_0 : Int) (a0_1 : Int) (a0_2 : Int) (a0_3 : Int) (a0_4 : Int) : Option (Bool) := (casemateref06_May.f a0_0 a0_1 a0_2 a0_3 a0_4).bind fun t104 => (if t104 = true then ((casemateref06_Room.f a0_0 a0_1 a0_2 a0_3 a0_4).bind fun t105 => (some (decide (t105 ≤ 64)))) else (some true))
set_option maxHeartbeats 8000000 in
set_option maxRecDepth 100000 in
theorem casematelaw06_small.calls (a0_0 : Int) (a0_1 : Int) (a0_2 : Int) (a0_3 : Int) (a0_4 : Int) (r : Bool) (w : World) (h : casematelaw06_small.f a0_0 a0_1 a0_2 a0_3 a0_4 = some r) :
  Calls Try.prog 9 #[.agg #[.int .i64 a0_0, .int .i64 a0_1, .int .i64 a0_2, .int .i64 a0_3, .int .i64 a0_4]] w fun e w' => e = .returned (.bool r) ∧ Below w.heap.size w w' := by
 have hu23 := Try.underlying23
 have HB := Aside0.mk (Below.refl w.heap.size w)
 have H := h
 unfold casematelaw06_small.f at H
 clear h
 obtain ⟨t104, A2, H⟩ := uO H
 by_cases c3 : t104 = true
 ·subst c3
  replace H := uI rfl H
  obtain ⟨t105, A4, H⟩ := uO H
  obtain rfl := Option.some.inj H
  go_enter Try.func9, Try.ntmps9
  go_wp2_with (first | ((with_reducible refine gate_dst (N := 1) rfl ?_); refine uX 1 #[.int .i64 a0_0, .int .i64 a0_1, .int .i64 a0_2, .int .i64 a0_3, .int .i64 a0_4] 23 ?_; intro gb103 hg w5 hbox hb; have BK103 := uA hbox; have GW103 := uGe HB hg; have GE103 := uGe HB hg; replace HB := uBb HB hb; clear hg; obtain ⟨_, _, _, _, _, _, _, _, _, _⟩ := uZ BK103) | ((with_reducible refine gate_callee (f := 10) rfl ?_); refine uG (some 4) Try.func10 #[.agg #[.int .i64 a0_0, .int .i64 a0_1, .int .i64 a0_2, .int .i64 a0_3, .int .i64 a0_4]] ?_; (with_reducible refine (casemateref06_May.calls a0_0 a0_1 a0_2 a0_3 a0_4 true _ A2.out).mono ?_); rintro e w7 ⟨rfl, hb⟩; refine ⟨_, rfl, ?_⟩; replace BK103 := uKb BK103 hb; replace HB := uBb HB hb; obtain ⟨_, _, _, _, _, _, _, _, _, _⟩ := uZ BK103) | (go_at_call 17; (with_reducible refine (casemateref06_Room.calls a0_0 a0_1 a0_2 a0_3 a0_4 t105 _ A4.out).mono ?_); rintro e w9 ⟨rfl, hb⟩; replace BK103 := uKb BK103 hb; replace HB := uBb HB hb))
  go_ret
  exact ⟨rfl, uB HB.out⟩
 ·replace c3 := Bool.eq_false_iff.mpr c3
  subst c3
  replace H := uJ uN0 H
  obtain rfl := Option.some.inj H
  go_enter Try.func9, Try.ntmps9
  go_wp2_with (first | ((with_reducible refine gate_dst (N := 1) rfl ?_); refine uX 1 #[.int .i64 a0_0, .int .i64 a0_1, .int .i64 a0_2, .int .i64 a0_3, .int .i64 a0_4] 23 ?_; intro gb103 hg w10 hbox hb; have BK103 := uA hbox; have GW103 := uGe HB hg; have GE103 := uGe HB hg; replace HB := uBb HB hb; clear hg; obtain ⟨_, _, _, _, _, _, _, _, _, _⟩ := uZ BK103) | ((with_reducible refine gate_callee (f := 10) rfl ?_); refine uG (some 4) Try.func10 #[.agg #[.int .i64 a0_0, .int .i64 a0_1, .int .i64 a0_2, .int .i64 a0_3, .int .i64 a0_4]] ?_; (with_reducible refine (casemateref06_May.calls a0_0 a0_1 a0_2 a0_3 a0_4 false _ A2.out).mono ?_); rintro e w12 ⟨rfl, hb⟩; refine ⟨_, rfl, ?_⟩; replace BK103 := uKb BK103 hb; replace HB := uBb HB hb))
  go_ret
  exact ⟨rfl, uB HB.out⟩
def casemateref05_Bytes.f (a0 : Int) : Option (Int) := some (wrap64 (Int.tdiv (wrap64 ((wrap64 (13 * a0)) + 7)) 8))
set_option maxHeartbeats 8000000 in
set_option maxRecDepth 100000 in
theorem casemateref05_Bytes.calls (a0 : Int) (r : Int) (w : World) (h : casemateref05_Bytes.f a0 = some r) :
  Calls Try.prog 25 #[.int .i64 a0] w fun e w' => e = .returned (.int .i64 r) ∧ Drawn0 w w' := by
 have H : (some (wrap64 (Int.tdiv (wrap64 ((wrap64 (13 * a0)) + 7)) 8))) = some r := h
 clear h
 obtain rfl := Option.some.inj H
 go_enter Try.func25, Try.ntmps25
 go_wp2
 go_ret
 exact ⟨by first | rfl | (simp; done) | (simp [*]; done), by repeat (first | exact Drawn0.refl _ | apply Drawn0.step)⟩
def casemateref06_Whole.f (a0_0 : Int) (a0_1 : Int) (a0_2 : Int) (a0_3 : Int) (a0_4 : Int) : Option (Int) := (casemateref05_Bytes.f a0_4).bind fun t107 => (some (wrap64 (a0_3 + t107)))
set_option maxHeartbeats 8000000 in
set_option maxRecDepth 100000 in
theorem casemateref06_Whole.calls (a0_0 : Int) (a0_1 : Int) (a0_2 : Int) (a0_3 : Int) (a0_4 : Int) (r : Int) (w : World) (h : casemateref06_Whole.f a0_0 a0_1 a0_2 a0_3 a0_4 = some r) :
  Calls Try.prog 11 #[.agg #[.int .i64 a0_0, .int .i64 a0_1, .int .i64 a0_2, .int .i64 a0_3, .int .i64 a0_4]] w fun e w' => e = .returned (.int .i64 r) ∧ Below w.heap.size w w' := by
 have hu23 := Try.underlying23
 have HB := Aside0.mk (Below.refl w.heap.size w)
 have H := h
 unfold casemateref06_Whole.f at H
 clear h
 obtain ⟨t107, A2, H⟩ := uO H
 obtain rfl := Option.some.inj H
 go_enter Try.func11, Try.ntmps11
 go_wp2_with (first | ((with_reducible refine gate_dst (N := 1) rfl ?_); refine uX 1 #[.int .i64 a0_0, .int .i64 a0_1, .int .i64 a0_2, .int .i64 a0_3, .int .i64 a0_4] 23 ?_; intro gb106 hg w3 hbox hb; have BK106 := uA hbox; have GW106 := uGe HB hg; have GE106 := uGe HB hg; replace HB := uBb HB hb; clear hg; obtain ⟨_, _, _, _, _, _, _, _, _, _⟩ := uZ BK106) | (go_at_call 25; (with_reducible refine (casemateref05_Bytes.calls a0_4 t107 _ A2.out).mono ?_); rintro e w' ⟨rfl, ⟨nd, rfl⟩⟩; (try first | exact ⟨rfl, _, World.drewN_drewN _ _ _⟩ | exact ⟨rfl, _, Eq.trans (World.drewN_drewN _ _ _) (congrArg (World.drewN _) (Nat.add_assoc _ _ _))⟩)))
 repeat (go_quiet (first | ((with_reducible refine gate_dst (N := 1) rfl ?_); refine uX 1 #[.int .i64 a0_0, .int .i64 a0_1, .int .i64 a0_2, .int .i64 a0_3, .int .i64 a0_4] 23 ?_; intro gb106 hg w3 hbox hb; have BK106 := uA hbox; have GW106 := uGe HB hg; have GE106 := uGe HB hg; replace HB := uBb HB hb; clear hg; obtain ⟨_, _, _, _, _, _, _, _, _, _⟩ := uZ BK106) | (go_at_call 25; (with_reducible refine (casemateref05_Bytes.calls a0_4 t107 _ A2.out).mono ?_); rintro e w' ⟨rfl, ⟨nd, rfl⟩⟩; (try first | exact ⟨rfl, _, World.drewN_drewN _ _ _⟩ | exact ⟨rfl, _, Eq.trans (World.drewN_drewN _ _ _) (congrArg (World.drewN _) (Nat.add_assoc _ _ _))⟩))); try go_wp2_with (first | ((with_reducible refine gate_dst (N := 1) rfl ?_); refine uX 1 #[.int .i64 a0_0, .int .i64 a0_1, .int .i64 a0_2, .int .i64 a0_3, .int .i64 a0_4] 23 ?_; intro gb106 hg w3 hbox hb; have BK106 := uA hbox; have GW106 := uGe HB hg; have GE106 := uGe HB hg; replace HB := uBb HB hb; clear hg; obtain ⟨_, _, _, _, _, _, _, _, _, _⟩ := uZ BK106) | (go_at_call 25; (with_reducible refine (casemateref05_Bytes.calls a0_4 t107 _ A2.out).mono ?_); rintro e w' ⟨rfl, ⟨nd, rfl⟩⟩; (try first | exact ⟨rfl, _, World.drewN_drewN _ _ _⟩ | exact ⟨rfl, _, Eq.trans (World.drewN_drewN _ _ _) (congrArg (World.drewN _) (Nat.add_assoc _ _ _))⟩))))
 go_ret
 exact ⟨rfl, uB HB.out⟩
def casemateref06_Raw.f (a0_0 : Int) (a0_1 : Int) (a0_2 : Int) (a0_3 : Int) (a0_4 : Int) : Option (Int) := (casemateref06_Whole.f a0_0 a0_1 a0_2 a0_3 a0_4).bind fun t109 => (some (wrap64 ((wrap64 (a0_2 * t109)) + 1)))
set_option maxHeartbeats 8000000 in
set_option maxRecDepth 100000 in
theorem casemateref06_Raw.calls (a0_0 : Int) (a0_1 : Int) (a0_2 : Int) (a0_3 : Int) (a0_4 : Int) (r : Int) (w : World) (h : casemateref06_Raw.f a0_0 a0_1 a0_2 a0_3 a0_4 = some r) :
  Calls Try.prog 12 #[.agg #[.int .i64 a0_0, .int .i64 a0_1, .int .i64 a0_2, .int .i64 a0_3, .int .i64 a0_4]] w fun e w' => e = .returned (.int .i64 r) ∧ Below w.heap.size w w' := by
 have hu23 := Try.underlying23
 have HB := Aside0.mk (Below.refl w.heap.size w)
 have H := h
 unfold casemateref06_Raw.f at H
 clear h
 obtain ⟨t109, A2, H⟩ := uO H
 obtain rfl := Option.some.inj H
 go_enter Try.func12, Try.ntmps12
 try go_wp2_with (first | ((with_reducible refine gate_dst (N := 1) rfl ?_); refine uX 1 #[.int .i64 a0_0, .int .i64 a0_1, .int .i64 a0_2, .int .i64 a0_3, .int .i64 a0_4] 23 ?_; intro gb108 hg w3 hbox hb; have BK108 := uA hbox; have GW108 := uGe HB hg; have GE108 := uGe HB hg; replace HB := uBb HB hb; clear hg))
 replace BK108 := uA (blk_drew BK108.out); replace HB := uA (below_drew1 HB.out)
 refine start_ (n := 7) (S := fun w' => w'.cell? ⟨gb108, 0, none⟩ = some (.int .i64 a0_0) ∧ w'.cell? ⟨gb108, 1, none⟩ = some (.int .i64 a0_1) ∧ w'.cell? ⟨gb108, 2, none⟩ = some (.int .i64 a0_2) ∧ w'.cell? ⟨gb108, 3, none⟩ = some (.int .i64 a0_3) ∧ w'.cell? ⟨gb108, 4, none⟩ = some (.int .i64 a0_4)) (ds := []) #[false, false, false, false, false, false, false] (by kernel_rfl) rfl rfl ⟨(blk_cell BK108.out 0).trans rfl, (blk_cell BK108.out 1).trans rfl, (blk_cell BK108.out 2).trans rfl, (blk_cell BK108.out 3).trans rfl, (blk_cell BK108.out 4).trans rfl⟩ (fun hHeld => ?_)
 generalize w3.drew = w4 at BK108 HB hHeld ⊢
 refine pure_ (i := 0) (N := some 3) (v := ?_) (a' := ?_) #[true, false, false, false, false, false, false] rfl rfl (by kernel_rfl) (fun _ _ _ h => h) (Or.inl ⟨by rfl, ?_⟩) ?_ ?_
 rotate_left; (intro w'; go_simp; with_reducible rfl)
 rotate_left; (simp only [Act.put, List.setIfInBounds_toArray, List.set_cons_zero, List.set_cons_succ, i64_w, i32_w]; rfl)
 refine take_ (i := 1) (N := some 4) (v := ?_) (a' := ?_) #[true, true, false, false, false, false, false] rfl rfl (by kernel_rfl) (fun _ _ _ h => h) (Or.inl ⟨by rfl, ?_⟩) hHeld ?_ ?_
 rotate_left; (rintro w' ⟨s0, s1, s2, s3, s4⟩; go_simp; with_reducible rfl)
 rotate_left; (simp only [Act.put, List.setIfInBounds_toArray, List.set_cons_zero, List.set_cons_succ, i64_w, i32_w]; rfl)
 refine take_ (i := 2) (N := some 5) (v := ?_) (a' := ?_) #[true, true, true, false, false, false, false] rfl rfl (by kernel_rfl) (fun _ _ _ h => h) (Or.inl ⟨by rfl, ?_⟩) hHeld ?_ ?_
 rotate_left; (rintro w' ⟨s0, s1, s2, s3, s4⟩; go_simp; with_reducible rfl)
 rotate_left; (simp only [Act.put, List.setIfInBounds_toArray, List.set_cons_zero, List.set_cons_succ, i64_w, i32_w]; rfl)
 refine one_ (i := 3) (N := some 6) #[true, true, true, true, false, false, false] rfl rfl (by kernel_rfl) (by decide) (fun K hK => ?_)
 refine goes_ Try.func11 (by kernel_rfl) rfl #[.agg #[.int .i64 a0_0, .int .i64 a0_1, .int .i64 a0_2, .int .i64 a0_3, .int .i64 a0_4]] (by rfl) rfl rfl (by (try simp only [List.map_toArray, List.map_cons, List.map_nil]); first | done | rfl | (simp only [List.length_drop, List.length_take]; rfl)) ?_
 with_reducible refine (casemateref06_Whole.calls a0_0 a0_1 a0_2 a0_3 a0_4 t109 _ A2.out).mono ?_
 rintro e w5 ⟨rfl, hb⟩
 refine ⟨_, rfl, ?_⟩
 replace BK108 := uKb BK108 hb; replace HB := uBb HB hb
 refine hK.out _ _ ⟨(blk_cell BK108.out 0).trans rfl, (blk_cell BK108.out 1).trans rfl, (blk_cell BK108.out 2).trans rfl, (blk_cell BK108.out 3).trans rfl, (blk_cell BK108.out 4).trans rfl⟩ (fun hHeld => ?_)
 clear hK K
 refine uN (some 6) _ ?_
 refine pure_ (i := 4) (N := some 7) (v := ?_) (a' := ?_) #[true, true, true, true, true, false, false] rfl rfl (by kernel_rfl) (fun _ _ _ h => h) (Or.inl ⟨by rfl, ?_⟩) ?_ ?_
 rotate_left; (intro w'; go_simp; with_reducible rfl)
 rotate_left; (simp only [Act.put, List.setIfInBounds_toArray, List.set_cons_zero, List.set_cons_succ, i64_w, i32_w]; rfl)
 refine pure_ (i := 5) (N := some 8) (v := ?_) (a' := ?_) #[true, true, true, true, true, true, false] rfl rfl (by kernel_rfl) (fun _ _ _ h => h) (Or.inl ⟨by rfl, ?_⟩) ?_ ?_
 rotate_left; (intro w'; go_simp; with_reducible rfl)
 rotate_left; (simp only [Act.put, List.setIfInBounds_toArray, List.set_cons_zero, List.set_cons_succ, i64_w, i32_w]; rfl)
 refine pure_ (i := 6) (N := some 2) (v := ?_) (a' := ?_) #[true, true, true, true, true, true, true] rfl rfl (by kernel_rfl) (fun _ _ _ h => h) (Or.inl ⟨by rfl, ?_⟩) ?_ ?_
 rotate_left; (intro w'; go_simp; with_reducible rfl)
 rotate_left; (simp only [Act.put, List.setIfInBounds_toArray, List.set_cons_zero, List.set_cons_succ, i64_w, i32_w]; rfl)
 refine done_ (by kernel_rfl) ?_
 try go_wp2
 go_ret
 exact ⟨rfl, uB HB.out⟩
def ecc_within.f (a0 : Int) (a1 : Int) (a2 : Int) : Option (Bool) := if a0 ≥ a1 then (some (decide (a0 ≤ a2))) else (some false)
set_option maxHeartbeats 8000000 in
set_option maxRecDepth 100000 in
theorem ecc_within.calls (a0 : Int) (a1 : Int) (a2 : Int) (r : Bool) (w : World) (h : ecc_within.f a0 a1 a2 = some r) :
  Calls Try.prog 31 #[.int .i64 a0, .int .i64 a1, .int .i64 a2] w fun e w' => e = .returned (.bool r) ∧ Drawn0 w w' := by
 have H : (if a0 ≥ a1 then (some (decide (a0 ≤ a2))) else (some false)) = some r := h
 clear h
 by_cases c4 : a0 ≥ a1
 ·rw [if_pos c4] at H
  have c4b0 : decide (a1 ≤ a0) = true := decide_eq_true c4
  clear c4
  obtain rfl := Option.some.inj H
  go_enter Try.func31, Try.ntmps31
  go_wp2
  go_ret
  exact ⟨by first | rfl | (simp; done) | (simp [*]; done), by repeat (first | exact Drawn0.refl _ | apply Drawn0.step)⟩
 ·rw [if_neg c4] at H
  have c4b0 : decide (a1 ≤ a0) = false := decide_eq_false c4
  clear c4
  obtain rfl := Option.some.inj H
  go_enter Try.func31, Try.ntmps31
  go_wp2
  go_ret
  exact ⟨by first | rfl | (simp; done) | (simp [*]; done), by repeat (first | exact Drawn0.refl _ | apply Drawn0.step)⟩
def ecc_Check.f (a0_0 : Int) (a0_1 : Int) (a0_2 : Int) (a0_3 : Int) (a0_4 : Int) : Option (Int) := (ecc_within.f a0_0 1 256).bind fun t111 => (if t111 = true then ((ecc_within.f a0_1 2 64).bind fun t112 => (if t112 = true then ((ecc_within.f a0_2 1 8).bind fun t113 => (if t113 = true then ((ecc_within.f a0_3 4 512).bind fun t114 => (if t114 = true then (if (Int.tmod a0_3 4) = 0 then ((ecc_within.f a0_4 1 8).bind fun t115 => (if t115 = true then (if ((wrap64 (a0_2 * a0_3)) ≥ 16) then (some 0) else (some 1)) else (some 1))) else (some 1)) else (some 1))) else (some 1))) else (some 1))) else (some 1))
set_option maxHeartbeats 8000000 in
set_option maxRecDepth 100000 in
theorem ecc_Check.calls (a0_0 : Int) (a0_1 : Int) (a0_2 : Int) (a0_3 : Int) (a0_4 : Int) (r : Int) (w : World) (h : ecc_Check.f a0_0 a0_1 a0_2 a0_3 a0_4 = some r) :
  Calls Try.prog 19 #[.agg #[.int .i64 a0_0, .int .i64 a0_1, .int .i64 a0_2, .int .i64 a0_3, .int .i64 a0_4]] w fun e w' => e = .returned (.int .i64 r) ∧ Below w.heap.size w w' := by
 have hu23 := Try.underlying23
 have HB := Aside0.mk (Below.refl w.heap.size w)
 have H := h
 unfold ecc_Check.f at H
 clear h
 obtain ⟨t111, A2, H⟩ := uO H
 by_cases c3 : t111 = true
 ·subst c3
  replace H := uI rfl H
  obtain ⟨t112, A4, H⟩ := uO H
  by_cases c5 : t112 = true
  ·subst c5
   replace H := uI rfl H
   obtain ⟨t113, A6, H⟩ := uO H
   by_cases c7 : t113 = true
   ·subst c7
    replace H := uI rfl H
    obtain ⟨t114, A8, H⟩ := uO H
    by_cases c9 : t114 = true
    ·subst c9
     replace H := uI rfl H
     by_cases c10 : (Int.tmod a0_3 4) = 0
     ·rw [if_pos c10] at H
      have c10b0 : ((Int.tmod a0_3 4) == 0) = true := beq_iff_eq.mpr c10
      have c10b1 : ((Int.tmod a0_3 4) != 0) = false := bne_eq_false_iff_eq.mpr c10
      clear c10
      obtain ⟨t115, A11, H⟩ := uO H
      by_cases c12 : t115 = true
      ·subst c12
       replace H := uI rfl H
       by_cases c13 : ((wrap64 (a0_2 * a0_3)) ≥ 16)
       ·rw [if_pos c13] at H
        have c13b0 : decide (16 ≤ (wrap64 (a0_2 * a0_3))) = true := decide_eq_true c13
        clear c13
        obtain rfl := Option.some.inj H
        go_enter Try.func19, Try.ntmps19
        go_wp2_with (first | ((with_reducible refine gate_dst (N := 1) rfl ?_); refine uX 1 #[.int .i64 a0_0, .int .i64 a0_1, .int .i64 a0_2, .int .i64 a0_3, .int .i64 a0_4] 23 ?_; intro gb110 hg w14 hbox hb; have BK110 := uA hbox; have GW110 := uGe HB hg; have GE110 := uGe HB hg; replace HB := uBb HB hb; clear hg; obtain ⟨_, _, _, _, _, _, _, _, _, _⟩ := uZ BK110) | ((with_reducible refine gate_callee (f := 31) rfl ?_); refine uG (some 6) Try.func31 #[.int .i64 a0_0, .int .i64 1, .int .i64 256] ?_; (with_reducible refine (ecc_within.calls a0_0 1 256 true _ A2.out).mono ?_); rintro e w' ⟨rfl, ⟨nd, rfl⟩⟩; refine ⟨_, rfl, ?_⟩) | (go_at_call 31; (with_reducible refine (ecc_within.calls a0_1 2 64 true _ A4.out).mono ?_); rintro e w' ⟨rfl, ⟨nd, rfl⟩⟩) | (go_at_call 31; (with_reducible refine (ecc_within.calls a0_2 1 8 true _ A6.out).mono ?_); rintro e w' ⟨rfl, ⟨nd, rfl⟩⟩) | (go_at_call 31; (with_reducible refine (ecc_within.calls a0_3 4 512 true _ A8.out).mono ?_); rintro e w' ⟨rfl, ⟨nd, rfl⟩⟩) | (go_at_call 31; (with_reducible refine (ecc_within.calls a0_4 1 8 true _ A11.out).mono ?_); rintro e w' ⟨rfl, ⟨nd, rfl⟩⟩))
        go_ret
        exact ⟨rfl, uB HB.out⟩
       ·rw [if_neg c13] at H
        have c13b0 : decide (16 ≤ (wrap64 (a0_2 * a0_3))) = false := decide_eq_false c13
        clear c13
        obtain rfl := Option.some.inj H
        go_enter Try.func19, Try.ntmps19
        go_wp2_with (first | ((with_reducible refine gate_dst (N := 1) rfl ?_); refine uX 1 #[.int .i64 a0_0, .int .i64 a0_1, .int .i64 a0_2, .int .i64 a0_3, .int .i64 a0_4] 23 ?_; intro gb110 hg w16 hbox hb; have BK110 := uA hbox; have GW110 := uGe HB hg; have GE110 := uGe HB hg; replace HB := uBb HB hb; clear hg; obtain ⟨_, _, _, _, _, _, _, _, _, _⟩ := uZ BK110) | ((with_reducible refine gate_callee (f := 31) rfl ?_); refine uG (some 6) Try.func31 #[.int .i64 a0_0, .int .i64 1, .int .i64 256] ?_; (with_reducible refine (ecc_within.calls a0_0 1 256 true _ A2.out).mono ?_); rintro e w' ⟨rfl, ⟨nd, rfl⟩⟩; refine ⟨_, rfl, ?_⟩) | (go_at_call 31; (with_reducible refine (ecc_within.calls a0_1 2 64 true _ A4.out).mono ?_); rintro e w' ⟨rfl, ⟨nd, rfl⟩⟩) | (go_at_call 31; (with_reducible refine (ecc_within.calls a0_2 1 8 true _ A6.out).mono ?_); rintro e w' ⟨rfl, ⟨nd, rfl⟩⟩) | (go_at_call 31; (with_reducible refine (ecc_within.calls a0_3 4 512 true _ A8.out).mono ?_); rintro e w' ⟨rfl, ⟨nd, rfl⟩⟩) | (go_at_call 31; (with_reducible refine (ecc_within.calls a0_4 1 8 true _ A11.out).mono ?_); rintro e w' ⟨rfl, ⟨nd, rfl⟩⟩))
        go_ret
        exact ⟨rfl, uB HB.out⟩
      ·replace c12 := Bool.eq_false_iff.mpr c12
       subst c12
       replace H := uJ uN0 H
       obtain rfl := Option.some.inj H
       go_enter Try.func19, Try.ntmps19
       go_wp2_with (first | ((with_reducible refine gate_dst (N := 1) rfl ?_); refine uX 1 #[.int .i64 a0_0, .int .i64 a0_1, .int .i64 a0_2, .int .i64 a0_3, .int .i64 a0_4] 23 ?_; intro gb110 hg w18 hbox hb; have BK110 := uA hbox; have GW110 := uGe HB hg; have GE110 := uGe HB hg; replace HB := uBb HB hb; clear hg; obtain ⟨_, _, _, _, _, _, _, _, _, _⟩ := uZ BK110) | ((with_reducible refine gate_callee (f := 31) rfl ?_); refine uG (some 6) Try.func31 #[.int .i64 a0_0, .int .i64 1, .int .i64 256] ?_; (with_reducible refine (ecc_within.calls a0_0 1 256 true _ A2.out).mono ?_); rintro e w' ⟨rfl, ⟨nd, rfl⟩⟩; refine ⟨_, rfl, ?_⟩) | (go_at_call 31; (with_reducible refine (ecc_within.calls a0_1 2 64 true _ A4.out).mono ?_); rintro e w' ⟨rfl, ⟨nd, rfl⟩⟩) | (go_at_call 31; (with_reducible refine (ecc_within.calls a0_2 1 8 true _ A6.out).mono ?_); rintro e w' ⟨rfl, ⟨nd, rfl⟩⟩) | (go_at_call 31; (with_reducible refine (ecc_within.calls a0_3 4 512 true _ A8.out).mono ?_); rintro e w' ⟨rfl, ⟨nd, rfl⟩⟩) | (go_at_call 31; (with_reducible refine (ecc_within.calls a0_4 1 8 false _ A11.out).mono ?_); rintro e w' ⟨rfl, ⟨nd, rfl⟩⟩))
       go_ret
       exact ⟨rfl, uB HB.out⟩
     ·rw [if_neg c10] at H
      have c10b0 : ((Int.tmod a0_3 4) == 0) = false := beq_eq_false_iff_ne.mpr c10
      have c10b1 : ((Int.tmod a0_3 4) != 0) = true := bne_iff_ne.mpr c10
      obtain rfl := Option.some.inj H
      go_enter Try.func19, Try.ntmps19
      go_wp2_with (first | ((with_reducible refine gate_dst (N := 1) rfl ?_); refine uX 1 #[.int .i64 a0_0, .int .i64 a0_1, .int .i64 a0_2, .int .i64 a0_3, .int .i64 a0_4] 23 ?_; intro gb110 hg w20 hbox hb; have BK110 := uA hbox; have GW110 := uGe HB hg; have GE110 := uGe HB hg; replace HB := uBb HB hb; clear hg; obtain ⟨_, _, _, _, _, _, _, _, _, _⟩ := uZ BK110) | ((with_reducible refine gate_callee (f := 31) rfl ?_); refine uG (some 6) Try.func31 #[.int .i64 a0_0, .int .i64 1, .int .i64 256] ?_; (with_reducible refine (ecc_within.calls a0_0 1 256 true _ A2.out).mono ?_); rintro e w' ⟨rfl, ⟨nd, rfl⟩⟩; refine ⟨_, rfl, ?_⟩) | (go_at_call 31; (with_reducible refine (ecc_within.calls a0_1 2 64 true _ A4.out).mono ?_); rintro e w' ⟨rfl, ⟨nd, rfl⟩⟩) | (go_at_call 31; (with_reducible refine (ecc_within.calls a0_2 1 8 true _ A6.out).mono ?_); rintro e w' ⟨rfl, ⟨nd, rfl⟩⟩) | (go_at_call 31; (with_reducible refine (ecc_within.calls a0_3 4 512 true _ A8.out).mono ?_); rintro e w' ⟨rfl, ⟨nd, rfl⟩⟩))
      go_ret
      exact ⟨rfl, uB HB.out⟩
    ·replace c9 := Bool.eq_false_iff.mpr c9
     subst c9
     replace H := uJ uN0 H
     obtain rfl := Option.some.inj H
     go_enter Try.func19, Try.ntmps19
     go_wp2_with (first | ((with_reducible refine gate_dst (N := 1) rfl ?_); refine uX 1 #[.int .i64 a0_0, .int .i64 a0_1, .int .i64 a0_2, .int .i64 a0_3, .int .i64 a0_4] 23 ?_; intro gb110 hg w22 hbox hb; have BK110 := uA hbox; have GW110 := uGe HB hg; have GE110 := uGe HB hg; replace HB := uBb HB hb; clear hg; obtain ⟨_, _, _, _, _, _, _, _, _, _⟩ := uZ BK110) | ((with_reducible refine gate_callee (f := 31) rfl ?_); refine uG (some 6) Try.func31 #[.int .i64 a0_0, .int .i64 1, .int .i64 256] ?_; (with_reducible refine (ecc_within.calls a0_0 1 256 true _ A2.out).mono ?_); rintro e w' ⟨rfl, ⟨nd, rfl⟩⟩; refine ⟨_, rfl, ?_⟩) | (go_at_call 31; (with_reducible refine (ecc_within.calls a0_1 2 64 true _ A4.out).mono ?_); rintro e w' ⟨rfl, ⟨nd, rfl⟩⟩) | (go_at_call 31; (with_reducible refine (ecc_within.calls a0_2 1 8 true _ A6.out).mono ?_); rintro e w' ⟨rfl, ⟨nd, rfl⟩⟩) | (go_at_call 31; (with_reducible refine (ecc_within.calls a0_3 4 512 false _ A8.out).mono ?_); rintro e w' ⟨rfl, ⟨nd, rfl⟩⟩))
     go_ret
     exact ⟨rfl, uB HB.out⟩
   ·replace c7 := Bool.eq_false_iff.mpr c7
    subst c7
    replace H := uJ uN0 H
    obtain rfl := Option.some.inj H
    go_enter Try.func19, Try.ntmps19
    go_wp2_with (first | ((with_reducible refine gate_dst (N := 1) rfl ?_); refine uX 1 #[.int .i64 a0_0, .int .i64 a0_1, .int .i64 a0_2, .int .i64 a0_3, .int .i64 a0_4] 23 ?_; intro gb110 hg w24 hbox hb; have BK110 := uA hbox; have GW110 := uGe HB hg; have GE110 := uGe HB hg; replace HB := uBb HB hb; clear hg; obtain ⟨_, _, _, _, _, _, _, _, _, _⟩ := uZ BK110) | ((with_reducible refine gate_callee (f := 31) rfl ?_); refine uG (some 6) Try.func31 #[.int .i64 a0_0, .int .i64 1, .int .i64 256] ?_; (with_reducible refine (ecc_within.calls a0_0 1 256 true _ A2.out).mono ?_); rintro e w' ⟨rfl, ⟨nd, rfl⟩⟩; refine ⟨_, rfl, ?_⟩) | (go_at_call 31; (with_reducible refine (ecc_within.calls a0_1 2 64 true _ A4.out).mono ?_); rintro e w' ⟨rfl, ⟨nd, rfl⟩⟩) | (go_at_call 31; (with_reducible refine (ecc_within.calls a0_2 1 8 false _ A6.out).mono ?_); rintro e w' ⟨rfl, ⟨nd, rfl⟩⟩))
    go_ret
    exact ⟨rfl, uB HB.out⟩
  ·replace c5 := Bool.eq_false_iff.mpr c5
   subst c5
   replace H := uJ uN0 H
   obtain rfl := Option.some.inj H
   go_enter Try.func19, Try.ntmps19
   go_wp2_with (first | ((with_reducible refine gate_dst (N := 1) rfl ?_); refine uX 1 #[.int .i64 a0_0, .int .i64 a0_1, .int .i64 a0_2, .int .i64 a0_3, .int .i64 a0_4] 23 ?_; intro gb110 hg w26 hbox hb; have BK110 := uA hbox; have GW110 := uGe HB hg; have GE110 := uGe HB hg; replace HB := uBb HB hb; clear hg; obtain ⟨_, _, _, _, _, _, _, _, _, _⟩ := uZ BK110) | ((with_reducible refine gate_callee (f := 31) rfl ?_); refine uG (some 6) Try.func31 #[.int .i64 a0_0, .int .i64 1, .int .i64 256] ?_; (with_reducible refine (ecc_within.calls a0_0 1 256 true _ A2.out).mono ?_); rintro e w' ⟨rfl, ⟨nd, rfl⟩⟩; refine ⟨_, rfl, ?_⟩) | (go_at_call 31; (with_reducible refine (ecc_within.calls a0_1 2 64 false _ A4.out).mono ?_); rintro e w' ⟨rfl, ⟨nd, rfl⟩⟩))
   go_ret
   exact ⟨rfl, uB HB.out⟩
 ·replace c3 := Bool.eq_false_iff.mpr c3
  subst c3
  replace H := uJ uN0 H
  obtain rfl := Option.some.inj H
  go_enter Try.func19, Try.ntmps19
  go_wp2_with (first | ((with_reducible refine gate_dst (N := 1) rfl ?_); refine uX 1 #[.int .i64 a0_0, .int .i64 a0_1, .int .i64 a0_2, .int .i64 a0_3, .int .i64 a0_4] 23 ?_; intro gb110 hg w28 hbox hb; have BK110 := uA hbox; have GW110 := uGe HB hg; have GE110 := uGe HB hg; replace HB := uBb HB hb; clear hg; obtain ⟨_, _, _, _, _, _, _, _, _, _⟩ := uZ BK110) | ((with_reducible refine gate_callee (f := 31) rfl ?_); refine uG (some 6) Try.func31 #[.int .i64 a0_0, .int .i64 1, .int .i64 256] ?_; (with_reducible refine (ecc_within.calls a0_0 1 256 false _ A2.out).mono ?_); rintro e w' ⟨rfl, ⟨nd, rfl⟩⟩; refine ⟨_, rfl, ?_⟩))
  go_ret
  exact ⟨rfl, uB HB.out⟩
def bch_Bits.f (a0 : Int) : Option (Int × Int) := if a0 < 1 then (some (0, 1)) else (if a0 > 8 then (some (0, 1)) else (some (wrap64 (13 * a0), 0)))
set_option maxHeartbeats 8000000 in
set_option maxRecDepth 100000 in
theorem bch_Bits.calls (a0 : Int) (r1 : Int) (r2 : Int) (w : World) (h : bch_Bits.f a0 = some (r1, r2)) :
  Calls Try.prog 38 #[.int .i64 a0] w fun e w' => e = .returned (.tuple #[.int .i64 r1, .int .i64 r2]) ∧ Drawn0 w w' := by
 have H := h
 unfold bch_Bits.f at H
 clear h
 by_cases c2 : a0 < 1
 ·rw [if_pos c2] at H
  have c2b0 : decide (a0 < 1) = true := decide_eq_true c2
  clear c2
  simp only [Option.some.injEq, Prod.mk.injEq] at H
  obtain ⟨rfl, rfl⟩ := H
  go_enter Try.func38, Try.ntmps38
  go_wp2
  go_ret2
  exact ⟨by first | rfl | (simp; done) | (simp [*]; done), by repeat (first | exact Drawn0.refl _ | apply Drawn0.step)⟩
 ·rw [if_neg c2] at H
  have c2b0 : decide (a0 < 1) = false := decide_eq_false c2
  clear c2
  by_cases c3 : a0 > 8
  ·rw [if_pos c3] at H
   have c3b0 : decide (8 < a0) = true := decide_eq_true c3
   clear c3
   simp only [Option.some.injEq, Prod.mk.injEq] at H
   obtain ⟨rfl, rfl⟩ := H
   go_enter Try.func38, Try.ntmps38
   go_wp2
   go_ret2
   exact ⟨by first | rfl | (simp; done) | (simp [*]; done), by repeat (first | exact Drawn0.refl _ | apply Drawn0.step)⟩
  ·rw [if_neg c3] at H
   have c3b0 : decide (8 < a0) = false := decide_eq_false c3
   clear c3
   simp only [Option.some.injEq, Prod.mk.injEq] at H
   obtain ⟨rfl, rfl⟩ := H
   go_enter Try.func38, Try.ntmps38
   go_wp2
   go_ret2
   exact ⟨by first | rfl | (simp; done) | (simp [*]; done), by repeat (first | exact Drawn0.refl _ | apply Drawn0.step)⟩
def ecc_whole.f (a0_0 : Int) (a0_1 : Int) (a0_2 : Int) (a0_3 : Int) (a0_4 : Int) : Option (Int) := (bch_Bits.f a0_4).bind fun bt117 => (some (wrap64 (a0_3 + (wrap64 (Int.tdiv (wrap64 (bt117.1 + 7)) 8)))))
set_option maxHeartbeats 8000000 in
set_option maxRecDepth 100000 in
theorem ecc_whole.calls (a0_0 : Int) (a0_1 : Int) (a0_2 : Int) (a0_3 : Int) (a0_4 : Int) (r : Int) (w : World) (h : ecc_whole.f a0_0 a0_1 a0_2 a0_3 a0_4 = some r) :
  Calls Try.prog 27 #[.agg #[.int .i64 a0_0, .int .i64 a0_1, .int .i64 a0_2, .int .i64 a0_3, .int .i64 a0_4]] w fun e w' => e = .returned (.int .i64 r) ∧ Below w.heap.size w w' := by
 have hu23 := Try.underlying23
 have HB := Aside0.mk (Below.refl w.heap.size w)
 have H := h
 unfold ecc_whole.f at H
 clear h
 obtain ⟨⟨t117, t118⟩, A2, H⟩ := uO H
 dsimp only at H
 obtain rfl := Option.some.inj H
 go_enter Try.func27, Try.ntmps27
 go_wp2_with (first | ((with_reducible refine gate_dst (N := 1) rfl ?_); refine uX 1 #[.int .i64 a0_0, .int .i64 a0_1, .int .i64 a0_2, .int .i64 a0_3, .int .i64 a0_4] 23 ?_; intro gb116 hg w3 hbox hb; have BK116 := uA hbox; have GW116 := uGe HB hg; have GE116 := uGe HB hg; replace HB := uBb HB hb; clear hg; obtain ⟨_, _, _, _, _, _, _, _, _, _⟩ := uZ BK116) | ((with_reducible refine gate_callee (f := 38) rfl ?_); refine uG (some 8) Try.func38 #[.int .i64 a0_4] ?_; (with_reducible refine (bch_Bits.calls a0_4 t117 t118 _ A2.out).mono ?_); rintro e w' ⟨rfl, ⟨nd, rfl⟩⟩; refine ⟨_, rfl, ?_⟩))
 go_ret
 exact ⟨rfl, uB HB.out⟩
def ecc_Raw.f (a0_0 : Int) (a0_1 : Int) (a0_2 : Int) (a0_3 : Int) (a0_4 : Int) : Option (Int × Int) := (ecc_Check.f a0_0 a0_1 a0_2 a0_3 a0_4).bind fun t120 => (if t120 = 0 then ((ecc_whole.f a0_0 a0_1 a0_2 a0_3 a0_4).bind fun t121 => (some (wrap64 ((wrap64 (a0_2 * t121)) + 1), 0))) else (some (0, t120)))
def ecc_Raw.T4 : Bool × List (List Nat × List Nat) := (true, [([], []), ([0], [0]), ([], []), ([2], [2]), ([1, 3], [1, 3]), ([4], [4]), ([5, 3, 0, 1, 2, 3, 4, 5], [5]), ([6, 0, 1, 2, 3, 4, 5, 6], [])])
def ecc_Raw.B4 : List Nat := [0, 1, 0, 4, 15, 31, 63, 127]
theorem ecc_Raw.tab4 : rtab .any (opsOf Try.f21 4) = ecc_Raw.T4 := by kernel_rfl
theorem ecc_Raw.bits4 : waitsOk ecc_Raw.T4.2 ecc_Raw.B4 = true := by kernel_rfl
set_option maxHeartbeats 8000000 in
set_option maxRecDepth 100000 in
theorem ecc_Raw.calls (a0_0 : Int) (a0_1 : Int) (a0_2 : Int) (a0_3 : Int) (a0_4 : Int) (r1 : Int) (r2 : Int) (w : World) (h : ecc_Raw.f a0_0 a0_1 a0_2 a0_3 a0_4 = some (r1, r2)) :
  Calls Try.prog 21 #[.agg #[.int .i64 a0_0, .int .i64 a0_1, .int .i64 a0_2, .int .i64 a0_3, .int .i64 a0_4]] w fun e w' => e = .returned (.tuple #[.int .i64 r1, .int .i64 r2]) ∧ Below w.heap.size w w' := by
 have hu23 := Try.underlying23
 have HB := Aside0.mk (Below.refl w.heap.size w)
 have H := h
 unfold ecc_Raw.f at H
 clear h
 obtain ⟨t120, A2, H⟩ := uO H
 by_cases c3 : t120 = 0
 ·rw [if_pos c3] at H
  have c3b0 : (t120 == 0) = true := beq_iff_eq.mpr c3
  have c3b1 : (t120 != 0) = false := bne_eq_false_iff_eq.mpr c3
  clear c3
  obtain ⟨t121, A4, H⟩ := uO H
  simp only [Option.some.injEq, Prod.mk.injEq] at H
  obtain ⟨rfl, rfl⟩ := H
  go_enter Try.func21, Try.ntmps21
  try go_wp2_with (first | ((with_reducible refine gate_dst (N := 1) rfl ?_); refine uX 1 #[.int .i64 a0_0, .int .i64 a0_1, .int .i64 a0_2, .int .i64 a0_3, .int .i64 a0_4] 23 ?_; intro gb119 hg w5 hbox hb; have BK119 := uA hbox; have GW119 := uGe HB hg; have GE119 := uGe HB hg; replace HB := uBb HB hb; clear hg; obtain ⟨_, _, _, _, _, _, _, _, _, _⟩ := uZ BK119) | ((with_reducible refine gate_callee (f := 19) rfl ?_); refine uG (some 6) Try.func19 #[.agg #[.int .i64 a0_0, .int .i64 a0_1, .int .i64 a0_2, .int .i64 a0_3, .int .i64 a0_4]] ?_; (with_reducible refine (ecc_Check.calls a0_0 a0_1 a0_2 a0_3 a0_4 t120 _ A2.out).mono ?_); rintro e w7 ⟨rfl, hb⟩; refine ⟨_, rfl, ?_⟩; replace BK119 := uKb BK119 hb; replace HB := uBb HB hb))
  replace BK119 := uA (blk_drew BK119.out); replace HB := uA (below_drew1 HB.out)
  refine start_ (n := 8) (S := fun w' => w'.cell? ⟨gb119, 0, none⟩ = some (.int .i64 a0_0) ∧ w'.cell? ⟨gb119, 1, none⟩ = some (.int .i64 a0_1) ∧ w'.cell? ⟨gb119, 2, none⟩ = some (.int .i64 a0_2) ∧ w'.cell? ⟨gb119, 3, none⟩ = some (.int .i64 a0_3) ∧ w'.cell? ⟨gb119, 4, none⟩ = some (.int .i64 a0_4)) (ds := []) #[false, false, false, false, false, false, false, false] (by kernel_rfl) rfl rfl ⟨(blk_cell BK119.out 0).trans rfl, (blk_cell BK119.out 1).trans rfl, (blk_cell BK119.out 2).trans rfl, (blk_cell BK119.out 3).trans rfl, (blk_cell BK119.out 4).trans rfl⟩ (fun hHeld => ?_); refine with_tabW ecc_Raw.tab4 ecc_Raw.bits4 (fun HT_ HW_ => ?_)
  generalize w7.drew = w8 at BK119 HB hHeld ⊢
  refine uP HT_ 0 (some 10) (lb 8 1) ?_
  refine uT HT_ HW_ 1 (some 11) (lb 8 3) rfl hHeld ?_ (by rintro w' ⟨s0, s1, s2, s3, s4⟩; go_simp; with_reducible rfl)
  refine uT HT_ HW_ 2 (some 12) (lb 8 7) rfl hHeld ?_ (by rintro w' ⟨s0, s1, s2, s3, s4⟩; go_simp; with_reducible rfl)
  refine one_ (i := 3) (N := some 13) #[true, true, true, true, false, false, false, false] rfl rfl (one_of HT_.out (by kernel_rfl)) (by decide) (fun K hK => ?_)
  refine goes_ Try.func27 (by kernel_rfl) rfl #[.agg #[.int .i64 a0_0, .int .i64 a0_1, .int .i64 a0_2, .int .i64 a0_3, .int .i64 a0_4]] (by rfl) rfl rfl (by (try simp only [List.map_toArray, List.map_cons, List.map_nil]); first | done | rfl | (simp only [List.length_drop, List.length_take]; rfl)) ?_
  with_reducible refine (ecc_whole.calls a0_0 a0_1 a0_2 a0_3 a0_4 t121 _ A4.out).mono ?_
  rintro e w9 ⟨rfl, hb⟩
  refine ⟨_, rfl, ?_⟩
  replace BK119 := uKb BK119 hb; replace HB := uBb HB hb
  refine hK.out _ _ ⟨(blk_cell BK119.out 0).trans rfl, (blk_cell BK119.out 1).trans rfl, (blk_cell BK119.out 2).trans rfl, (blk_cell BK119.out 3).trans rfl, (blk_cell BK119.out 4).trans rfl⟩ (fun hHeld => ?_)
  clear hK K
  refine uN (some 13) _ ?_
  refine uP HT_ 4 (some 14) (lb 8 31) ?_
  refine uP HT_ 5 (some 15) (lb 8 63) ?_
  refine uP HT_ 6 (some 2) (lb 8 127) ?_
  refine uP HT_ 7 (some 3) (lb 8 255) ?_
  refine done_ (done_of HT_.out (by kernel_rfl)) ?_
  try go_wp2
  go_ret2
  exact ⟨rfl, uB HB.out⟩
 ·rw [if_neg c3] at H
  have c3b0 : (t120 == 0) = false := beq_eq_false_iff_ne.mpr c3
  have c3b1 : (t120 != 0) = true := bne_iff_ne.mpr c3
  simp only [Option.some.injEq, Prod.mk.injEq] at H
  obtain ⟨rfl, rfl⟩ := H
  go_enter Try.func21, Try.ntmps21
  go_wp2_with (first | ((with_reducible refine gate_dst (N := 1) rfl ?_); refine uX 1 #[.int .i64 a0_0, .int .i64 a0_1, .int .i64 a0_2, .int .i64 a0_3, .int .i64 a0_4] 23 ?_; intro gb119 hg w10 hbox hb; have BK119 := uA hbox; have GW119 := uGe HB hg; have GE119 := uGe HB hg; replace HB := uBb HB hb; clear hg; obtain ⟨_, _, _, _, _, _, _, _, _, _⟩ := uZ BK119) | ((with_reducible refine gate_callee (f := 19) rfl ?_); refine uG (some 6) Try.func19 #[.agg #[.int .i64 a0_0, .int .i64 a0_1, .int .i64 a0_2, .int .i64 a0_3, .int .i64 a0_4]] ?_; (with_reducible refine (ecc_Check.calls a0_0 a0_1 a0_2 a0_3 a0_4 t120 _ A2.out).mono ?_); rintro e w12 ⟨rfl, hb⟩; refine ⟨_, rfl, ?_⟩; replace BK119 := uKb BK119 hb; replace HB := uBb HB hb))
  go_ret2
  exact ⟨rfl, uB HB.out⟩
mutual
def bits_Ones.l0 : Nat → Int → List Int → Int → Int → Option (Int)
 | 0, _, _, _, _ => none
 | k + 1, x3, x6, x7, x8 => if x8 < x7 then (if 0 ≤ x8 then (if x8 < (x6.length : Int) then (bits_Ones.l1 k x3 (rd x6 x8) x6 x7 x8) else (none)) else (none)) else (some x3)
def bits_Ones.l1 : Nat → Int → Int → List Int → Int → Int → Option (Int)
 | 0, _, _, _, _, _ => none
 | k + 1, x3, x5, x6, x7, x8 => if x5 = 0 then (bits_Ones.l0 k x3 x6 x7 (wrap64 (x8 + 1))) else (bits_Ones.l1 k (wrap64 (x3 + 1)) (Go.bits .and .u8 x5 ((x5 - 1) % 256)) x6 x7 x8)
end
def bits_Ones.f (k : Nat) (l0 : List Int) : Option (Int) := bits_Ones.l0 k 0 l0 (l0.length : Int) 0
theorem bits_Ones.mono_l : ∀ k, (∀ y0 y1 y2 y3, LeO (bits_Ones.l0 k y0 y1 y2 y3) (bits_Ones.l0 (k + 1) y0 y1 y2 y3)) ∧ (∀ y0 y1 y2 y3 y4, LeO (bits_Ones.l1 k y0 y1 y2 y3 y4) (bits_Ones.l1 (k + 1) y0 y1 y2 y3 y4))
 | 0 => ⟨fun _ _ _ _ r h => by simp [bits_Ones.l0] at h, fun _ _ _ _ _ r h => by simp [bits_Ones.l1] at h⟩
 | k + 1 => by
  obtain ⟨ih0, ih1⟩ := bits_Ones.mono_l k
  refine ⟨?_, ?_⟩
  ·intro y0 y1 y2 y3
   unfold bits_Ones.l0
   repeat' first
   | (with_reducible exact ih0 _ _ _ _)
   | (with_reducible exact ih1 _ _ _ _ _)
   | (with_reducible exact LeO.refl _)
   | (with_reducible exact LeO.none _)
   | (with_reducible refine LeO.ite ?_ ?_)
   | (with_reducible refine LeO.bind ?_ (fun _ => ?_))
   | exact ih0 _ _ _ _
   | exact ih1 _ _ _ _ _
   | exact LeO.none _
   | refine LeO.ite ?_ ?_
   | refine LeO.bind ?_ (fun _ => ?_)
  ·intro y0 y1 y2 y3 y4
   unfold bits_Ones.l1
   repeat' first
   | (with_reducible exact ih0 _ _ _ _)
   | (with_reducible exact ih1 _ _ _ _ _)
   | (with_reducible exact LeO.refl _)
   | (with_reducible exact LeO.none _)
   | (with_reducible refine LeO.ite ?_ ?_)
   | (with_reducible refine LeO.bind ?_ (fun _ => ?_))
   | exact ih0 _ _ _ _
   | exact ih1 _ _ _ _ _
   | exact LeO.none _
   | refine LeO.ite ?_ ?_
   | refine LeO.bind ?_ (fun _ => ?_)
theorem bits_Ones.mono : ∀ a0 k, LeO (bits_Ones.f k a0) (bits_Ones.f (k + 1) a0) := by
 intro a0 k
 obtain ⟨ih0, ih1⟩ := bits_Ones.mono_l k
 unfold bits_Ones.f
 repeat' first
   | (with_reducible exact ih0 _ _ _ _)
   | (with_reducible exact ih1 _ _ _ _ _)
   | (with_reducible exact LeO.refl _)
   | (with_reducible exact LeO.none _)
   | (with_reducible refine LeO.ite ?_ ?_)
   | (with_reducible refine LeO.bind ?_ (fun _ => ?_))
   | exact ih0 _ _ _ _
   | exact ih1 _ _ _ _ _
   | exact LeO.none _
   | refine LeO.ite ?_ ?_
   | refine LeO.bind ?_ (fun _ => ?_)
set_option maxHeartbeats 8000000 in
set_option maxRecDepth 100000 in
theorem bits_Ones.calls (k : Nat) (A0 : Option Addr) (c0 : Nat) (l0 : List Int) (r : Int) (w : World) (hr0 : Kd.C (Kd.int .u8) w A0 l0.length l0) (hc0 : l0.length ≤ c0) (h : bits_Ones.f k l0 = some r) :
  Calls Try.prog 37 #[.slice A0 l0.length c0] w fun e w' => e = .returned (.int .i64 r) ∧ Drawn0 w w' := by
 have HR0 := Aside0.mk hr0
 have HC0 := Aside0.mk hc0
 clear hr0 hc0
 have H : (bits_Ones.l0 k 0 l0 (l0.length : Int) 0) = some r := h
 clear h
 have H' := Aside0.mk H
 clear H
 go_enter Try.func37, Try.ntmps37
 go_wp2
 go_loopg [3, 8] k (fun kq v3 v8 w' => ∃ (x3_1 : Int) (x8_1 : Int), v3 = .int .i64 x3_1 ∧ v8 = .int .i64 x8_1 ∧ Aside0 (bits_Ones.l0 kq x3_1 l0 (l0.length : Int) x8_1 = some r) ∧ Aside0 (kq ≤ k) ∧ Drawn0 w w')
 case atStart => exact ⟨(0), (0), rfl, rfl, H', ⟨Nat.le_refl _⟩, by repeat (first | exact Drawn0.refl _ | apply Drawn0.step)⟩
 case round =>
  clear H'
  obtain ⟨x3_1, x8_1, rfl, rfl, HA, HK1, ⟨m1, rfl⟩⟩ := hrel
  cases gk with
  | zero => exact absurd HA.out (by simp [bits_Ones.l0])
  | succ k1 =>
   have H := HA.out
   clear HA
   simp only [bits_Ones.l0] at H
   by_cases c2 : x8_1 < (l0.length : Int)
   ·rw [if_pos c2] at H
    have c2b0 : decide (x8_1 < (l0.length : Int)) = true := decide_eq_true c2
    clear c2
    by_cases c3 : 0 ≤ x8_1
    ·rw [if_pos c3] at H
     have c3b0 : decide (0 ≤ x8_1) = true := decide_eq_true c3
     clear c3
     by_cases c4 : x8_1 < (l0.length : Int)
     ·rw [if_pos c4] at H
      have c4b0 : decide (x8_1 < (l0.length : Int)) = true := decide_eq_true c4
      clear c4
      have H' := Aside0.mk H
      clear H
      have p122 : 0 ≤ (x8_1 : Int) := of_decide_eq_true (by first | (with_reducible assumption) | assumption)
      have q122 : x8_1 < (l0.length : Int) := of_decide_eq_true (by first | (with_reducible assumption) | assumption)
      obtain ⟨ad122, e122, hx122_0⟩ := Kd.at_int HR0.out x8_1 p122 q122
      cases e122
      replace p122 := eq_true p122
      replace q122 := eq_true q122
      go_wp2
      go_loopg [3, 5] k1 (fun kq v3 v5 w' => ∃ (x3_2 : Int) (x5_2 : Int), v3 = .int .i64 x3_2 ∧ v5 = .int .u8 x5_2 ∧ Aside0 (bits_Ones.l1 kq x3_2 x5_2 l0 (l0.length : Int) x8_1 = some r) ∧ Aside0 (kq ≤ k1) ∧ Drawn0 w w')
      case atStart => exact ⟨(x3_1), (rd l0 x8_1), rfl, rfl, H', ⟨Nat.le_refl _⟩, by repeat (first | exact Drawn0.refl _ | apply Drawn0.step)⟩
      case round =>
       clear H'
       obtain ⟨x3_2, x5_2, rfl, rfl, HA, HK2, ⟨m2, rfl⟩⟩ := hrel
       cases gk with
       | zero => exact absurd HA.out (by simp [bits_Ones.l1])
       | succ k2 =>
        have H := HA.out
        clear HA
        simp only [bits_Ones.l1] at H
        by_cases c5 : x5_2 = 0
        ·rw [if_pos c5] at H
         have c5b0 : (x5_2 == 0) = true := beq_iff_eq.mpr c5
         have c5b1 : (x5_2 != 0) = false := bne_eq_false_iff_eq.mpr c5
         clear c5
         have H' := Aside0.mk H
         clear H
         go_wp2
         go_roundg k2
         case measure => have := HK1.out; have := HK2.out; omega
         case rel => exact ⟨(x3_2), (wrap64 (x8_1 + 1)), rfl, rfl, H', ⟨by have := HK1.out; have := HK2.out; omega⟩, by repeat (first | exact Drawn0.refl _ | apply Drawn0.step)⟩
        ·rw [if_neg c5] at H
         have c5b0 : (x5_2 == 0) = false := beq_eq_false_iff_ne.mpr c5
         have c5b1 : (x5_2 != 0) = true := bne_iff_ne.mpr c5
         have H' := Aside0.mk H
         clear H
         go_wp2
         go_roundg k2
         case measure => have := HK1.out; have := HK2.out; omega
         case rel => exact ⟨(wrap64 (x3_2 + 1)), (Go.bits .and .u8 x5_2 ((x5_2 - 1) % 256)), rfl, rfl, H', ⟨by have := HK1.out; have := HK2.out; omega⟩, by repeat (first | exact Drawn0.refl _ | apply Drawn0.step)⟩
     ·rw [if_neg c4] at H
      cases H
    ·rw [if_neg c3] at H
     cases H
   ·rw [if_neg c2] at H
    have c2b0 : decide (x8_1 < (l0.length : Int)) = false := decide_eq_false c2
    clear c2
    obtain rfl := Option.some.inj H
    go_wp2
    go_ret
    exact ⟨by first | rfl | (simp; done) | (simp [*]; done), by repeat (first | exact Drawn0.refl _ | apply Drawn0.step)⟩
def ecc_state.l0 : Nat → List Int → Int → Int → Int → Int → Int → Int → Int → Option (Int)
 | 0, _, _, _, _, _, _, _, _ => none
 | k + 1, x1, x6, x7, x124000, x124001, x124002, x124003, x124004 => if (wrap64 (x7 + x6)) < (x1.length : Int) then (if 0 ≤ x7 then (if x7 ≤ (wrap64 (x7 + x6)) then (if (wrap64 (x7 + x6)) ≤ (x1.length : Int) then ((bits_Ones.f k ((x1.take ((wrap64 (x7 + x6)) : Int).toNat).drop (x7 : Int).toNat)).bind fun t127 => (if (wrap64 ((wrap64 (8 * x6)) - t127)) > x124004 then (some 60) else (ecc_state.l0 k x1 x6 (wrap64 (x7 + x6)) x124000 x124001 x124002 x124003 x124004))) else (none)) else (none)) else (none)) else (some 61)
def ecc_state.f (k : Nat) (a0_0 : Int) (a0_1 : Int) (a0_2 : Int) (a0_3 : Int) (a0_4 : Int) (l1 : List Int) : Option (Int) := if 0 ≤ (wrap64 ((l1.length : Int) - 1)) then (if (wrap64 ((l1.length : Int) - 1)) < (l1.length : Int) then (if (rd l1 (wrap64 ((l1.length : Int) - 1))) = 0 then (some 0) else (if (rd l1 (wrap64 ((l1.length : Int) - 1))) = 255 then ((ecc_whole.f a0_0 a0_1 a0_2 a0_3 a0_4).bind fun t125 => (ecc_state.l0 k l1 t125 0 a0_0 a0_1 a0_2 a0_3 a0_4)) else (some 60))) else (none)) else (none)
theorem ecc_state.mono_l : ∀ k, (∀ y0 y1 y2 y3 y4 y5 y6 y7, LeO (ecc_state.l0 k y0 y1 y2 y3 y4 y5 y6 y7) (ecc_state.l0 (k + 1) y0 y1 y2 y3 y4 y5 y6 y7))
 | 0 => fun _ _ _ _ _ _ _ _ r h => by simp [ecc_state.l0] at h
 | k + 1 => by
  have ih0 := ecc_state.mono_l k
  ·intro y0 y1 y2 y3 y4 y5 y6 y7
   unfold ecc_state.l0
   repeat' first
   | (with_reducible exact ih0 _ _ _ _ _ _ _ _)
   | (with_reducible exact bits_Ones.mono _ _)
   | (with_reducible exact LeO.refl _)
   | (with_reducible exact LeO.none _)
   | (with_reducible refine LeO.ite ?_ ?_)
   | (with_reducible refine LeO.bind ?_ (fun _ => ?_))
   | exact ih0 _ _ _ _ _ _ _ _
   | exact bits_Ones.mono _ _
   | exact LeO.none _
   | refine LeO.ite ?_ ?_
   | refine LeO.bind ?_ (fun _ => ?_)
theorem ecc_state.mono : ∀ a0 a1 a2 a3 a4 a5 k, LeO (ecc_state.f k a0 a1 a2 a3 a4 a5) (ecc_state.f (k + 1) a0 a1 a2 a3 a4 a5) := by
 intro a0 a1 a2 a3 a4 a5 k
 have ih0 := ecc_state.mono_l k
 unfold ecc_state.f
 repeat' first
   | (with_reducible exact ih0 _ _ _ _ _ _ _ _)
   | (with_reducible exact bits_Ones.mono _ _)
   | (with_reducible exact LeO.refl _)
   | (with_reducible exact LeO.none _)
   | (with_reducible refine LeO.ite ?_ ?_)
   | (with_reducible refine LeO.bind ?_ (fun _ => ?_))
   | exact ih0 _ _ _ _ _ _ _ _
   | exact bits_Ones.mono _ _
   | exact LeO.none _
   | refine LeO.ite ?_ ?_
   | refine LeO.bind ?_ (fun _ => ?_)
set_option maxHeartbeats 8000000 in
set_option maxRecDepth 100000 in
theorem ecc_state.calls (k : Nat) (a0_0 : Int) (a0_1 : Int) (a0_2 : Int) (a0_3 : Int) (a0_4 : Int) (A1 : Option Addr) (c1 : Nat) (l1 : List Int) (r : Int) (w : World) (hr1 : Kd.C (Kd.int .u8) w A1 l1.length l1) (hc1 : l1.length ≤ c1) (h : ecc_state.f k a0_0 a0_1 a0_2 a0_3 a0_4 l1 = some r) :
  Calls Try.prog 26 #[.agg #[.int .i64 a0_0, .int .i64 a0_1, .int .i64 a0_2, .int .i64 a0_3, .int .i64 a0_4], .slice A1 l1.length c1] w fun e w' => e = .returned (.int .i64 r) ∧ Below w.heap.size w w' := by
 have hu23 := Try.underlying23
 have HR1 := Aside0.mk hr1
 have HC1 := Aside0.mk hc1
 clear hr1 hc1
 have HB := Aside0.mk (Below.refl w.heap.size w)
 have H := h
 unfold ecc_state.f at H
 clear h
 obtain ⟨ji3, hji3⟩ : ∃ j_ : Int, (wrap64 ((l1.length : Int) - 1)) = j_ := ⟨_, rfl⟩
 first | rw [hji3] at H | simp only [hji3] at H
 have hji3w : (IntKind.i64.wrap ((l1.length : Int) - 1)) = ji3 := (i64_w _).trans hji3
 by_cases c4 : 0 ≤ (ji3)
 ·rw [if_pos c4] at H
  have c4b0 : decide (0 ≤ (ji3)) = true := decide_eq_true c4
  clear c4
  by_cases c5 : (ji3) < (l1.length : Int)
  ·rw [if_pos c5] at H
   have c5b0 : decide ((ji3) < (l1.length : Int)) = true := decide_eq_true c5
   clear c5
   by_cases c6 : (rd l1 (ji3)) = 0
   ·rw [if_pos c6] at H
    have c6b0 : ((rd l1 (ji3)) == 0) = true := beq_iff_eq.mpr c6
    have c6b1 : ((rd l1 (ji3)) != 0) = false := bne_eq_false_iff_eq.mpr c6
    clear c6
    obtain rfl := Option.some.inj H
    go_enter Try.func26, Try.ntmps26
    go_wp2_with (first | ((with_reducible refine gate_dst (N := 2) rfl ?_); refine uX 2 #[.int .i64 a0_0, .int .i64 a0_1, .int .i64 a0_2, .int .i64 a0_3, .int .i64 a0_4] 23 ?_; intro gb123 hg w7 hbox hb; have BK123 := uA hbox; have GW123 := uGe HB hg; have GE123 := uGe HB hg; replace HB := uBb HB hb; clear hg; have p124 : 0 ≤ ((ji3) : Int) := of_decide_eq_true (by first | (with_reducible assumption) | assumption); have q124 : (ji3) < (l1.length : Int) := of_decide_eq_true (by first | (with_reducible assumption) | assumption); obtain ⟨ad124, e124, hx124_0⟩ := Kd.at_int HR1.out (ji3) p124 q124; cases e124; replace hx124_0 := (HB.out.cell (World.block_lt_of_cell? w _ hx124_0)).trans hx124_0; replace p124 := eq_true p124; replace q124 := eq_true q124))
    go_ret
    exact ⟨by first | rfl | (simp [errW_none, errW_some] <;> rfl) | (simp only [← hji3]; first | rfl | (simp [errW_none, errW_some] <;> rfl)) | (simp [*, errW_none, errW_some] <;> rfl), uB HB.out⟩
   ·rw [if_neg c6] at H
    have c6b0 : ((rd l1 (ji3)) == 0) = false := beq_eq_false_iff_ne.mpr c6
    have c6b1 : ((rd l1 (ji3)) != 0) = true := bne_iff_ne.mpr c6
    by_cases c8 : (rd l1 (ji3)) = 255
    ·rw [if_pos c8] at H
     have c8b0 : ((rd l1 (ji3)) == 255) = true := beq_iff_eq.mpr c8
     have c8b1 : ((rd l1 (ji3)) != 255) = false := bne_eq_false_iff_eq.mpr c8
     clear c8
     obtain ⟨t125, A9, H⟩ := uO H
     have H' := Aside0.mk H
     clear H
     go_enter Try.func26, Try.ntmps26
     go_wp2_with (first | ((with_reducible refine gate_dst (N := 2) rfl ?_); refine uX 2 #[.int .i64 a0_0, .int .i64 a0_1, .int .i64 a0_2, .int .i64 a0_3, .int .i64 a0_4] 23 ?_; intro gb123 hg w10 hbox hb; have BK123 := uA hbox; have GW123 := uGe HB hg; have GE123 := uGe HB hg; replace HB := uBb HB hb; clear hg; have p124 : 0 ≤ ((ji3) : Int) := of_decide_eq_true (by first | (with_reducible assumption) | assumption); have q124 : (ji3) < (l1.length : Int) := of_decide_eq_true (by first | (with_reducible assumption) | assumption); obtain ⟨ad124, e124, hx124_0⟩ := Kd.at_int HR1.out (ji3) p124 q124; cases e124; replace hx124_0 := (HB.out.cell (World.block_lt_of_cell? w _ hx124_0)).trans hx124_0; replace p124 := eq_true p124; replace q124 := eq_true q124; obtain ⟨_, _, _, _, _, _, _, _, _, _⟩ := uZ BK123) | (go_at_call 27; (with_reducible refine (ecc_whole.calls a0_0 a0_1 a0_2 a0_3 a0_4 t125 _ A9.out).mono ?_); rintro e w12 ⟨rfl, hb⟩; replace BK123 := uKb BK123 hb; replace HB := uBb HB hb))
     go_loopg [7] k (fun kq v7 w' => ∃ (x7_1 : Int), v7 = .int .i64 x7_1 ∧ Aside0 (ecc_state.l0 kq l1 t125 x7_1 a0_0 a0_1 a0_2 a0_3 a0_4 = some r) ∧ Aside0 (kq ≤ k) ∧ Aside0 (w'.heap[gb123]? = some (.cells #[.int .i64 a0_0, .int .i64 a0_1, .int .i64 a0_2, .int .i64 a0_3, .int .i64 a0_4] 23 (0, 0))) ∧ Aside0 (Below w.heap.size w w'))
     case atStart => exact ⟨(0), rfl, H', ⟨Nat.le_refl _⟩, ⟨uK BK123.out⟩, ⟨uB HB.out⟩⟩
     case round =>
      clear H'
      obtain ⟨x7_1, rfl, HA, HK1, BK123, HB⟩ := hrel
      cases gk with
      | zero => exact absurd HA.out (by simp [ecc_state.l0])
      | succ k1 =>
       have H := HA.out
       clear HA
       simp only [ecc_state.l0] at H
       by_cases c13 : (wrap64 (x7_1 + t125)) < (l1.length : Int)
       ·rw [if_pos c13] at H
        have c13b0 : decide ((wrap64 (x7_1 + t125)) < (l1.length : Int)) = true := decide_eq_true c13
        clear c13
        by_cases c14 : 0 ≤ x7_1
        ·rw [if_pos c14] at H
         have c14b0 := eq_true c14
         have c14b1 : decide (0 ≤ x7_1) = true := decide_eq_true c14
         clear c14
         by_cases c15 : x7_1 ≤ (wrap64 (x7_1 + t125))
         ·rw [if_pos c15] at H
          have c15b0 := eq_true c15
          have c15b1 : decide (x7_1 ≤ (wrap64 (x7_1 + t125))) = true := decide_eq_true c15
          by_cases c16 : (wrap64 (x7_1 + t125)) ≤ (l1.length : Int)
          ·rw [if_pos c16] at H
           have c16b0 := eq_true c16
           have c16b1 : decide ((wrap64 (x7_1 + t125)) ≤ (l1.length : Int)) = true := decide_eq_true c16
           obtain ⟨t127, A17, H⟩ := uO H
           by_cases c18 : (wrap64 ((wrap64 (8 * t125)) - t127)) > a0_4
           ·rw [if_pos c18] at H
            have c18b0 : decide (a0_4 < (wrap64 ((wrap64 (8 * t125)) - t127))) = true := decide_eq_true c18
            clear c18
            obtain rfl := Option.some.inj H
            obtain ⟨i019, hi019, _, hsz19, _⟩ := info_parts info5
            obtain ⟨A19, hcut19, hA19, hC19⟩ := print_mid_of (P := Try.prog) (Value.int .u8) 0 26 5 .i64 .i64 Try.underlying26 hi019 hsz19 (some ad124) c1 l1 x7_1 (wrap64 (x7_1 + t125)) (of_decide_eq_true (by first | (with_reducible assumption) | assumption)) (by first | omega | exact of_decide_eq_true (by first | (with_reducible assumption) | assumption)) (of_decide_eq_true (by first | (with_reducible assumption) | assumption)) HC1.out
            have HR126 := Aside0.mk (Kd.C_of_reads (h1 := fun _ => rfl) (hA19 _ (Kd.reads_of_C HR1.out)))
            have HC126 := Aside0.mk hC19
            clear hA19 hC19 hi019 hsz19
            generalize hy_ : ((l1.take ((wrap64 (x7_1 + t125)) : Int).toNat).drop (x7_1 : Int).toNat) = y_ at HR126 HC126 hcut19 A17
            clear hy_
            have HRb := Aside0.mk (show Kd.C (Kd.int .u8) wr _ y_.length y_ from Kd.C_below HR126.out HB.out)
            go_wp2_with fail
            obtain ⟨_, _, _, _, _, _, _, _, _, _⟩ := uZ BK123
            have hw0_ := i64_w (x7_1 + t125)
            have hw1_ := i64_w (8 * t125)
            have hw2_ := i64_w (wrap64 (8 * t125) - t127)
            go_region_with (go_at_call 37; (with_reducible refine (bits_Ones.calls k1 _ _ y_ t127 _ (by repeat (first | exact HRb.out | (with_reducible refine Kd.C_alloc ?_ _) | (with_reducible refine Kd.C_drewN ?_ _) | (with_reducible refine Kd.C_drew ?_))) (by exact HC126.out) A17.out).mono ?_); rintro e w' ⟨rfl, ⟨nd, rfl⟩⟩)
            all_goals
             go_wp2
             go_ret
             exact ⟨by first | rfl | (simp [errW_none, errW_some] <;> rfl) | (simp only [← hji3]; first | rfl | (simp [errW_none, errW_some] <;> rfl)) | (simp [*, errW_none, errW_some] <;> rfl), uB HB.out⟩
           ·rw [if_neg c18] at H
            have c18b0 : decide (a0_4 < (wrap64 ((wrap64 (8 * t125)) - t127))) = false := decide_eq_false c18
            clear c18
            have H' := Aside0.mk H
            clear H
            obtain ⟨i021, hi021, _, hsz21, _⟩ := info_parts info5
            obtain ⟨A21, hcut21, hA21, hC21⟩ := print_mid_of (P := Try.prog) (Value.int .u8) 0 26 5 .i64 .i64 Try.underlying26 hi021 hsz21 (some ad124) c1 l1 x7_1 (wrap64 (x7_1 + t125)) (of_decide_eq_true (by first | (with_reducible assumption) | assumption)) (by first | omega | exact of_decide_eq_true (by first | (with_reducible assumption) | assumption)) (of_decide_eq_true (by first | (with_reducible assumption) | assumption)) HC1.out
            have HR126 := Aside0.mk (Kd.C_of_reads (h1 := fun _ => rfl) (hA21 _ (Kd.reads_of_C HR1.out)))
            have HC126 := Aside0.mk hC21
            clear hA21 hC21 hi021 hsz21
            generalize hy_ : ((l1.take ((wrap64 (x7_1 + t125)) : Int).toNat).drop (x7_1 : Int).toNat) = y_ at HR126 HC126 hcut21 A17
            clear hy_
            have HRb := Aside0.mk (show Kd.C (Kd.int .u8) wr _ y_.length y_ from Kd.C_below HR126.out HB.out)
            go_wp2_with fail
            obtain ⟨_, _, _, _, _, _, _, _, _, _⟩ := uZ BK123
            have hw0_ := i64_w (x7_1 + t125)
            have hw1_ := i64_w (8 * t125)
            have hw2_ := i64_w (wrap64 (8 * t125) - t127)
            go_region_with (go_at_call 37; (with_reducible refine (bits_Ones.calls k1 _ _ y_ t127 _ (by repeat (first | exact HRb.out | (with_reducible refine Kd.C_alloc ?_ _) | (with_reducible refine Kd.C_drewN ?_ _) | (with_reducible refine Kd.C_drew ?_))) (by exact HC126.out) A17.out).mono ?_); rintro e w' ⟨rfl, ⟨nd, rfl⟩⟩)
            all_goals
             go_wp2
             go_roundg k1
             case measure => have := HK1.out; omega
             case rel => exact ⟨(wrap64 (x7_1 + t125)), rfl, H', ⟨by have := HK1.out; omega⟩, ⟨uK BK123.out⟩, ⟨uB HB.out⟩⟩
          ·rw [if_neg c16] at H
           cases H
         ·rw [if_neg c15] at H
          cases H
        ·rw [if_neg c14] at H
         cases H
       ·rw [if_neg c13] at H
        have c13b0 : decide ((wrap64 (x7_1 + t125)) < (l1.length : Int)) = false := decide_eq_false c13
        clear c13
        obtain rfl := Option.some.inj H
        go_wp2
        go_ret
        exact ⟨by first | rfl | (simp [errW_none, errW_some] <;> rfl) | (simp only [← hji3]; first | rfl | (simp [errW_none, errW_some] <;> rfl)) | (simp [*, errW_none, errW_some] <;> rfl), uB HB.out⟩
    ·rw [if_neg c8] at H
     have c8b0 : ((rd l1 (ji3)) == 255) = false := beq_eq_false_iff_ne.mpr c8
     have c8b1 : ((rd l1 (ji3)) != 255) = true := bne_iff_ne.mpr c8
     obtain rfl := Option.some.inj H
     go_enter Try.func26, Try.ntmps26
     go_wp2_with (first | ((with_reducible refine gate_dst (N := 2) rfl ?_); refine uX 2 #[.int .i64 a0_0, .int .i64 a0_1, .int .i64 a0_2, .int .i64 a0_3, .int .i64 a0_4] 23 ?_; intro gb123 hg w23 hbox hb; have BK123 := uA hbox; have GW123 := uGe HB hg; have GE123 := uGe HB hg; replace HB := uBb HB hb; clear hg; have p124 : 0 ≤ ((ji3) : Int) := of_decide_eq_true (by first | (with_reducible assumption) | assumption); have q124 : (ji3) < (l1.length : Int) := of_decide_eq_true (by first | (with_reducible assumption) | assumption); obtain ⟨ad124, e124, hx124_0⟩ := Kd.at_int HR1.out (ji3) p124 q124; cases e124; replace hx124_0 := (HB.out.cell (World.block_lt_of_cell? w _ hx124_0)).trans hx124_0; replace p124 := eq_true p124; replace q124 := eq_true q124))
     go_ret
     exact ⟨by first | rfl | (simp [errW_none, errW_some] <;> rfl) | (simp only [← hji3]; first | rfl | (simp [errW_none, errW_some] <;> rfl)) | (simp [*, errW_none, errW_some] <;> rfl), uB HB.out⟩
  ·rw [if_neg c5] at H
   cases H
 ·rw [if_neg c4] at H
  cases H
def bch_size.f (a0 : Int) (l1 : List Int) : Option (Int × Int) := (bch_Bits.f a0).bind fun bt128 => (if bt128.2 = 0 then (if (l1.length : Int) < 1 then (some (wrap64 (Int.tdiv (wrap64 (bt128.1 + 7)) 8), 1)) else (if (l1.length : Int) > 512 then (some (wrap64 (Int.tdiv (wrap64 (bt128.1 + 7)) 8), 1)) else (some (wrap64 (Int.tdiv (wrap64 (bt128.1 + 7)) 8), bt128.2)))) else (some (wrap64 (Int.tdiv (wrap64 (bt128.1 + 7)) 8), bt128.2)))
set_option maxHeartbeats 8000000 in
set_option maxRecDepth 100000 in
theorem bch_size.calls (a0 : Int) (A1 : Option Addr) (c1 : Nat) (l1 : List Int) (r1 : Int) (r2 : Int) (w : World) (hr1 : Kd.C (Kd.int .u8) w A1 l1.length l1) (hc1 : l1.length ≤ c1) (h : bch_size.f a0 l1 = some (r1, r2)) :
  Calls Try.prog 47 #[.int .i64 a0, .slice A1 l1.length c1] w fun e w' => e = .returned (.tuple #[.int .i64 r1, .int .i64 r2]) ∧ Drawn0 w w' := by
 have HR1 := Aside0.mk hr1
 have HC1 := Aside0.mk hc1
 clear hr1 hc1
 have H := h
 unfold bch_size.f at H
 clear h
 obtain ⟨⟨t128, t129⟩, A3, H⟩ := uO H
 dsimp only at H
 by_cases c4 : t129 = 0
 ·rw [if_pos c4] at H
  have c4b0 : (t129 == 0) = true := beq_iff_eq.mpr c4
  have c4b1 : (t129 != 0) = false := bne_eq_false_iff_eq.mpr c4
  clear c4
  by_cases c5 : (l1.length : Int) < 1
  ·rw [if_pos c5] at H
   have c5b0 : decide ((l1.length : Int) < 1) = true := decide_eq_true c5
   have c5b1 : decide (l1.length < 1) = true := decide_eq_true (by omega)
   clear c5
   simp only [Option.some.injEq, Prod.mk.injEq] at H
   obtain ⟨rfl, rfl⟩ := H
   go_enter Try.func47, Try.ntmps47
   go_wp2_with (first | ((with_reducible refine gate_callee (f := 38) rfl ?_); refine uG (some 10) Try.func38 #[.int .i64 a0] ?_; (with_reducible refine (bch_Bits.calls a0 t128 t129 _ A3.out).mono ?_); rintro e w' ⟨rfl, ⟨nd, rfl⟩⟩; refine ⟨_, rfl, ?_⟩))
   go_ret2
   exact ⟨by first | rfl | (simp; done) | (simp [*]; done), by repeat (first | exact Drawn0.refl _ | apply Drawn0.step)⟩
  ·rw [if_neg c5] at H
   have c5b0 : decide ((l1.length : Int) < 1) = false := decide_eq_false c5
   have c5b1 : decide (l1.length < 1) = false := decide_eq_false (by omega)
   clear c5
   by_cases c6 : (l1.length : Int) > 512
   ·rw [if_pos c6] at H
    have c6b0 : decide (512 < (l1.length : Int)) = true := decide_eq_true c6
    have c6b1 : decide (512 < l1.length) = true := decide_eq_true (by omega)
    clear c6
    simp only [Option.some.injEq, Prod.mk.injEq] at H
    obtain ⟨rfl, rfl⟩ := H
    go_enter Try.func47, Try.ntmps47
    go_wp2_with (first | ((with_reducible refine gate_callee (f := 38) rfl ?_); refine uG (some 10) Try.func38 #[.int .i64 a0] ?_; (with_reducible refine (bch_Bits.calls a0 t128 t129 _ A3.out).mono ?_); rintro e w' ⟨rfl, ⟨nd, rfl⟩⟩; refine ⟨_, rfl, ?_⟩))
    go_ret2
    exact ⟨by first | rfl | (simp; done) | (simp [*]; done), by repeat (first | exact Drawn0.refl _ | apply Drawn0.step)⟩
   ·rw [if_neg c6] at H
    have c6b0 : decide (512 < (l1.length : Int)) = false := decide_eq_false c6
    have c6b1 : decide (512 < l1.length) = false := decide_eq_false (by omega)
    clear c6
    simp only [Option.some.injEq, Prod.mk.injEq] at H
    obtain ⟨rfl, rfl⟩ := H
    go_enter Try.func47, Try.ntmps47
    go_wp2_with (first | ((with_reducible refine gate_callee (f := 38) rfl ?_); refine uG (some 10) Try.func38 #[.int .i64 a0] ?_; (with_reducible refine (bch_Bits.calls a0 t128 t129 _ A3.out).mono ?_); rintro e w' ⟨rfl, ⟨nd, rfl⟩⟩; refine ⟨_, rfl, ?_⟩))
    go_ret2
    exact ⟨by first | rfl | (simp; done) | (simp [*]; done), by repeat (first | exact Drawn0.refl _ | apply Drawn0.step)⟩
 ·rw [if_neg c4] at H
  have c4b0 : (t129 == 0) = false := beq_eq_false_iff_ne.mpr c4
  have c4b1 : (t129 != 0) = true := bne_iff_ne.mpr c4
  simp only [Option.some.injEq, Prod.mk.injEq] at H
  obtain ⟨rfl, rfl⟩ := H
  go_enter Try.func47, Try.ntmps47
  go_wp2_with (first | ((with_reducible refine gate_callee (f := 38) rfl ?_); refine uG (some 10) Try.func38 #[.int .i64 a0] ?_; (with_reducible refine (bch_Bits.calls a0 t128 t129 _ A3.out).mono ?_); rintro e w' ⟨rfl, ⟨nd, rfl⟩⟩; refine ⟨_, rfl, ?_⟩))
  go_ret2
  exact ⟨by first | rfl | (simp; done) | (simp [*]; done), by repeat (first | exact Drawn0.refl _ | apply Drawn0.step)⟩
theorem clinfo_u8 : (Try.prog.info? 5).map (fun i => (i.zero, i.size, i.bytes)) = some (some (.int .u8 0), 1, 1) := by kernel_rfl
theorem clinfo_i : (Try.prog.info? 3).map (fun i => (i.zero, i.size, i.bytes)) = some (some (.int .i64 0), 1, 8) := by kernel_rfl
theorem cl_cells {k : IntKind} {w : World} {A : Option Addr} {n : Nat} {xs : List Int} (h : Kd.C (Kd.int k) w A n xs) (hn : xs.length = n) (h0 : 0 < n) : ∃ ad, A = some ad ∧ ∀ j u, (encs (Value.int k) xs)[j]? = some u → w.cell? (ad.add j) = some u := by
 obtain ⟨ad, hA, _⟩ := Kd.at_int h 0 (by omega) (by omega)
 refine ⟨ad, hA, fun j u hu => ?_⟩
 have hj : j < xs.length := by
  have := (List.getElem?_eq_some_iff.1 hu).1
  simpa [encs] using this
 obtain ⟨ad', hA', hc⟩ := Kd.at_int h (j : Int) (by omega) (by omega)
 rw [hA] at hA'
 cases hA'
 rw [Int.toNat_natCast] at hc
 rw [hc]
 simp only [encs, List.getElem?_map, List.getElem?_eq_getElem hj, Option.map_some, Option.some.injEq] at hu
 rw [← hu]
 simp [rd, List.getElem?_eq_getElem hj]
theorem cl_al {w : World} {p : Addr} {v : Value} (o : Obj) (h : w.cell? p = some v) : (w.alloc o).cell? p = some v := ((below_alloc (Below.refl _ w) o).cell (World.block_lt_of_cell? w _ h)).trans h
theorem cl_empty (w : World) (e : TypeId) : (w.alloc (.cells #[] e)).ownsRow w.heap.size e 1 (.slice (some ⟨w.heap.size, 0, none⟩) 0 0) 0 [] :=
 ⟨rfl, .inr ⟨w.heap.size, 0, #[], rfl, Nat.le_refl _, heap_alloc_new w _, Nat.le_refl _, by decide, rfl, rfl⟩⟩
theorem cl_one (x : List Int) {k : IntKind} : ∀ u ∈ encs (Value.int k) x, u.oneCell' = true := by
 intro u hu
 simp only [encs, List.mem_map] at hu
 obtain ⟨y, _, rfl⟩ := hu
 rfl
theorem cl_below (w : World) (e : TypeId) {w1 : World} (h : (w.alloc (.cells #[] e)).grownBy w1 (Value.slice (some ⟨w.heap.size, 0, none⟩) 0 0).ownBlock) : Below w.heap.size w w1 :=
 (below_alloc (Below.refl _ w) _).grown h (by simp) (fun k hk => by
  have : w.heap.size = k := by simpa [Value.ownBlock] using hk
  omega)
def clone (l : List Int) : Option (List Int) := if 0 < l.length then (if l.length ≤ 1000000 then some l else none) else none
def slices_Clone_byte_byte.f (l0 : List Int) : Option (List Int) := clone l0
set_option maxHeartbeats 1000000 in
theorem slices_Clone_byte_byte.calls (A0 : Option Addr) (c0 : Nat) (l0 : List Int) (r : List Int) (w : World) (hr0 : Kd.C (Kd.int .u8) w A0 l0.length l0) (hc0 : l0.length ≤ c0) (h : slices_Clone_byte_byte.f l0 = some r) :
  Calls Try.prog 56 #[.slice A0 l0.length c0] w fun e w' => ∃ v0_ : Value, e = .returned (v0_) ∧ Kd.R (Kd.int .u8) 5 w' w.heap.size (fun _ => True) v0_ r ∧ Below w.heap.size w w' := by
 unfold slices_Clone_byte_byte.f clone at h
 by_cases h0 : 0 < l0.length
 ·rw [if_pos h0] at h
  by_cases h1 : l0.length ≤ 1000000
  ·rw [if_pos h1] at h
   obtain rfl := Option.some.inj h
   obtain ⟨i0, hi, hz0, hz1, hz2⟩ := info_parts clinfo_u8
   have HI := Aside0.mk hi
   have HZ0 := Aside0.mk hz0
   have HZ1 := Aside0.mk hz1
   have HZ2 := Aside0.mk hz2
   obtain ⟨ad, rfl, hc⟩ := cl_cells hr0 rfl h0
   have HC := Aside0.mk hc
   have H0 := Aside0.mk h0
   have H1 := Aside0.mk h1
   clear hi hz0 hz1 hz2 hr0 hc h0 h1
   have kq := fun W => Lib.run_eql_slice_nil (P := Try.prog) W 26 5 (some ad) l0.length c0 0 0 Try.underlying26
   go_enter Try.func56, Try.ntmps56
   go_wp2_with (first | ((with_reducible refine gate_builtin (b := .append) (xs := #[.tmp 5, .tmp 6]) rfl ?_); at_builtin; (refine wpList_append_own _ rfl (.tmp 5) (.tmp 6) 26 rfl w.heap.size 5 i0 (.int .u8 0) 1 1 Try.underlying26 HI.out HZ0.out HZ1.out HZ2.out rfl (by decide) (.slice (some ⟨w.heap.size, 0, none⟩) 0 0) 0 [] rfl (cl_empty w 5) ad l0.length c0 (encs (Value.int .u8) l0) rfl (by simp [encs]) (fun j u hu => cl_al _ (HC.out j u hu)) (cl_one _) (by have := H1.out; unfold maxLen; omega) (by have := H1.out; omega) (by simp) ?_); (intro v' w1 ho' hb' hv'; have HO := Aside0.mk ho'; have HB := Aside0.mk (cl_below w 5 hb'); clear ho' hb' hv')))
   go_ret
   rw [Nat.zero_add, List.nil_append] at HO
   exact ⟨_, rfl, Kd.R_of_own (h1 := fun _ => rfl) HO.out (fun _ _ => trivial), HB.out⟩
  ·rw [if_neg h1] at h; exact absurd h (by simp)
 ·rw [if_neg h0] at h; exact absurd h (by simp)
/-- A state of type 75 at block g of W; what its slices lead to came in by w0. -/
def IsS75 (w0 W : World) (g : Nat) (f0 : Int) (f1 : List Int) (f2 : List Int) : Prop := ∃ A1 c1, ∃ A2 c2, W.heap[g]? = some (.cells #[.int .i64 f0, .slice A1 f1.length c1, .slice A2 f2.length c2] 75 (0, 0)) ∧ w0.heap.size ≤ g ∧ Kd.C (Kd.int .u8) w0 A1 f1.length f1 ∧ Kd.C (Kd.int .u8) w0 A2 f2.length f2
theorem IsS75.grown {w0 W : World} {g : Nat} {f0 : Int} {f1 : List Int} {f2 : List Int} {W1 : World} {row : Option Nat} (h : IsS75 w0 W g f0 f1 f2) (hw : W.grownBy W1 row) (hne : some g ≠ row) : IsS75 w0 W1 g f0 f1 f2 := by
 obtain ⟨A1, c1, A2, c2, hb, hg, hr1, hr2⟩ := h
 exact ⟨A1, c1, A2, c2, blk_grown hb hw hne, hg, hr1, hr2⟩
theorem IsS75.kept {w0 W : World} {g : Nat} {f0 : Int} {f1 : List Int} {f2 : List Int} {W1 : World} {S : Nat → Prop} (h : IsS75 w0 W g f0 f1 f2) (hk : Kept W W1 S) (hne : ¬ S g) : IsS75 w0 W1 g f0 f1 f2 := by
 obtain ⟨A1, c1, A2, c2, hb, hg, hr1, hr2⟩ := h
 exact ⟨A1, c1, A2, c2, blk_kept hb hk hne, hg, hr1, hr2⟩
theorem IsS75.below {w0 W : World} {g : Nat} {f0 : Int} {f1 : List Int} {f2 : List Int} {W1 : World} (h : IsS75 w0 W g f0 f1 f2) (hw : Below W.heap.size W W1) : IsS75 w0 W1 g f0 f1 f2 := h.grown (grown_of_below hw none) (by simp)
theorem IsS75.alloc {w0 W : World} {g : Nat} {f0 : Int} {f1 : List Int} {f2 : List Int} (h : IsS75 w0 W g f0 f1 f2) (o : Obj) : IsS75 w0 (W.alloc o) g f0 f1 f2 := h.below (below_alloc (Below.refl _ _) o)
theorem IsS75.drewN {w0 W : World} {g : Nat} {f0 : Int} {f1 : List Int} {f2 : List Int} (h : IsS75 w0 W g f0 f1 f2) (m : Nat) : IsS75 w0 (W.drewN m) g f0 f1 f2 := h
theorem IsS75.drew {w0 W : World} {g : Nat} {f0 : Int} {f1 : List Int} {f2 : List Int} (h : IsS75 w0 W g f0 f1 f2) : IsS75 w0 W.drew g f0 f1 f2 := h
theorem IsS75.at_ {w0 W : World} {g : Nat} {f0 : Int} {f1 : List Int} {f2 : List Int} {w' : World} {m : Nat} (hq : W.drewN m = w') (h : IsS75 w0 W g f0 f1 f2) : IsS75 w0 w' g f0 f1 f2 := by subst hq; exact IsS75.drewN h m
theorem IsS75.apart {w0 W : World} {g : Nat} {f0 : Int} {f1 : List Int} {f2 : List Int} {α : Type} {d : Kd α} {e : Nat} {base : Nat} {ok : Nat → Prop} {v : Value} {xs : List α} (h : IsS75 w0 W g f0 f1 f2) (ho : d.R e W base ok v xs) (ht : ∀ q, q ∈ e :: d.E → q ≠ 75) : d.R e W base (fun k => ok k ∧ k ≠ g) v xs := by
 obtain ⟨A1, c1, A2, c2, hb, hg, hr1, hr2⟩ := h
 exact Kd.R_types ho hb ht
theorem IsS75.own_ne {w0 W : World} {g : Nat} {f0 : Int} {f1 : List Int} {f2 : List Int} {α : Type} {d : Kd α} {e : Nat} {base : Nat} {ok : Nat → Prop} {v : Value} {xs : List α} (h : IsS75 w0 W g f0 f1 f2) (ho : d.R e W base ok v xs) (ht : e ≠ 75) : some g ≠ v.ownBlock := by
 obtain ⟨A1, c1, A2, c2, hb, hg, hr1, hr2⟩ := h
 exact Kd.R_ne ho hb ht
theorem IsS75.lt {w0 W : World} {g : Nat} {f0 : Int} {f1 : List Int} {f2 : List Int} (h : IsS75 w0 W g f0 f1 f2) : g < W.heap.size := by
 obtain ⟨A1, c1, A2, c2, hb, hg, hr1, hr2⟩ := h
 exact blk_lt hb
theorem IsS75.ge {w0 W : World} {g : Nat} {f0 : Int} {f1 : List Int} {f2 : List Int} (h : IsS75 w0 W g f0 f1 f2) : w0.heap.size ≤ g := by
 obtain ⟨A1, c1, A2, c2, hb, hg, hr1, hr2⟩ := h
 exact hg
theorem cellS75_0 {W : World} {g : Nat} {A1 : Option Addr} {c1 : Nat} {A2 : Option Addr} {c2 : Nat} {f0 : Int} {f1 : List Int} {f2 : List Int} (h : W.heap[g]? = some (.cells #[.int .i64 f0, .slice A1 f1.length c1, .slice A2 f2.length c2] 75 (0, 0))) : W.cell? ⟨g, 0, none⟩ = some (.int .i64 f0) := (blk_cell h 0).trans rfl
theorem IsS75.set_0 {w0 W : World} {g : Nat} {f0 : Int} {f1 : List Int} {f2 : List Int} (h : IsS75 w0 W g f0 f1 f2) (x : Int) : IsS75 w0 (W.setCell ⟨g, 0, none⟩ (.int .i64 x)) g x f1 f2 := by
 obtain ⟨A1, c1, A2, c2, hb, hg, hr1, hr2⟩ := h
 exact ⟨A1, c1, A2, c2, by simpa using blk_set hb 0 (.int .i64 x), hg, hr1, hr2⟩
theorem cellS75_1 {W : World} {g : Nat} {A1 : Option Addr} {c1 : Nat} {A2 : Option Addr} {c2 : Nat} {f0 : Int} {f1 : List Int} {f2 : List Int} (h : W.heap[g]? = some (.cells #[.int .i64 f0, .slice A1 f1.length c1, .slice A2 f2.length c2] 75 (0, 0))) : W.cell? ⟨g, 1, none⟩ = some (.slice A1 f1.length c1) := (blk_cell h 1).trans rfl
theorem cellS75_2 {W : World} {g : Nat} {A1 : Option Addr} {c1 : Nat} {A2 : Option Addr} {c2 : Nat} {f0 : Int} {f1 : List Int} {f2 : List Int} (h : W.heap[g]? = some (.cells #[.int .i64 f0, .slice A1 f1.length c1, .slice A2 f2.length c2] 75 (0, 0))) : W.cell? ⟨g, 2, none⟩ = some (.slice A2 f2.length c2) := (blk_cell h 2).trans rfl
def bch_word_len.f (s0_0 : Int) (s0_1 : List Int) (s0_2 : List Int) : Option (Int × Int) := some (wrap64 ((wrap64 (13 * s0_0)) + (wrap64 (8 * (s0_1.length : Int)))), s0_0)
set_option maxHeartbeats 8000000 in
set_option maxRecDepth 100000 in
theorem bch_word_len.calls (g : Nat) (s0_0 : Int) (s0_1 : List Int) (s0_2 : List Int) (r1 : Int) (r2 : Int) (w0 w : World) (hI : IsS75 w0 w g s0_0 s0_1 s0_2) (hB : Below w0.heap.size w0 w) (h : bch_word_len.f s0_0 s0_1 s0_2 = some (r1, r2)) :
  Calls Try.prog 42 #[.pointer (some ⟨g, 0, none⟩)] w fun e w' => e = .returned (.int .i64 r1) ∧ IsS75 w0 w' g r2 s0_1 s0_2 ∧ Below w0.heap.size w0 w' ∧ KeepBut w w' g none := by
 have HI0 := Aside0.mk hI
 have HK := Aside0.mk (KeepBut.refl w g none)
 have HL := Aside0.mk hB.size
 clear hI
 have HW0 := Aside0.mk hB.size
 have HB := Aside0.mk hB
 clear hB
 have H := h
 unfold bch_word_len.f at H
 clear h
 simp only [Option.some.injEq, Prod.mk.injEq] at H
 obtain ⟨rfl, rfl⟩ := H
 obtain ⟨ASz2_1, cSz2_1, ASz2_2, cSz2_2, HGz2, hgz2, HSz2_1, HSz2_2⟩ := HI0.out
 have hcz2_0 := cellS75_0 HGz2
 have hcz2_1 := cellS75_1 HGz2
 have hcz2_2 := cellS75_2 HGz2
 have hfz2_0 := blk_frozen HGz2 0
 clear HGz2 hgz2
 go_enter Try.func42, Try.ntmps42
 go_wp2
 repeat (go_quiet (fail); try go_wp2)
 go_ret
 exact ⟨rfl, by repeat (first | (with_reducible first | exact HI0.out | apply IsS75.alloc | apply IsS75.drewN | apply IsS75.drew | apply IsS75.set_0) | exact HI0.out), by repeat (first | (with_reducible first | exact HB.out | apply below_alloc | apply pw_below_drewN | apply below_drew1 | refine below_set ?_ (IsS75.ge HI0.out)) | exact HB.out), by repeat (first | (with_reducible first | exact HK.out | apply KeepBut.set_ | apply keep_drewN | apply keep_drew | apply keep_alloc) | exact HK.out)⟩
/-- A state of type 75 at block g of W: where its slices lie is told. -/
def IsT75 (TA : Option Addr) (TC : Nat) (TB : Option Addr) (TD : Nat) (w0 W : World) (g : Nat) (f0 : Int) (f1 : List Int) (f2 : List Int) : Prop := W.heap[g]? = some (.cells #[.int .i64 f0, .slice TA f1.length TC, .slice TB f2.length TD] 75 (0, 0)) ∧ w0.heap.size ≤ g ∧ Kd.C (Kd.int .u8) w0 TA f1.length f1 ∧ Kd.C (Kd.int .u8) w0 TB f2.length f2
theorem IsT75.grown {TA : Option Addr} {TC : Nat} {TB : Option Addr} {TD : Nat} {w0 W : World} {g : Nat} {f0 : Int} {f1 : List Int} {f2 : List Int} {W1 : World} {row : Option Nat} (h : IsT75 TA TC TB TD w0 W g f0 f1 f2) (hw : W.grownBy W1 row) (hne : some g ≠ row) : IsT75 TA TC TB TD w0 W1 g f0 f1 f2 := by
 obtain ⟨hb, hg, hr1, hr2⟩ := h
 exact ⟨blk_grown hb hw hne, hg, hr1, hr2⟩
theorem IsT75.kept {TA : Option Addr} {TC : Nat} {TB : Option Addr} {TD : Nat} {w0 W : World} {g : Nat} {f0 : Int} {f1 : List Int} {f2 : List Int} {W1 : World} {S : Nat → Prop} (h : IsT75 TA TC TB TD w0 W g f0 f1 f2) (hk : Kept W W1 S) (hne : ¬ S g) : IsT75 TA TC TB TD w0 W1 g f0 f1 f2 := by
 obtain ⟨hb, hg, hr1, hr2⟩ := h
 exact ⟨blk_kept hb hk hne, hg, hr1, hr2⟩
theorem IsT75.below {TA : Option Addr} {TC : Nat} {TB : Option Addr} {TD : Nat} {w0 W : World} {g : Nat} {f0 : Int} {f1 : List Int} {f2 : List Int} {W1 : World} (h : IsT75 TA TC TB TD w0 W g f0 f1 f2) (hw : Below W.heap.size W W1) : IsT75 TA TC TB TD w0 W1 g f0 f1 f2 := h.grown (grown_of_below hw none) (by simp)
theorem IsT75.alloc {TA : Option Addr} {TC : Nat} {TB : Option Addr} {TD : Nat} {w0 W : World} {g : Nat} {f0 : Int} {f1 : List Int} {f2 : List Int} (h : IsT75 TA TC TB TD w0 W g f0 f1 f2) (o : Obj) : IsT75 TA TC TB TD w0 (W.alloc o) g f0 f1 f2 := h.below (below_alloc (Below.refl _ _) o)
theorem IsT75.drewN {TA : Option Addr} {TC : Nat} {TB : Option Addr} {TD : Nat} {w0 W : World} {g : Nat} {f0 : Int} {f1 : List Int} {f2 : List Int} (h : IsT75 TA TC TB TD w0 W g f0 f1 f2) (m : Nat) : IsT75 TA TC TB TD w0 (W.drewN m) g f0 f1 f2 := h
theorem IsT75.drew {TA : Option Addr} {TC : Nat} {TB : Option Addr} {TD : Nat} {w0 W : World} {g : Nat} {f0 : Int} {f1 : List Int} {f2 : List Int} (h : IsT75 TA TC TB TD w0 W g f0 f1 f2) : IsT75 TA TC TB TD w0 W.drew g f0 f1 f2 := h
theorem IsT75.at_ {TA : Option Addr} {TC : Nat} {TB : Option Addr} {TD : Nat} {w0 W : World} {g : Nat} {f0 : Int} {f1 : List Int} {f2 : List Int} {w' : World} {m : Nat} (hq : W.drewN m = w') (h : IsT75 TA TC TB TD w0 W g f0 f1 f2) : IsT75 TA TC TB TD w0 w' g f0 f1 f2 := by subst hq; exact IsT75.drewN h m
theorem IsT75.apart {TA : Option Addr} {TC : Nat} {TB : Option Addr} {TD : Nat} {w0 W : World} {g : Nat} {f0 : Int} {f1 : List Int} {f2 : List Int} {α : Type} {d : Kd α} {e : Nat} {base : Nat} {ok : Nat → Prop} {v : Value} {xs : List α} (h : IsT75 TA TC TB TD w0 W g f0 f1 f2) (ho : d.R e W base ok v xs) (ht : ∀ q, q ∈ e :: d.E → q ≠ 75) : d.R e W base (fun k => ok k ∧ k ≠ g) v xs := by
 obtain ⟨hb, hg, hr1, hr2⟩ := h
 exact Kd.R_types ho hb ht
theorem IsT75.own_ne {TA : Option Addr} {TC : Nat} {TB : Option Addr} {TD : Nat} {w0 W : World} {g : Nat} {f0 : Int} {f1 : List Int} {f2 : List Int} {α : Type} {d : Kd α} {e : Nat} {base : Nat} {ok : Nat → Prop} {v : Value} {xs : List α} (h : IsT75 TA TC TB TD w0 W g f0 f1 f2) (ho : d.R e W base ok v xs) (ht : e ≠ 75) : some g ≠ v.ownBlock := by
 obtain ⟨hb, hg, hr1, hr2⟩ := h
 exact Kd.R_ne ho hb ht
theorem IsT75.lt {TA : Option Addr} {TC : Nat} {TB : Option Addr} {TD : Nat} {w0 W : World} {g : Nat} {f0 : Int} {f1 : List Int} {f2 : List Int} (h : IsT75 TA TC TB TD w0 W g f0 f1 f2) : g < W.heap.size := by
 obtain ⟨hb, hg, hr1, hr2⟩ := h
 exact blk_lt hb
theorem IsT75.ge {TA : Option Addr} {TC : Nat} {TB : Option Addr} {TD : Nat} {w0 W : World} {g : Nat} {f0 : Int} {f1 : List Int} {f2 : List Int} (h : IsT75 TA TC TB TD w0 W g f0 f1 f2) : w0.heap.size ≤ g := by
 obtain ⟨hb, hg, hr1, hr2⟩ := h
 exact hg
theorem IsT75.set_0 {TA : Option Addr} {TC : Nat} {TB : Option Addr} {TD : Nat} {w0 W : World} {g : Nat} {f0 : Int} {f1 : List Int} {f2 : List Int} (h : IsT75 TA TC TB TD w0 W g f0 f1 f2) (x : Int) : IsT75 TA TC TB TD w0 (W.setCell ⟨g, 0, none⟩ (.int .i64 x)) g x f1 f2 := by
 obtain ⟨hb, hg, hr1, hr2⟩ := h
 exact ⟨by simpa using blk_set hb 0 (.int .i64 x), hg, hr1, hr2⟩
set_option maxHeartbeats 8000000 in
set_option maxRecDepth 100000 in
theorem bch_word_len.callsT (TA : Option Addr) (TC : Nat) (TB : Option Addr) (TD : Nat) (g : Nat) (s0_0 : Int) (s0_1 : List Int) (s0_2 : List Int) (r1 : Int) (r2 : Int) (w0 w : World) (hI : IsT75 TA TC TB TD w0 w g s0_0 s0_1 s0_2) (hB : Below w0.heap.size w0 w) (h : bch_word_len.f s0_0 s0_1 s0_2 = some (r1, r2)) :
  Calls Try.prog 42 #[.pointer (some ⟨g, 0, none⟩)] w fun e w' => e = .returned (.int .i64 r1) ∧ IsT75 TA TC TB TD w0 w' g r2 s0_1 s0_2 ∧ Below w0.heap.size w0 w' ∧ KeepBut w w' g none := by
 have HI0 := Aside0.mk hI
 have HK := Aside0.mk (KeepBut.refl w g none)
 have HL := Aside0.mk hB.size
 clear hI
 have HW0 := Aside0.mk hB.size
 have HB := Aside0.mk hB
 clear hB
 have H : (some (wrap64 ((wrap64 (13 * s0_0)) + (wrap64 (8 * (s0_1.length : Int)))), s0_0)) = some (r1, r2) := h
 clear h
 simp only [Option.some.injEq, Prod.mk.injEq] at H
 obtain ⟨rfl, rfl⟩ := H
 obtain ⟨HGz2, hgz2, HSz2_1, HSz2_2⟩ := HI0.out
 have hcz2_0 := cellS75_0 HGz2
 have hcz2_1 := cellS75_1 HGz2
 have hcz2_2 := cellS75_2 HGz2
 have hfz2_0 := blk_frozen HGz2 0
 clear HGz2 hgz2
 go_enter Try.func42, Try.ntmps42
 go_wp2
 repeat (go_quiet (fail); try go_wp2)
 go_ret
 exact ⟨rfl, by repeat (first | (with_reducible first | exact HI0.out | apply IsT75.alloc | apply IsT75.drewN | apply IsT75.drew | apply IsT75.set_0) | exact HI0.out), by repeat (first | (with_reducible first | exact HB.out | apply below_alloc | apply pw_below_drewN | apply below_drew1 | refine below_set ?_ (IsT75.ge HI0.out)) | exact HB.out), by repeat (first | (with_reducible first | exact HK.out | apply KeepBut.set_ | apply keep_drewN | apply keep_drew | apply keep_alloc) | exact HK.out)⟩
def bch_word_at.f (s0_0 : Int) (s0_1 : List Int) (s0_2 : List Int) (a1 : Int) : Option (Bool × Int) := if (wrap64 (a1 - (wrap64 (13 * s0_0)))) ≥ 0 then (if 0 ≤ (wrap64 (Int.tdiv (wrap64 (a1 - (wrap64 (13 * s0_0)))) 8)) then (if (wrap64 (Int.tdiv (wrap64 (a1 - (wrap64 (13 * s0_0)))) 8)) < (s0_1.length : Int) then (if 0 ≤ (Int.tmod (wrap64 (a1 - (wrap64 (13 * s0_0)))) 8) then (some (((Go.bits .and .u8 (shr .u8 (rd s0_1 (wrap64 (Int.tdiv (wrap64 (a1 - (wrap64 (13 * s0_0)))) 8))) (Int.tmod (wrap64 (a1 - (wrap64 (13 * s0_0)))) 8)) 1) == 1), s0_0)) else (none)) else (none)) else (none)) else (if 0 ≤ (wrap64 (Int.tdiv a1 8)) then (if (wrap64 (Int.tdiv a1 8)) < (s0_2.length : Int) then (if 0 ≤ (Int.tmod a1 8) then (some (((Go.bits .and .u8 (shr .u8 (rd s0_2 (wrap64 (Int.tdiv a1 8))) (Int.tmod a1 8)) 1) == 1), s0_0)) else (none)) else (none)) else (none))
set_option maxHeartbeats 8000000 in
set_option maxRecDepth 100000 in
theorem bch_word_at.calls (g : Nat) (s0_0 : Int) (s0_1 : List Int) (s0_2 : List Int) (a1 : Int) (r1 : Bool) (r2 : Int) (w0 w : World) (hI : IsS75 w0 w g s0_0 s0_1 s0_2) (hB : Below w0.heap.size w0 w) (h : bch_word_at.f s0_0 s0_1 s0_2 a1 = some (r1, r2)) :
  Calls Try.prog 59 #[.pointer (some ⟨g, 0, none⟩), .int .i64 a1] w fun e w' => e = .returned (.bool r1) ∧ IsS75 w0 w' g r2 s0_1 s0_2 ∧ Below w0.heap.size w0 w' ∧ KeepBut w w' g none := by
 have HI0 := Aside0.mk hI
 have HK := Aside0.mk (KeepBut.refl w g none)
 have HL := Aside0.mk hB.size
 clear hI
 have HW0 := Aside0.mk hB.size
 have HB := Aside0.mk hB
 clear hB
 have H := h
 unfold bch_word_at.f at H
 clear h
 by_cases c3 : (wrap64 (a1 - (wrap64 (13 * s0_0)))) ≥ 0
 ·rw [if_pos c3] at H
  have c3b0 : decide (0 ≤ (wrap64 (a1 - (wrap64 (13 * s0_0))))) = true := decide_eq_true c3
  clear c3
  obtain ⟨ji4, hji4⟩ : ∃ j_ : Int, (wrap64 (Int.tdiv (wrap64 (a1 - (wrap64 (13 * s0_0)))) 8)) = j_ := ⟨_, rfl⟩
  first | rw [hji4] at H | simp only [hji4] at H
  have hji4w : (IntKind.i64.wrap (Int.tdiv (wrap64 (a1 - (wrap64 (13 * s0_0)))) 8)) = ji4 := (i64_w _).trans hji4
  by_cases c5 : 0 ≤ (ji4)
  ·rw [if_pos c5] at H
   have c5b0 : decide (0 ≤ (ji4)) = true := decide_eq_true c5
   clear c5
   by_cases c6 : (ji4) < (s0_1.length : Int)
   ·rw [if_pos c6] at H
    have c6b0 : decide ((ji4) < (s0_1.length : Int)) = true := decide_eq_true c6
    clear c6
    obtain ⟨ji7, hji7⟩ : ∃ j_ : Int, (Int.tmod (wrap64 (a1 - (wrap64 (13 * s0_0)))) 8) = j_ := ⟨_, rfl⟩
    first | rw [hji7] at H | simp only [hji7] at H
    by_cases c8 : 0 ≤ (ji7)
    ·rw [if_pos c8] at H
     have c8b0 := eq_true c8
     have c8b1 : decide (0 ≤ (ji7)) = true := decide_eq_true c8
     clear c8
     obtain ⟨ji9, hji9⟩ : ∃ j_ : Int, (shr .u8 (rd s0_1 (ji4)) (ji7)) = j_ := ⟨_, rfl⟩
     first | rw [hji9] at H | simp only [hji9] at H
     have hji9_ : ((rd s0_1 (ji4)) / 2 ^ min (ji7).toNat 8) = ji9 := hji9
     have hji9z : (ji7) ≤ 8 → ((rd s0_1 (ji4)) / 2 ^ (ji7).toNat) = ji9 := shr_small hji9
     simp only [Option.some.injEq, Prod.mk.injEq] at H
     obtain ⟨rfl, rfl⟩ := H
     obtain ⟨ASz10_1, cSz10_1, ASz10_2, cSz10_2, HGz10, hgz10, HSz10_1, HSz10_2⟩ := HI0.out
     have hcz10_0 := cellS75_0 HGz10
     have hcz10_1 := cellS75_1 HGz10
     have hcz10_2 := cellS75_2 HGz10
     have hfz10_0 := blk_frozen HGz10 0
     clear HGz10 hgz10
     have p130 : 0 ≤ ((ji4) : Int) := of_decide_eq_true (by first | (with_reducible assumption) | assumption)
     have q130 : (ji4) < (s0_1.length : Int) := of_decide_eq_true (by first | (with_reducible assumption) | assumption)
     obtain ⟨ad130, e130, hx130_0⟩ := Kd.at_int HSz10_1 (ji4) p130 q130
     cases e130
     replace hx130_0 := pw_cell_below HB.out hx130_0
     replace p130 := eq_true p130
     replace q130 := eq_true q130
     go_enter Try.func59, Try.ntmps59
     go_wp2
     go_ret
     exact ⟨by first | rfl | (simp [errW_none, errW_some] <;> rfl) | (simp only [← hji4, ← hji7, ← hji9]; first | rfl | (simp [errW_none, errW_some] <;> rfl)) | (simp [*, errW_none, errW_some] <;> rfl), by repeat (first | (with_reducible first | exact HI0.out | apply IsS75.alloc | apply IsS75.drewN | apply IsS75.drew | apply IsS75.set_0) | exact HI0.out), by repeat (first | (with_reducible first | exact HB.out | apply below_alloc | apply pw_below_drewN | apply below_drew1 | refine below_set ?_ (IsS75.ge HI0.out)) | exact HB.out), by repeat (first | (with_reducible first | exact HK.out | apply KeepBut.set_ | apply keep_drewN | apply keep_drew | apply keep_alloc) | exact HK.out)⟩
    ·rw [if_neg c8] at H
     cases H
   ·rw [if_neg c6] at H
    cases H
  ·rw [if_neg c5] at H
   cases H
 ·rw [if_neg c3] at H
  have c3b0 : decide (0 ≤ (wrap64 (a1 - (wrap64 (13 * s0_0))))) = false := decide_eq_false c3
  clear c3
  obtain ⟨ji11, hji11⟩ : ∃ j_ : Int, (wrap64 (Int.tdiv a1 8)) = j_ := ⟨_, rfl⟩
  first | rw [hji11] at H | simp only [hji11] at H
  have hji11w : (IntKind.i64.wrap (Int.tdiv a1 8)) = ji11 := (i64_w _).trans hji11
  by_cases c12 : 0 ≤ (ji11)
  ·rw [if_pos c12] at H
   have c12b0 : decide (0 ≤ (ji11)) = true := decide_eq_true c12
   clear c12
   by_cases c13 : (ji11) < (s0_2.length : Int)
   ·rw [if_pos c13] at H
    have c13b0 : decide ((ji11) < (s0_2.length : Int)) = true := decide_eq_true c13
    clear c13
    obtain ⟨ji14, hji14⟩ : ∃ j_ : Int, (Int.tmod a1 8) = j_ := ⟨_, rfl⟩
    first | rw [hji14] at H | simp only [hji14] at H
    by_cases c15 : 0 ≤ (ji14)
    ·rw [if_pos c15] at H
     have c15b0 := eq_true c15
     have c15b1 : decide (0 ≤ (ji14)) = true := decide_eq_true c15
     clear c15
     obtain ⟨ji16, hji16⟩ : ∃ j_ : Int, (shr .u8 (rd s0_2 (ji11)) (ji14)) = j_ := ⟨_, rfl⟩
     first | rw [hji16] at H | simp only [hji16] at H
     have hji16_ : ((rd s0_2 (ji11)) / 2 ^ min (ji14).toNat 8) = ji16 := hji16
     have hji16z : (ji14) ≤ 8 → ((rd s0_2 (ji11)) / 2 ^ (ji14).toNat) = ji16 := shr_small hji16
     simp only [Option.some.injEq, Prod.mk.injEq] at H
     obtain ⟨rfl, rfl⟩ := H
     obtain ⟨ASz17_1, cSz17_1, ASz17_2, cSz17_2, HGz17, hgz17, HSz17_1, HSz17_2⟩ := HI0.out
     have hcz17_0 := cellS75_0 HGz17
     have hcz17_1 := cellS75_1 HGz17
     have hcz17_2 := cellS75_2 HGz17
     have hfz17_0 := blk_frozen HGz17 0
     clear HGz17 hgz17
     have p131 : 0 ≤ ((ji11) : Int) := of_decide_eq_true (by first | (with_reducible assumption) | assumption)
     have q131 : (ji11) < (s0_2.length : Int) := of_decide_eq_true (by first | (with_reducible assumption) | assumption)
     obtain ⟨ad131, e131, hx131_0⟩ := Kd.at_int HSz17_2 (ji11) p131 q131
     cases e131
     replace hx131_0 := pw_cell_below HB.out hx131_0
     replace p131 := eq_true p131
     replace q131 := eq_true q131
     go_enter Try.func59, Try.ntmps59
     go_wp2
     go_ret
     exact ⟨by first | rfl | (simp [errW_none, errW_some] <;> rfl) | (simp only [← hji11, ← hji14, ← hji16]; first | rfl | (simp [errW_none, errW_some] <;> rfl)) | (simp [*, errW_none, errW_some] <;> rfl), by repeat (first | (with_reducible first | exact HI0.out | apply IsS75.alloc | apply IsS75.drewN | apply IsS75.drew | apply IsS75.set_0) | exact HI0.out), by repeat (first | (with_reducible first | exact HB.out | apply below_alloc | apply pw_below_drewN | apply below_drew1 | refine below_set ?_ (IsS75.ge HI0.out)) | exact HB.out), by repeat (first | (with_reducible first | exact HK.out | apply KeepBut.set_ | apply keep_drewN | apply keep_drew | apply keep_alloc) | exact HK.out)⟩
    ·rw [if_neg c15] at H
     cases H
   ·rw [if_neg c13] at H
    cases H
  ·rw [if_neg c12] at H
   cases H
set_option maxHeartbeats 8000000 in
set_option maxRecDepth 100000 in
theorem bch_word_at.callsT (TA : Option Addr) (TC : Nat) (TB : Option Addr) (TD : Nat) (g : Nat) (s0_0 : Int) (s0_1 : List Int) (s0_2 : List Int) (a1 : Int) (r1 : Bool) (r2 : Int) (w0 w : World) (hI : IsT75 TA TC TB TD w0 w g s0_0 s0_1 s0_2) (hB : Below w0.heap.size w0 w) (h : bch_word_at.f s0_0 s0_1 s0_2 a1 = some (r1, r2)) :
  Calls Try.prog 59 #[.pointer (some ⟨g, 0, none⟩), .int .i64 a1] w fun e w' => e = .returned (.bool r1) ∧ IsT75 TA TC TB TD w0 w' g r2 s0_1 s0_2 ∧ Below w0.heap.size w0 w' ∧ KeepBut w w' g none := by
 have HI0 := Aside0.mk hI
 have HK := Aside0.mk (KeepBut.refl w g none)
 have HL := Aside0.mk hB.size
 clear hI
 have HW0 := Aside0.mk hB.size
 have HB := Aside0.mk hB
 clear hB
 have H : (if (wrap64 (a1 - (wrap64 (13 * s0_0)))) ≥ 0 then (if 0 ≤ (wrap64 (Int.tdiv (wrap64 (a1 - (wrap64 (13 * s0_0)))) 8)) then (if (wrap64 (Int.tdiv (wrap64 (a1 - (wrap64 (13 * s0_0)))) 8)) < (s0_1.length : Int) then (if 0 ≤ (Int.tmod (wrap64 (a1 - (wrap64 (13 * s0_0)))) 8) then (some (((Go.bits .and .u8 (shr .u8 (rd s0_1 (wrap64 (Int.tdiv (wrap64 (a1 - (wrap64 (13 * s0_0)))) 8))) (Int.tmod (wrap64 (a1 - (wrap64 (13 * s0_0)))) 8)) 1) == 1), s0_0)) else (none)) else (none)) else (none)) else (if 0 ≤ (wrap64 (Int.tdiv a1 8)) then (if (wrap64 (Int.tdiv a1 8)) < (s0_2.length : Int) then (if 0 ≤ (Int.tmod a1 8) then (some (((Go.bits .and .u8 (shr .u8 (rd s0_2 (wrap64 (Int.tdiv a1 8))) (Int.tmod a1 8)) 1) == 1), s0_0)) else (none)) else (none)) else (none))) = some (r1, r2) := h
 clear h
 by_cases c3 : (wrap64 (a1 - (wrap64 (13 * s0_0)))) ≥ 0
 ·rw [if_pos c3] at H
  have c3b0 : decide (0 ≤ (wrap64 (a1 - (wrap64 (13 * s0_0))))) = true := decide_eq_true c3
  clear c3
  obtain ⟨ji4, hji4⟩ : ∃ j_ : Int, (wrap64 (Int.tdiv (wrap64 (a1 - (wrap64 (13 * s0_0)))) 8)) = j_ := ⟨_, rfl⟩
  first | rw [hji4] at H | simp only [hji4] at H
  have hji4w : (IntKind.i64.wrap (Int.tdiv (wrap64 (a1 - (wrap64 (13 * s0_0)))) 8)) = ji4 := (i64_w _).trans hji4
  by_cases c5 : 0 ≤ (ji4)
  ·rw [if_pos c5] at H
   have c5b0 : decide (0 ≤ (ji4)) = true := decide_eq_true c5
   clear c5
   by_cases c6 : (ji4) < (s0_1.length : Int)
   ·rw [if_pos c6] at H
    have c6b0 : decide ((ji4) < (s0_1.length : Int)) = true := decide_eq_true c6
    clear c6
    obtain ⟨ji7, hji7⟩ : ∃ j_ : Int, (Int.tmod (wrap64 (a1 - (wrap64 (13 * s0_0)))) 8) = j_ := ⟨_, rfl⟩
    first | rw [hji7] at H | simp only [hji7] at H
    by_cases c8 : 0 ≤ (ji7)
    ·rw [if_pos c8] at H
     have c8b0 := eq_true c8
     have c8b1 : decide (0 ≤ (ji7)) = true := decide_eq_true c8
     clear c8
     obtain ⟨ji9, hji9⟩ : ∃ j_ : Int, (shr .u8 (rd s0_1 (ji4)) (ji7)) = j_ := ⟨_, rfl⟩
     first | rw [hji9] at H | simp only [hji9] at H
     have hji9_ : ((rd s0_1 (ji4)) / 2 ^ min (ji7).toNat 8) = ji9 := hji9
     have hji9z : (ji7) ≤ 8 → ((rd s0_1 (ji4)) / 2 ^ (ji7).toNat) = ji9 := shr_small hji9
     simp only [Option.some.injEq, Prod.mk.injEq] at H
     obtain ⟨rfl, rfl⟩ := H
     obtain ⟨HGz10, hgz10, HSz10_1, HSz10_2⟩ := HI0.out
     have hcz10_0 := cellS75_0 HGz10
     have hcz10_1 := cellS75_1 HGz10
     have hcz10_2 := cellS75_2 HGz10
     have hfz10_0 := blk_frozen HGz10 0
     clear HGz10 hgz10
     have p130 : 0 ≤ ((ji4) : Int) := of_decide_eq_true (by first | (with_reducible assumption) | assumption)
     have q130 : (ji4) < (s0_1.length : Int) := of_decide_eq_true (by first | (with_reducible assumption) | assumption)
     obtain ⟨ad130, e130, hx130_0⟩ := Kd.at_int HSz10_1 (ji4) p130 q130
     cases e130
     replace hx130_0 := pw_cell_below HB.out hx130_0
     replace p130 := eq_true p130
     replace q130 := eq_true q130
     go_enter Try.func59, Try.ntmps59
     go_wp2
     go_ret
     exact ⟨by first | rfl | (simp [errW_none, errW_some] <;> rfl) | (simp only [← hji4, ← hji7, ← hji9]; first | rfl | (simp [errW_none, errW_some] <;> rfl)) | (simp [*, errW_none, errW_some] <;> rfl), by repeat (first | (with_reducible first | exact HI0.out | apply IsT75.alloc | apply IsT75.drewN | apply IsT75.drew | apply IsT75.set_0) | exact HI0.out), by repeat (first | (with_reducible first | exact HB.out | apply below_alloc | apply pw_below_drewN | apply below_drew1 | refine below_set ?_ (IsT75.ge HI0.out)) | exact HB.out), by repeat (first | (with_reducible first | exact HK.out | apply KeepBut.set_ | apply keep_drewN | apply keep_drew | apply keep_alloc) | exact HK.out)⟩
    ·rw [if_neg c8] at H
     cases H
   ·rw [if_neg c6] at H
    cases H
  ·rw [if_neg c5] at H
   cases H
 ·rw [if_neg c3] at H
  have c3b0 : decide (0 ≤ (wrap64 (a1 - (wrap64 (13 * s0_0))))) = false := decide_eq_false c3
  clear c3
  obtain ⟨ji11, hji11⟩ : ∃ j_ : Int, (wrap64 (Int.tdiv a1 8)) = j_ := ⟨_, rfl⟩
  first | rw [hji11] at H | simp only [hji11] at H
  have hji11w : (IntKind.i64.wrap (Int.tdiv a1 8)) = ji11 := (i64_w _).trans hji11
  by_cases c12 : 0 ≤ (ji11)
  ·rw [if_pos c12] at H
   have c12b0 : decide (0 ≤ (ji11)) = true := decide_eq_true c12
   clear c12
   by_cases c13 : (ji11) < (s0_2.length : Int)
   ·rw [if_pos c13] at H
    have c13b0 : decide ((ji11) < (s0_2.length : Int)) = true := decide_eq_true c13
    clear c13
    obtain ⟨ji14, hji14⟩ : ∃ j_ : Int, (Int.tmod a1 8) = j_ := ⟨_, rfl⟩
    first | rw [hji14] at H | simp only [hji14] at H
    by_cases c15 : 0 ≤ (ji14)
    ·rw [if_pos c15] at H
     have c15b0 := eq_true c15
     have c15b1 : decide (0 ≤ (ji14)) = true := decide_eq_true c15
     clear c15
     obtain ⟨ji16, hji16⟩ : ∃ j_ : Int, (shr .u8 (rd s0_2 (ji11)) (ji14)) = j_ := ⟨_, rfl⟩
     first | rw [hji16] at H | simp only [hji16] at H
     have hji16_ : ((rd s0_2 (ji11)) / 2 ^ min (ji14).toNat 8) = ji16 := hji16
     have hji16z : (ji14) ≤ 8 → ((rd s0_2 (ji11)) / 2 ^ (ji14).toNat) = ji16 := shr_small hji16
     simp only [Option.some.injEq, Prod.mk.injEq] at H
     obtain ⟨rfl, rfl⟩ := H
     obtain ⟨HGz17, hgz17, HSz17_1, HSz17_2⟩ := HI0.out
     have hcz17_0 := cellS75_0 HGz17
     have hcz17_1 := cellS75_1 HGz17
     have hcz17_2 := cellS75_2 HGz17
     have hfz17_0 := blk_frozen HGz17 0
     clear HGz17 hgz17
     have p131 : 0 ≤ ((ji11) : Int) := of_decide_eq_true (by first | (with_reducible assumption) | assumption)
     have q131 : (ji11) < (s0_2.length : Int) := of_decide_eq_true (by first | (with_reducible assumption) | assumption)
     obtain ⟨ad131, e131, hx131_0⟩ := Kd.at_int HSz17_2 (ji11) p131 q131
     cases e131
     replace hx131_0 := pw_cell_below HB.out hx131_0
     replace p131 := eq_true p131
     replace q131 := eq_true q131
     go_enter Try.func59, Try.ntmps59
     go_wp2
     go_ret
     exact ⟨by first | rfl | (simp [errW_none, errW_some] <;> rfl) | (simp only [← hji11, ← hji14, ← hji16]; first | rfl | (simp [errW_none, errW_some] <;> rfl)) | (simp [*, errW_none, errW_some] <;> rfl), by repeat (first | (with_reducible first | exact HI0.out | apply IsT75.alloc | apply IsT75.drewN | apply IsT75.drew | apply IsT75.set_0) | exact HI0.out), by repeat (first | (with_reducible first | exact HB.out | apply below_alloc | apply pw_below_drewN | apply below_drew1 | refine below_set ?_ (IsT75.ge HI0.out)) | exact HB.out), by repeat (first | (with_reducible first | exact HK.out | apply KeepBut.set_ | apply keep_drewN | apply keep_drew | apply keep_alloc) | exact HK.out)⟩
    ·rw [if_neg c15] at H
     cases H
   ·rw [if_neg c13] at H
    cases H
  ·rw [if_neg c12] at H
   cases H
def gf_mul.l0 : Nat → Int → Int → Int → Option (Int)
 | 0, _, _, _ => none
 | k + 1, x0, x1, x5 => if x1 = 0 then (some x5) else (if (Go.bits .and .i64 x1 1) = 1 then (if (wrap64 (x0 * 2)) ≥ 8192 then (gf_mul.l0 k (Go.bits .xor .i64 (wrap64 (x0 * 2)) 8219) (x1 / 2) (Go.bits .xor .i64 x5 x0)) else (gf_mul.l0 k (wrap64 (x0 * 2)) (x1 / 2) (Go.bits .xor .i64 x5 x0))) else (if (wrap64 (x0 * 2)) ≥ 8192 then (gf_mul.l0 k (Go.bits .xor .i64 (wrap64 (x0 * 2)) 8219) (x1 / 2) x5) else (gf_mul.l0 k (wrap64 (x0 * 2)) (x1 / 2) x5)))
def gf_mul.f (k : Nat) (a0 : Int) (a1 : Int) : Option (Int) := gf_mul.l0 k a0 a1 0
theorem gf_mul.mono_l : ∀ k, (∀ y0 y1 y2, LeO (gf_mul.l0 k y0 y1 y2) (gf_mul.l0 (k + 1) y0 y1 y2))
 | 0 => fun _ _ _ r h => by simp [gf_mul.l0] at h
 | k + 1 => by
  have ih0 := gf_mul.mono_l k
  ·intro y0 y1 y2
   unfold gf_mul.l0
   repeat' first
   | (with_reducible exact ih0 _ _ _)
   | (with_reducible exact LeO.refl _)
   | (with_reducible exact LeO.none _)
   | (with_reducible refine LeO.ite ?_ ?_)
   | (with_reducible refine LeO.bind ?_ (fun _ => ?_))
   | exact ih0 _ _ _
   | exact LeO.none _
   | refine LeO.ite ?_ ?_
   | refine LeO.bind ?_ (fun _ => ?_)
theorem gf_mul.mono : ∀ a0 a1 k, LeO (gf_mul.f k a0 a1) (gf_mul.f (k + 1) a0 a1) := by
 intro a0 a1 k
 have ih0 := gf_mul.mono_l k
 unfold gf_mul.f
 repeat' first
   | (with_reducible exact ih0 _ _ _)
   | (with_reducible exact LeO.refl _)
   | (with_reducible exact LeO.none _)
   | (with_reducible refine LeO.ite ?_ ?_)
   | (with_reducible refine LeO.bind ?_ (fun _ => ?_))
   | exact ih0 _ _ _
   | exact LeO.none _
   | refine LeO.ite ?_ ?_
   | refine LeO.bind ?_ (fun _ => ?_)
set_option maxHeartbeats 8000000 in
set_option maxRecDepth 100000 in
theorem gf_mul.calls (k : Nat) (a0 : Int) (a1 : Int) (r : Int) (w : World) (h : gf_mul.f k a0 a1 = some r) :
  Calls Try.prog 74 #[.int .i64 a0, .int .i64 a1] w fun e w' => e = .returned (.int .i64 r) ∧ Drawn0 w w' := by
 have H : (gf_mul.l0 k a0 a1 0) = some r := h
 clear h
 have H' := Aside0.mk H
 clear H
 go_enter Try.func74, Try.ntmps74
 go_wp2
 go_loopg [0, 1, 5] k (fun kq v0 v1 v5 w' => ∃ (x0_1 : Int) (x1_1 : Int) (x5_1 : Int), v0 = .int .i64 x0_1 ∧ v1 = .int .i64 x1_1 ∧ v5 = .int .i64 x5_1 ∧ Aside0 (gf_mul.l0 kq x0_1 x1_1 x5_1 = some r) ∧ Aside0 (kq ≤ k) ∧ Drawn0 w w')
 case atStart => exact ⟨(a0), (a1), (0), rfl, rfl, rfl, H', ⟨Nat.le_refl _⟩, by repeat (first | exact Drawn0.refl _ | apply Drawn0.step)⟩
 case round =>
  clear H'
  obtain ⟨x0_1, x1_1, x5_1, rfl, rfl, rfl, HA, HK1, ⟨m1, rfl⟩⟩ := hrel
  cases gk with
  | zero => exact absurd HA.out (by simp [gf_mul.l0])
  | succ k1 =>
   have H := HA.out
   clear HA
   simp only [gf_mul.l0] at H
   by_cases c3 : x1_1 = 0
   ·rw [if_pos c3] at H
    have c3b0 : (x1_1 == 0) = true := beq_iff_eq.mpr c3
    have c3b1 : (x1_1 != 0) = false := bne_eq_false_iff_eq.mpr c3
    clear c3
    obtain rfl := Option.some.inj H
    go_wp2
    go_ret
    exact ⟨by first | rfl | (simp; done) | (simp [*]; done), by repeat (first | exact Drawn0.refl _ | apply Drawn0.step)⟩
   ·rw [if_neg c3] at H
    have c3b0 : (x1_1 == 0) = false := beq_eq_false_iff_ne.mpr c3
    have c3b1 : (x1_1 != 0) = true := bne_iff_ne.mpr c3
    by_cases c4 : (Go.bits .and .i64 x1_1 1) = 1
    ·rw [if_pos c4] at H
     have c4b0 : ((Go.bits .and .i64 x1_1 1) == 1) = true := beq_iff_eq.mpr c4
     have c4b1 : ((Go.bits .and .i64 x1_1 1) != 1) = false := bne_eq_false_iff_eq.mpr c4
     clear c4
     by_cases c5 : (wrap64 (x0_1 * 2)) ≥ 8192
     ·rw [if_pos c5] at H
      have c5b0 : decide (8192 ≤ (wrap64 (x0_1 * 2))) = true := decide_eq_true c5
      clear c5
      have H' := Aside0.mk H
      clear H
      go_wp2
      go_roundg k1
      case measure => have := HK1.out; omega
      case rel => exact ⟨(Go.bits .xor .i64 (wrap64 (x0_1 * 2)) 8219), (x1_1 / 2), (Go.bits .xor .i64 x5_1 x0_1), rfl, rfl, rfl, H', ⟨by have := HK1.out; omega⟩, by repeat (first | exact Drawn0.refl _ | apply Drawn0.step)⟩
     ·rw [if_neg c5] at H
      have c5b0 : decide (8192 ≤ (wrap64 (x0_1 * 2))) = false := decide_eq_false c5
      clear c5
      have H' := Aside0.mk H
      clear H
      go_wp2
      go_roundg k1
      case measure => have := HK1.out; omega
      case rel => exact ⟨(wrap64 (x0_1 * 2)), (x1_1 / 2), (Go.bits .xor .i64 x5_1 x0_1), rfl, rfl, rfl, H', ⟨by have := HK1.out; omega⟩, by repeat (first | exact Drawn0.refl _ | apply Drawn0.step)⟩
    ·rw [if_neg c4] at H
     have c4b0 : ((Go.bits .and .i64 x1_1 1) == 1) = false := beq_eq_false_iff_ne.mpr c4
     have c4b1 : ((Go.bits .and .i64 x1_1 1) != 1) = true := bne_iff_ne.mpr c4
     by_cases c6 : (wrap64 (x0_1 * 2)) ≥ 8192
     ·rw [if_pos c6] at H
      have c6b0 : decide (8192 ≤ (wrap64 (x0_1 * 2))) = true := decide_eq_true c6
      clear c6
      have H' := Aside0.mk H
      clear H
      go_wp2
      go_roundg k1
      case measure => have := HK1.out; omega
      case rel => exact ⟨(Go.bits .xor .i64 (wrap64 (x0_1 * 2)) 8219), (x1_1 / 2), (x5_1), rfl, rfl, rfl, H', ⟨by have := HK1.out; omega⟩, by repeat (first | exact Drawn0.refl _ | apply Drawn0.step)⟩
     ·rw [if_neg c6] at H
      have c6b0 : decide (8192 ≤ (wrap64 (x0_1 * 2))) = false := decide_eq_false c6
      clear c6
      have H' := Aside0.mk H
      clear H
      go_wp2
      go_roundg k1
      case measure => have := HK1.out; omega
      case rel => exact ⟨(wrap64 (x0_1 * 2)), (x1_1 / 2), (x5_1), rfl, rfl, rfl, H', ⟨by have := HK1.out; omega⟩, by repeat (first | exact Drawn0.refl _ | apply Drawn0.step)⟩
def gf_pow.l0 : Nat → Int → Int → Int → Option (Int)
 | 0, _, _, _ => none
 | k + 1, x0, x1, x5 => if x1 > 0 then (if (Go.bits .and .i64 x1 1) = 1 then ((gf_mul.f k x5 x0).bind fun t132 => ((gf_mul.f k x0 x0).bind fun t133 => (gf_pow.l0 k t133 (x1 / 2) t132))) else ((gf_mul.f k x0 x0).bind fun t134 => (gf_pow.l0 k t134 (x1 / 2) x5))) else (some x5)
def gf_pow.f (k : Nat) (a0 : Int) (a1 : Int) : Option (Int) := gf_pow.l0 k a0 a1 1
theorem gf_pow.mono_l : ∀ k, (∀ y0 y1 y2, LeO (gf_pow.l0 k y0 y1 y2) (gf_pow.l0 (k + 1) y0 y1 y2))
 | 0 => fun _ _ _ r h => by simp [gf_pow.l0] at h
 | k + 1 => by
  have ih0 := gf_pow.mono_l k
  ·intro y0 y1 y2
   unfold gf_pow.l0
   repeat' first
   | (with_reducible exact ih0 _ _ _)
   | (with_reducible exact gf_mul.mono _ _ _)
   | (with_reducible exact LeO.refl _)
   | (with_reducible exact LeO.none _)
   | (with_reducible refine LeO.ite ?_ ?_)
   | (with_reducible refine LeO.bind ?_ (fun _ => ?_))
   | exact ih0 _ _ _
   | exact gf_mul.mono _ _ _
   | exact LeO.none _
   | refine LeO.ite ?_ ?_
   | refine LeO.bind ?_ (fun _ => ?_)
theorem gf_pow.mono : ∀ a0 a1 k, LeO (gf_pow.f k a0 a1) (gf_pow.f (k + 1) a0 a1) := by
 intro a0 a1 k
 have ih0 := gf_pow.mono_l k
 unfold gf_pow.f
 repeat' first
   | (with_reducible exact ih0 _ _ _)
   | (with_reducible exact gf_mul.mono _ _ _)
   | (with_reducible exact LeO.refl _)
   | (with_reducible exact LeO.none _)
   | (with_reducible refine LeO.ite ?_ ?_)
   | (with_reducible refine LeO.bind ?_ (fun _ => ?_))
   | exact ih0 _ _ _
   | exact gf_mul.mono _ _ _
   | exact LeO.none _
   | refine LeO.ite ?_ ?_
   | refine LeO.bind ?_ (fun _ => ?_)
set_option maxHeartbeats 8000000 in
set_option maxRecDepth 100000 in
theorem gf_pow.calls (k : Nat) (a0 : Int) (a1 : Int) (r : Int) (w : World) (h : gf_pow.f k a0 a1 = some r) :
  Calls Try.prog 60 #[.int .i64 a0, .int .i64 a1] w fun e w' => e = .returned (.int .i64 r) ∧ Drawn0 w w' := by
 have H : (gf_pow.l0 k a0 a1 1) = some r := h
 clear h
 have H' := Aside0.mk H
 clear H
 go_enter Try.func60, Try.ntmps60
 go_wp2
 go_loopg [0, 1, 5] k (fun kq v0 v1 v5 w' => ∃ (x0_1 : Int) (x1_1 : Int) (x5_1 : Int), v0 = .int .i64 x0_1 ∧ v1 = .int .i64 x1_1 ∧ v5 = .int .i64 x5_1 ∧ Aside0 (gf_pow.l0 kq x0_1 x1_1 x5_1 = some r) ∧ Aside0 (kq ≤ k) ∧ Drawn0 w w')
 case atStart => exact ⟨(a0), (a1), (1), rfl, rfl, rfl, H', ⟨Nat.le_refl _⟩, by repeat (first | exact Drawn0.refl _ | apply Drawn0.step)⟩
 case round =>
  clear H'
  obtain ⟨x0_1, x1_1, x5_1, rfl, rfl, rfl, HA, HK1, ⟨m1, rfl⟩⟩ := hrel
  cases gk with
  | zero => exact absurd HA.out (by simp [gf_pow.l0])
  | succ k1 =>
   have H := HA.out
   clear HA
   simp only [gf_pow.l0] at H
   by_cases c3 : x1_1 > 0
   ·rw [if_pos c3] at H
    have c3b0 : decide (0 < x1_1) = true := decide_eq_true c3
    clear c3
    by_cases c4 : (Go.bits .and .i64 x1_1 1) = 1
    ·rw [if_pos c4] at H
     have c4b0 : ((Go.bits .and .i64 x1_1 1) == 1) = true := beq_iff_eq.mpr c4
     have c4b1 : ((Go.bits .and .i64 x1_1 1) != 1) = false := bne_eq_false_iff_eq.mpr c4
     clear c4
     obtain ⟨t132, A5, H⟩ := uO H
     obtain ⟨t133, A6, H⟩ := uO H
     have H' := Aside0.mk H
     clear H
     go_wp2_with (first | ((with_reducible refine gate_callee (f := 74) rfl ?_); refine uG (some 15) Try.func74 #[.int .i64 x5_1, .int .i64 x0_1] ?_; (with_reducible refine (gf_mul.calls k1 x5_1 x0_1 t132 _ A5.out).mono ?_); rintro e w' ⟨rfl, ⟨nd, rfl⟩⟩; refine ⟨_, rfl, ?_⟩) | ((with_reducible refine gate_callee (f := 74) rfl ?_); refine uG (some 18) Try.func74 #[.int .i64 x0_1, .int .i64 x0_1] ?_; (with_reducible refine (gf_mul.calls k1 x0_1 x0_1 t133 _ A6.out).mono ?_); rintro e w' ⟨rfl, ⟨nd, rfl⟩⟩; refine ⟨_, rfl, ?_⟩))
     go_roundg k1
     case measure => have := HK1.out; omega
     case rel => exact ⟨(t133), (x1_1 / 2), (t132), rfl, rfl, rfl, H', ⟨by have := HK1.out; omega⟩, by repeat (first | exact Drawn0.refl _ | apply Drawn0.step)⟩
    ·rw [if_neg c4] at H
     have c4b0 : ((Go.bits .and .i64 x1_1 1) == 1) = false := beq_eq_false_iff_ne.mpr c4
     have c4b1 : ((Go.bits .and .i64 x1_1 1) != 1) = true := bne_iff_ne.mpr c4
     obtain ⟨t134, A7, H⟩ := uO H
     have H' := Aside0.mk H
     clear H
     go_wp2_with (first | ((with_reducible refine gate_callee (f := 74) rfl ?_); refine uG (some 18) Try.func74 #[.int .i64 x0_1, .int .i64 x0_1] ?_; (with_reducible refine (gf_mul.calls k1 x0_1 x0_1 t134 _ A7.out).mono ?_); rintro e w' ⟨rfl, ⟨nd, rfl⟩⟩; refine ⟨_, rfl, ?_⟩))
     go_roundg k1
     case measure => have := HK1.out; omega
     case rel => exact ⟨(t134), (x1_1 / 2), (x5_1), rfl, rfl, rfl, H', ⟨by have := HK1.out; omega⟩, by repeat (first | exact Drawn0.refl _ | apply Drawn0.step)⟩
   ·rw [if_neg c3] at H
    have c3b0 : decide (0 < x1_1) = false := decide_eq_false c3
    clear c3
    obtain rfl := Option.some.inj H
    go_wp2
    go_ret
    exact ⟨by first | rfl | (simp; done) | (simp [*]; done), by repeat (first | exact Drawn0.refl _ | apply Drawn0.step)⟩
def gf_around.f (a0 : Int) : Option (Int) := if (Int.tmod a0 8191) < 0 then (some (wrap64 ((Int.tmod a0 8191) + 8191))) else (some (Int.tmod a0 8191))
set_option maxHeartbeats 8000000 in
set_option maxRecDepth 100000 in
theorem gf_around.calls (a0 : Int) (r : Int) (w : World) (h : gf_around.f a0 = some r) :
  Calls Try.prog 61 #[.int .i64 a0] w fun e w' => e = .returned (.int .i64 r) ∧ Drawn0 w w' := by
 have H := h
 unfold gf_around.f at H
 clear h
 by_cases c2 : (Int.tmod a0 8191) < 0
 ·rw [if_pos c2] at H
  have c2b0 : decide ((Int.tmod a0 8191) < 0) = true := decide_eq_true c2
  clear c2
  obtain rfl := Option.some.inj H
  go_enter Try.func61, Try.ntmps61
  go_wp2
  go_ret
  exact ⟨by first | rfl | (simp; done) | (simp [*]; done), by repeat (first | exact Drawn0.refl _ | apply Drawn0.step)⟩
 ·rw [if_neg c2] at H
  have c2b0 : decide ((Int.tmod a0 8191) < 0) = false := decide_eq_false c2
  clear c2
  obtain rfl := Option.some.inj H
  go_enter Try.func61, Try.ntmps61
  go_wp2
  go_ret
  exact ⟨by first | rfl | (simp; done) | (simp [*]; done), by repeat (first | exact Drawn0.refl _ | apply Drawn0.step)⟩
def gf_Exp.f (k : Nat) (a0 : Int) : Option (Int) := (gf_around.f a0).bind fun t135 => ((gf_pow.f k 2 t135).bind fun t136 => (some t136))
theorem gf_Exp.mono : ∀ a0 k, LeO (gf_Exp.f k a0) (gf_Exp.f (k + 1) a0) := by
 intro a0 k
 unfold gf_Exp.f
 repeat' first
   | (with_reducible exact gf_pow.mono _ _ _)
   | (with_reducible exact LeO.refl _)
   | (with_reducible exact LeO.none _)
   | (with_reducible refine LeO.ite ?_ ?_)
   | (with_reducible refine LeO.bind ?_ (fun _ => ?_))
   | exact gf_pow.mono _ _ _
   | exact LeO.none _
   | refine LeO.ite ?_ ?_
   | refine LeO.bind ?_ (fun _ => ?_)
set_option maxHeartbeats 8000000 in
set_option maxRecDepth 100000 in
theorem gf_Exp.calls (k : Nat) (a0 : Int) (r : Int) (w : World) (h : gf_Exp.f k a0 = some r) :
  Calls Try.prog 43 #[.int .i64 a0] w fun e w' => e = .returned (.int .i64 r) ∧ Drawn0 w w' := by
 have H := h
 unfold gf_Exp.f at H
 clear h
 obtain ⟨t135, A2, H⟩ := uO H
 obtain ⟨t136, A3, H⟩ := uO H
 obtain rfl := Option.some.inj H
 go_enter Try.func43, Try.ntmps43
 go_wp2_with (first | ((with_reducible refine gate_callee (f := 61) rfl ?_); refine uG (some 4) Try.func61 #[.int .i64 a0] ?_; (with_reducible refine (gf_around.calls a0 t135 _ A2.out).mono ?_); rintro e w' ⟨rfl, ⟨nd, rfl⟩⟩; refine ⟨_, rfl, ?_⟩) | ((with_reducible refine gate_callee (f := 60) rfl ?_); refine uG (some 5) Try.func60 #[.int .i64 2, .int .i64 t135] ?_; (with_reducible refine (gf_pow.calls k 2 t135 t136 _ A3.out).mono ?_); rintro e w' ⟨rfl, ⟨nd, rfl⟩⟩; refine ⟨_, rfl, ?_⟩))
 go_ret
 exact ⟨by first | rfl | (simp; done) | (simp [*]; done), by repeat (first | exact Drawn0.refl _ | apply Drawn0.step)⟩
def gf_is.f (a0 : Int) : Option (Bool) := if a0 ≥ 0 then (some (decide (a0 < 8192))) else (some false)
set_option maxHeartbeats 8000000 in
set_option maxRecDepth 100000 in
theorem gf_is.calls (a0 : Int) (r : Bool) (w : World) (h : gf_is.f a0 = some r) :
  Calls Try.prog 73 #[.int .i64 a0] w fun e w' => e = .returned (.bool r) ∧ Drawn0 w w' := by
 have H : (if a0 ≥ 0 then (some (decide (a0 < 8192))) else (some false)) = some r := h
 clear h
 by_cases c2 : a0 ≥ 0
 ·rw [if_pos c2] at H
  have c2b0 : decide (0 ≤ a0) = true := decide_eq_true c2
  clear c2
  obtain rfl := Option.some.inj H
  go_enter Try.func73, Try.ntmps73
  go_wp2
  go_ret
  exact ⟨by first | rfl | (simp; done) | (simp [*]; done), by repeat (first | exact Drawn0.refl _ | apply Drawn0.step)⟩
 ·rw [if_neg c2] at H
  have c2b0 : decide (0 ≤ a0) = false := decide_eq_false c2
  clear c2
  obtain rfl := Option.some.inj H
  go_enter Try.func73, Try.ntmps73
  go_wp2
  go_ret
  exact ⟨by first | rfl | (simp; done) | (simp [*]; done), by repeat (first | exact Drawn0.refl _ | apply Drawn0.step)⟩
def gf_Mul.f (k : Nat) (a0 : Int) (a1 : Int) : Option (Int × Int) := (gf_is.f a0).bind fun t137 => (if t137 = true then ((gf_is.f a1).bind fun t138 => (if t138 = true then ((gf_mul.f k a0 a1).bind fun t139 => (some (t139, 0))) else (some (0, 1)))) else (some (0, 1)))
theorem gf_Mul.mono : ∀ a0 a1 k, LeO (gf_Mul.f k a0 a1) (gf_Mul.f (k + 1) a0 a1) := by
 intro a0 a1 k
 unfold gf_Mul.f
 repeat' first
   | (with_reducible exact gf_mul.mono _ _ _)
   | (with_reducible exact LeO.refl _)
   | (with_reducible exact LeO.none _)
   | (with_reducible refine LeO.ite ?_ ?_)
   | (with_reducible refine LeO.bind ?_ (fun _ => ?_))
   | exact gf_mul.mono _ _ _
   | exact LeO.none _
   | refine LeO.ite ?_ ?_
   | refine LeO.bind ?_ (fun _ => ?_)
set_option maxHeartbeats 8000000 in
set_option maxRecDepth 100000 in
theorem gf_Mul.calls (k : Nat) (a0 : Int) (a1 : Int) (r1 : Int) (r2 : Int) (w : World) (h : gf_Mul.f k a0 a1 = some (r1, r2)) :
  Calls Try.prog 62 #[.int .i64 a0, .int .i64 a1] w fun e w' => e = .returned (.tuple #[.int .i64 r1, .int .i64 r2]) ∧ Drawn0 w w' := by
 have H := h
 unfold gf_Mul.f at H
 clear h
 obtain ⟨t137, A3, H⟩ := uO H
 by_cases c4 : t137 = true
 ·subst c4
  replace H := uI rfl H
  obtain ⟨t138, A5, H⟩ := uO H
  by_cases c6 : t138 = true
  ·subst c6
   replace H := uI rfl H
   obtain ⟨t139, A7, H⟩ := uO H
   simp only [Option.some.injEq, Prod.mk.injEq] at H
   obtain ⟨rfl, rfl⟩ := H
   go_enter Try.func62, Try.ntmps62
   go_wp2_with (first | ((with_reducible refine gate_callee (f := 73) rfl ?_); refine uG (some 7) Try.func73 #[.int .i64 a0] ?_; (with_reducible refine (gf_is.calls a0 true _ A3.out).mono ?_); rintro e w' ⟨rfl, ⟨nd, rfl⟩⟩; refine ⟨_, rfl, ?_⟩) | (go_at_call 73; (with_reducible refine (gf_is.calls a1 true _ A5.out).mono ?_); rintro e w' ⟨rfl, ⟨nd, rfl⟩⟩) | ((with_reducible refine gate_callee (f := 74) rfl ?_); refine uG (some 16) Try.func74 #[.int .i64 a0, .int .i64 a1] ?_; (with_reducible refine (gf_mul.calls k a0 a1 t139 _ A7.out).mono ?_); rintro e w' ⟨rfl, ⟨nd, rfl⟩⟩; refine ⟨_, rfl, ?_⟩))
   go_ret2
   exact ⟨by first | rfl | (simp; done) | (simp [*]; done), by repeat (first | exact Drawn0.refl _ | apply Drawn0.step)⟩
  ·replace c6 := Bool.eq_false_iff.mpr c6
   subst c6
   replace H := uJ uN0 H
   simp only [Option.some.injEq, Prod.mk.injEq] at H
   obtain ⟨rfl, rfl⟩ := H
   go_enter Try.func62, Try.ntmps62
   go_wp2_with (first | ((with_reducible refine gate_callee (f := 73) rfl ?_); refine uG (some 7) Try.func73 #[.int .i64 a0] ?_; (with_reducible refine (gf_is.calls a0 true _ A3.out).mono ?_); rintro e w' ⟨rfl, ⟨nd, rfl⟩⟩; refine ⟨_, rfl, ?_⟩) | (go_at_call 73; (with_reducible refine (gf_is.calls a1 false _ A5.out).mono ?_); rintro e w' ⟨rfl, ⟨nd, rfl⟩⟩))
   go_ret2
   exact ⟨by first | rfl | (simp; done) | (simp [*]; done), by repeat (first | exact Drawn0.refl _ | apply Drawn0.step)⟩
 ·replace c4 := Bool.eq_false_iff.mpr c4
  subst c4
  replace H := uJ uN0 H
  simp only [Option.some.injEq, Prod.mk.injEq] at H
  obtain ⟨rfl, rfl⟩ := H
  go_enter Try.func62, Try.ntmps62
  go_wp2_with (first | ((with_reducible refine gate_callee (f := 73) rfl ?_); refine uG (some 7) Try.func73 #[.int .i64 a0] ?_; (with_reducible refine (gf_is.calls a0 false _ A3.out).mono ?_); rintro e w' ⟨rfl, ⟨nd, rfl⟩⟩; refine ⟨_, rfl, ?_⟩))
  go_ret2
  exact ⟨by first | rfl | (simp; done) | (simp [*]; done), by repeat (first | exact Drawn0.refl _ | apply Drawn0.step)⟩
def bch_mul.f (k : Nat) (a0 : Int) (a1 : Int) : Option (Int) := (gf_Mul.f k a0 a1).bind fun bt140 => (some bt140.1)
theorem bch_mul.mono : ∀ a0 a1 k, LeO (bch_mul.f k a0 a1) (bch_mul.f (k + 1) a0 a1) := by
 intro a0 a1 k
 unfold bch_mul.f
 repeat' first
   | (with_reducible exact gf_Mul.mono _ _ _)
   | (with_reducible exact LeO.refl _)
   | (with_reducible exact LeO.none _)
   | (with_reducible refine LeO.ite ?_ ?_)
   | (with_reducible refine LeO.bind ?_ (fun _ => ?_))
   | exact gf_Mul.mono _ _ _
   | exact LeO.none _
   | refine LeO.ite ?_ ?_
   | refine LeO.bind ?_ (fun _ => ?_)
set_option maxHeartbeats 8000000 in
set_option maxRecDepth 100000 in
theorem bch_mul.calls (k : Nat) (a0 : Int) (a1 : Int) (r : Int) (w : World) (h : bch_mul.f k a0 a1 = some r) :
  Calls Try.prog 44 #[.int .i64 a0, .int .i64 a1] w fun e w' => e = .returned (.int .i64 r) ∧ Drawn0 w w' := by
 have H : ((gf_Mul.f k a0 a1).bind fun bt140 => (some bt140.1)) = some r := h
 clear h
 obtain ⟨⟨t140, t141⟩, A3, H⟩ := uO H
 dsimp only at H
 obtain rfl := Option.some.inj H
 go_enter Try.func44, Try.ntmps44
 go_wp2_with (first | ((with_reducible refine gate_callee (f := 62) rfl ?_); refine uG (some 10) Try.func62 #[.int .i64 a0, .int .i64 a1] ?_; (with_reducible refine (gf_Mul.calls k a0 a1 t140 t141 _ A3.out).mono ?_); rintro e w' ⟨rfl, ⟨nd, rfl⟩⟩; refine ⟨_, rfl, ?_⟩))
 go_ret
 exact ⟨by first | rfl | (simp; done) | (simp [*]; done), by repeat (first | exact Drawn0.refl _ | apply Drawn0.step)⟩
mutual
def bch_word_sums.l0 : Nat → List Int → Int → Int → Int → List Int → List Int → Option (List Int × Int)
 | 0, _, _, _, _, _, _ => none
 | k + 1, x3, x15, x16, x1000, x1001, x1002 => if x16 < x15 then ((gf_Exp.f k (wrap64 (x16 + 1))).bind fun t145 => ((bch_word_len.f x1000 x1001 x1002).bind fun bt146 => (bch_word_sums.l1 k x3 x16 t145 0 (wrap64 (bt146.1 - 1)) x15 x16 bt146.2 x1001 x1002))) else (some (x3, x1000))
def bch_word_sums.l1 : Nat → List Int → Int → Int → Int → Int → Int → Int → Int → List Int → List Int → Option (List Int × Int)
 | 0, _, _, _, _, _, _, _, _, _, _ => none
 | k + 1, x3, x4, x5, x6, x7, x15, x16, x1000, x1001, x1002 => if x7 ≥ 0 then ((bch_mul.f k x6 x5).bind fun t149 => ((bch_word_at.f x1000 x1001 x1002 x7).bind fun bt150 => (if bt150.1 = true then (bch_word_sums.l1 k x3 x4 x5 (Go.bits .xor .i64 t149 1) (wrap64 (x7 - 1)) x15 x16 bt150.2 x1001 x1002) else (bch_word_sums.l1 k x3 x4 x5 t149 (wrap64 (x7 - 1)) x15 x16 bt150.2 x1001 x1002)))) else (if 0 ≤ x4 then (if x4 < (x3.length : Int) then (bch_word_sums.l0 k (x3.set (x4 : Int).toNat x6) x15 (wrap64 (x16 + 1)) x1000 x1001 x1002) else (none)) else (none))
end
def bch_word_sums.f (k : Nat) (s0_0 : Int) (s0_1 : List Int) (s0_2 : List Int) : Option (List Int × Int) := if 0 ≤ (wrap64 (2 * s0_0)) then (if (wrap64 (2 * s0_0) : Int).toNat ≤ 35184372088832 then ((some (List.replicate (wrap64 (2 * s0_0) : Int).toNat 0 : List Int)).bind fun y142 => (bch_word_sums.l0 k y142 (y142.length : Int) 0 s0_0 s0_1 s0_2)) else (none)) else (none)
theorem bch_word_sums.mono_l : ∀ k, (∀ y0 y1 y2 y3 y4 y5, LeO (bch_word_sums.l0 k y0 y1 y2 y3 y4 y5) (bch_word_sums.l0 (k + 1) y0 y1 y2 y3 y4 y5)) ∧ (∀ y0 y1 y2 y3 y4 y5 y6 y7 y8 y9, LeO (bch_word_sums.l1 k y0 y1 y2 y3 y4 y5 y6 y7 y8 y9) (bch_word_sums.l1 (k + 1) y0 y1 y2 y3 y4 y5 y6 y7 y8 y9))
 | 0 => ⟨fun _ _ _ _ _ _ r h => by simp [bch_word_sums.l0] at h, fun _ _ _ _ _ _ _ _ _ _ r h => by simp [bch_word_sums.l1] at h⟩
 | k + 1 => by
  obtain ⟨ih0, ih1⟩ := bch_word_sums.mono_l k
  refine ⟨?_, ?_⟩
  ·intro y0 y1 y2 y3 y4 y5
   unfold bch_word_sums.l0
   repeat' first
   | (with_reducible exact ih0 _ _ _ _ _ _)
   | (with_reducible exact ih1 _ _ _ _ _ _ _ _ _ _)
   | (with_reducible exact bch_mul.mono _ _ _)
   | (with_reducible exact gf_Exp.mono _ _)
   | (with_reducible exact LeO.refl _)
   | (with_reducible exact LeO.none _)
   | (with_reducible refine LeO.ite ?_ ?_)
   | (with_reducible refine LeO.bind ?_ (fun _ => ?_))
   | exact ih0 _ _ _ _ _ _
   | exact ih1 _ _ _ _ _ _ _ _ _ _
   | exact bch_mul.mono _ _ _
   | exact gf_Exp.mono _ _
   | exact LeO.none _
   | refine LeO.ite ?_ ?_
   | refine LeO.bind ?_ (fun _ => ?_)
  ·intro y0 y1 y2 y3 y4 y5 y6 y7 y8 y9
   unfold bch_word_sums.l1
   repeat' first
   | (with_reducible exact ih0 _ _ _ _ _ _)
   | (with_reducible exact ih1 _ _ _ _ _ _ _ _ _ _)
   | (with_reducible exact bch_mul.mono _ _ _)
   | (with_reducible exact gf_Exp.mono _ _)
   | (with_reducible exact LeO.refl _)
   | (with_reducible exact LeO.none _)
   | (with_reducible refine LeO.ite ?_ ?_)
   | (with_reducible refine LeO.bind ?_ (fun _ => ?_))
   | exact ih0 _ _ _ _ _ _
   | exact ih1 _ _ _ _ _ _ _ _ _ _
   | exact bch_mul.mono _ _ _
   | exact gf_Exp.mono _ _
   | exact LeO.none _
   | refine LeO.ite ?_ ?_
   | refine LeO.bind ?_ (fun _ => ?_)
theorem bch_word_sums.mono : ∀ a0 a1 a2 k, LeO (bch_word_sums.f k a0 a1 a2) (bch_word_sums.f (k + 1) a0 a1 a2) := by
 intro a0 a1 a2 k
 obtain ⟨ih0, ih1⟩ := bch_word_sums.mono_l k
 unfold bch_word_sums.f
 repeat' first
   | (with_reducible exact ih0 _ _ _ _ _ _)
   | (with_reducible exact ih1 _ _ _ _ _ _ _ _ _ _)
   | (with_reducible exact bch_mul.mono _ _ _)
   | (with_reducible exact gf_Exp.mono _ _)
   | (with_reducible exact LeO.refl _)
   | (with_reducible exact LeO.none _)
   | (with_reducible refine LeO.ite ?_ ?_)
   | (with_reducible refine LeO.bind ?_ (fun _ => ?_))
   | exact ih0 _ _ _ _ _ _
   | exact ih1 _ _ _ _ _ _ _ _ _ _
   | exact bch_mul.mono _ _ _
   | exact gf_Exp.mono _ _
   | exact LeO.none _
   | refine LeO.ite ?_ ?_
   | refine LeO.bind ?_ (fun _ => ?_)
set_option maxHeartbeats 8000000 in
set_option maxRecDepth 100000 in
theorem bch_word_sums.calls (k : Nat) (g : Nat) (s0_0 : Int) (s0_1 : List Int) (s0_2 : List Int) (r1 : List Int) (r2 : Int) (w0 w : World) (hI : IsS75 w0 w g s0_0 s0_1 s0_2) (hB : Below w0.heap.size w0 w) (h : bch_word_sums.f k s0_0 s0_1 s0_2 = some (r1, r2)) :
  Calls Try.prog 41 #[.pointer (some ⟨g, 0, none⟩)] w fun e w' => ∃ v0_ : Value, e = .returned (v0_) ∧ Kd.R (Kd.int .i64) 3 w' w.heap.size (fun _ => True) v0_ r1 ∧ IsS75 w0 w' g r2 s0_1 s0_2 ∧ Below w0.heap.size w0 w' ∧ KeepBut w w' g none := by
 have HI0 := Aside0.mk hI
 have HK := Aside0.mk (KeepBut.refl w g none)
 have HL := Aside0.mk hB.size
 clear hI
 have HW0 := Aside0.mk hB.size
 have HB := Aside0.mk hB
 clear hB
 have H := h
 unfold bch_word_sums.f at H
 clear h
 obtain ⟨ji2, hji2⟩ : ∃ j_ : Int, (wrap64 (2 * s0_0)) = j_ := ⟨_, rfl⟩
 first | rw [hji2] at H | simp only [hji2] at H
 have hji2w : (IntKind.i64.wrap (2 * s0_0)) = ji2 := (i64_w _).trans hji2
 by_cases c3 : 0 ≤ (ji2)
 ·rw [if_pos c3] at H
  have c3b0 := eq_true c3
  have c3b1 : decide (0 ≤ (ji2)) = true := decide_eq_true c3
  clear c3
  by_cases c4 : (ji2 : Int).toNat ≤ 35184372088832
  ·rw [if_pos c4] at H
   have c4b0 := eq_true c4
   have c4b1 : decide ((ji2 : Int).toNat ≤ 35184372088832) = true := decide_eq_true c4
   clear c4
   rw [uY] at H
   obtain ⟨y142, Ny142, H⟩ := H
   have H' := Aside0.mk H
   clear H
   obtain ⟨ASz5_1, cSz5_1, ASz5_2, cSz5_2, HGz5, hgz5, HSz5_1, HSz5_2⟩ := HI0.out
   have hcz5_0 := cellS75_0 HGz5
   have hcz5_1 := cellS75_1 HGz5
   have hcz5_2 := cellS75_2 HGz5
   have hfz5_0 := blk_frozen HGz5 0
   clear HGz5 hgz5
   go_enter Try.func41, Try.ntmps41
   go_wp2_with (first | ((with_reducible refine gate_dst (N := 13) rfl ?_); refine Kd.R_make (Kd.int .i64) _ 3 rfl (N := 13) rfl 48 _ _ rfl ji2 rfl rfl Try.underlying48 (.int .i64 0) 8 info3 rfl (by decide) (by omega) 0 (ok := fun _ => True) (okp := fun _ => True) rfl (fun _ hk => hk) trivial (of_decide_eq_true (by first | (with_reducible assumption) | assumption)) (Nat.le_trans (Nat.mul_le_mul_right _ (of_decide_eq_true (by first | (with_reducible assumption) | assumption) : ji2.toNat ≤ 35184372088832)) (by omega)) (Below.refl _ _) (Nat.le_refl _) ?_; intro v143 w6 ho7 hb hg_ hnew_; clear hg_ hnew_; (first | rw [← Ny142.out] at ho7 | (simp only [Int.reduceToNat] at ho7; rw [← Ny142.out] at ho7)); have HO144 := uA (Kd.R_lower ho7 (keep_size (w := w) (g := g) (row := none) (by repeat (first | (with_reducible first | exact HK.out | apply KeepBut.set_ | apply keep_drewN | apply keep_drew | apply keep_alloc) | exact HK.out)))); replace HK := uA (KeepBut.trans (by repeat (first | (with_reducible first | exact HK.out | apply KeepBut.set_ | apply keep_drewN | apply keep_drew | apply keep_alloc) | exact HK.out)) (KeepBut.of_below hb g none) (.inl rfl)); replace HB := uA (below_step (by repeat (first | (with_reducible first | exact HB.out | apply below_alloc | apply pw_below_drewN | apply below_drew1 | refine below_set ?_ (IsS75.ge HI0.out)) | exact HB.out)) hb); replace HI0 := uA (IsS75.below (by repeat (first | (with_reducible first | exact HI0.out | apply IsS75.alloc | apply IsS75.drewN | apply IsS75.drew | apply IsS75.set_0) | exact HI0.out)) hb); clear hb ho7; obtain ⟨Ao8, co8, eo8⟩ := Kd.R_slice HO144.out; subst eo8))
   go_loopg [16] k (fun kq v16 w' => ∃ (x3_1 : List Int) (x16_1 : Int) (x1000_1 : Int), v16 = .int .i64 x16_1 ∧ Aside0 (bch_word_sums.l0 kq x3_1 (y142.length : Int) x16_1 x1000_1 s0_1 s0_2 = some (r1, r2)) ∧ Aside0 (kq ≤ k) ∧ Aside0 (Kd.R (Kd.int .i64) 3 w' w.heap.size (fun _ => True) (.slice Ao8 y142.length co8) x3_1) ∧ Aside0 (IsS75 w0 w' g x1000_1 s0_1 s0_2) ∧ Aside0 (KeepBut w w' g none) ∧ Aside0 (Below w0.heap.size w0 w'))
   case atStart => exact ⟨(y142), (0), (s0_0), rfl, H', ⟨Nat.le_refl _⟩, ⟨uR HO144.out⟩, ⟨by repeat (first | (with_reducible first | exact HI0.out | apply IsS75.alloc | apply IsS75.drewN | apply IsS75.drew | apply IsS75.set_0) | exact HI0.out)⟩, ⟨by repeat (first | (with_reducible first | exact HK.out | apply KeepBut.set_ | apply keep_drewN | apply keep_drew | apply keep_alloc) | exact HK.out)⟩, ⟨by repeat (first | (with_reducible first | exact HB.out | apply below_alloc | apply pw_below_drewN | apply below_drew1 | refine below_set ?_ (IsS75.ge HI0.out)) | exact HB.out)⟩⟩
   case round =>
    clear H'
    obtain ⟨x3_1, x16_1, x1000_1, rfl, HA, HK1, HO_3, HI0, HK, HB⟩ := hrel
    have hl3_1 := (Kd.R_reads' HO_3.out).1
    rw [hl3_1] at HO_3
    (try simp only [hl3_1])
    cases gk with
    | zero => exact absurd HA.out (by simp [bch_word_sums.l0])
    | succ k1 =>
     have H := HA.out
     clear HA
     simp only [bch_word_sums.l0] at H
     by_cases c9 : x16_1 < (y142.length : Int)
     ·rw [if_pos c9] at H
      have c9b0 : decide (x16_1 < (y142.length : Int)) = true := decide_eq_true c9
      (try rw [hl3_1] at c9b0)
      clear c9
      obtain ⟨t145, A10, H⟩ := uO H
      obtain ⟨⟨t146, t147⟩, A11, H⟩ := uO H
      dsimp only at H
      have H' := Aside0.mk H
      clear H
      go_wp2_with (first | ((with_reducible refine gate_callee (f := 43) rfl ?_); refine uG (some 21) Try.func43 #[.int .i64 (wrap64 (x16_1 + 1))] ?_; (with_reducible refine (gf_Exp.calls k1 (wrap64 (x16_1 + 1)) t145 _ A10.out).mono ?_); rintro e w' ⟨rfl, ⟨nd, rfl⟩⟩; refine ⟨_, rfl, ?_⟩) | ((with_reducible refine gate_callee (f := 42) rfl ?_); refine uG (some 23) Try.func42 #[.pointer (some ⟨g, 0, none⟩)] ?_; (with_reducible refine (bch_word_len.calls g x1000_1 s0_1 s0_2 t146 t147 w0 _ ?side1 ?side2 A11.out).mono ?_); (case side1 => repeat (first | (with_reducible first | exact HI0.out | apply IsS75.alloc | apply IsS75.drewN | apply IsS75.drew | apply IsS75.set_0) | exact HI0.out)); (case side2 => repeat (first | (with_reducible first | exact HB.out | apply below_alloc | apply pw_below_drewN | apply below_drew1 | refine below_set ?_ (IsS75.ge HI0.out)) | exact HB.out)); rintro e w12 ⟨rfl, hi, hb, hk⟩; refine ⟨_, rfl, ?_⟩; replace HO_3 := uA (Kd.R_mono (Kd.R_keep (IsS75.apart (show IsS75 w0 _ g x1000_1 s0_1 s0_2 from by repeat (first | (with_reducible first | exact HI0.out | apply IsS75.alloc | apply IsS75.drewN | apply IsS75.drew | apply IsS75.set_0) | exact HI0.out)) (uR HO_3.out) (by decide)) hk (fun _ h => h.2)) (fun _ h => h.1)); replace HK := uA (KeepBut.trans (by repeat (first | (with_reducible first | exact HK.out | apply KeepBut.set_ | apply keep_drewN | apply keep_drew | apply keep_alloc) | exact HK.out)) hk (.inl rfl)); replace HB := uA hb; replace HI0 := uA hi))
      go_loopg [6, 7] k1 (fun kq v6 v7 w' => ∃ (x6_2 : Int) (x7_2 : Int) (x1000_2 : Int), v6 = .int .i64 x6_2 ∧ v7 = .int .i64 x7_2 ∧ Aside0 (bch_word_sums.l1 kq x3_1 x16_1 t145 x6_2 x7_2 (y142.length : Int) x16_1 x1000_2 s0_1 s0_2 = some (r1, r2)) ∧ Aside0 (kq ≤ k1) ∧ Aside0 (Kd.R (Kd.int .i64) 3 w' w.heap.size (fun _ => True) (.slice Ao8 x3_1.length co8) x3_1) ∧ Aside0 (IsS75 w0 w' g x1000_2 s0_1 s0_2) ∧ Aside0 (KeepBut w w' g none) ∧ Aside0 (Below w0.heap.size w0 w'))
      case atStart => exact ⟨(0), (wrap64 (t146 - 1)), (t147), rfl, rfl, H', ⟨Nat.le_refl _⟩, ⟨by (try simp only [hl3_1]); (with_reducible repeat (first | apply Kd.R_alloc | apply Kd.R_drewN | apply Kd.R_drew)); exact HO_3.out⟩, ⟨by repeat (first | (with_reducible first | exact HI0.out | apply IsS75.alloc | apply IsS75.drewN | apply IsS75.drew | apply IsS75.set_0) | exact HI0.out)⟩, ⟨by repeat (first | (with_reducible first | exact HK.out | apply KeepBut.set_ | apply keep_drewN | apply keep_drew | apply keep_alloc) | exact HK.out)⟩, ⟨by repeat (first | (with_reducible first | exact HB.out | apply below_alloc | apply pw_below_drewN | apply below_drew1 | refine below_set ?_ (IsS75.ge HI0.out)) | exact HB.out)⟩⟩
      case round =>
       clear H'
       obtain ⟨x6_2, x7_2, x1000_2, rfl, rfl, HA, HK2, HO_3, HI0, HK, HB⟩ := hrel
       cases gk with
       | zero => exact absurd HA.out (by simp [bch_word_sums.l1])
       | succ k2 =>
        have H := HA.out
        clear HA
        simp only [bch_word_sums.l1] at H
        by_cases c13 : x7_2 ≥ 0
        ·rw [if_pos c13] at H
         have c13b0 : decide (0 ≤ x7_2) = true := decide_eq_true c13
         clear c13
         obtain ⟨t149, A14, H⟩ := uO H
         obtain ⟨⟨t150, t151⟩, A15, H⟩ := uO H
         dsimp only at H
         by_cases c16 : t150 = true
         ·subst c16
          replace H := uI rfl H
          have H' := Aside0.mk H
          clear H
          go_wp2_with (first | ((with_reducible refine gate_callee (f := 44) rfl ?_); refine uG (some 31) Try.func44 #[.int .i64 x6_2, .int .i64 t145] ?_; (with_reducible refine (bch_mul.calls k2 x6_2 t145 t149 _ A14.out).mono ?_); rintro e w' ⟨rfl, ⟨nd, rfl⟩⟩; refine ⟨_, rfl, ?_⟩) | ((with_reducible refine gate_callee (f := 59) rfl ?_); refine uG (some 34) Try.func59 #[.pointer (some ⟨g, 0, none⟩), .int .i64 x7_2] ?_; (with_reducible refine (bch_word_at.calls g x1000_2 s0_1 s0_2 x7_2 true t151 w0 _ ?side1 ?side2 A15.out).mono ?_); (case side1 => repeat (first | (with_reducible first | exact HI0.out | apply IsS75.alloc | apply IsS75.drewN | apply IsS75.drew | apply IsS75.set_0) | exact HI0.out)); (case side2 => repeat (first | (with_reducible first | exact HB.out | apply below_alloc | apply pw_below_drewN | apply below_drew1 | refine below_set ?_ (IsS75.ge HI0.out)) | exact HB.out)); rintro e w17 ⟨rfl, hi, hb, hk⟩; refine ⟨_, rfl, ?_⟩; replace HO_3 := uA (Kd.R_mono (Kd.R_keep (IsS75.apart (show IsS75 w0 _ g x1000_2 s0_1 s0_2 from by repeat (first | (with_reducible first | exact HI0.out | apply IsS75.alloc | apply IsS75.drewN | apply IsS75.drew | apply IsS75.set_0) | exact HI0.out)) (uR HO_3.out) (by decide)) hk (fun _ h => h.2)) (fun _ h => h.1)); replace HK := uA (KeepBut.trans (by repeat (first | (with_reducible first | exact HK.out | apply KeepBut.set_ | apply keep_drewN | apply keep_drew | apply keep_alloc) | exact HK.out)) hk (.inl rfl)); replace HB := uA hb; replace HI0 := uA hi))
          go_roundg k2
          case measure => have := HK1.out; have := HK2.out; omega
          case rel => exact ⟨(Go.bits .xor .i64 t149 1), (wrap64 (x7_2 - 1)), (t151), rfl, rfl, H', ⟨by have := HK1.out; have := HK2.out; omega⟩, ⟨by (try simp only [hl3_1]); (with_reducible repeat (first | apply Kd.R_alloc | apply Kd.R_drewN | apply Kd.R_drew)); exact HO_3.out⟩, ⟨by repeat (first | (with_reducible first | exact HI0.out | apply IsS75.alloc | apply IsS75.drewN | apply IsS75.drew | apply IsS75.set_0) | exact HI0.out)⟩, ⟨by repeat (first | (with_reducible first | exact HK.out | apply KeepBut.set_ | apply keep_drewN | apply keep_drew | apply keep_alloc) | exact HK.out)⟩, ⟨by repeat (first | (with_reducible first | exact HB.out | apply below_alloc | apply pw_below_drewN | apply below_drew1 | refine below_set ?_ (IsS75.ge HI0.out)) | exact HB.out)⟩⟩
         ·replace c16 := Bool.eq_false_iff.mpr c16
          subst c16
          replace H := uJ uN0 H
          have H' := Aside0.mk H
          clear H
          go_wp2_with (first | ((with_reducible refine gate_callee (f := 44) rfl ?_); refine uG (some 31) Try.func44 #[.int .i64 x6_2, .int .i64 t145] ?_; (with_reducible refine (bch_mul.calls k2 x6_2 t145 t149 _ A14.out).mono ?_); rintro e w' ⟨rfl, ⟨nd, rfl⟩⟩; refine ⟨_, rfl, ?_⟩) | ((with_reducible refine gate_callee (f := 59) rfl ?_); refine uG (some 34) Try.func59 #[.pointer (some ⟨g, 0, none⟩), .int .i64 x7_2] ?_; (with_reducible refine (bch_word_at.calls g x1000_2 s0_1 s0_2 x7_2 false t151 w0 _ ?side1 ?side2 A15.out).mono ?_); (case side1 => repeat (first | (with_reducible first | exact HI0.out | apply IsS75.alloc | apply IsS75.drewN | apply IsS75.drew | apply IsS75.set_0) | exact HI0.out)); (case side2 => repeat (first | (with_reducible first | exact HB.out | apply below_alloc | apply pw_below_drewN | apply below_drew1 | refine below_set ?_ (IsS75.ge HI0.out)) | exact HB.out)); rintro e w18 ⟨rfl, hi, hb, hk⟩; refine ⟨_, rfl, ?_⟩; replace HO_3 := uA (Kd.R_mono (Kd.R_keep (IsS75.apart (show IsS75 w0 _ g x1000_2 s0_1 s0_2 from by repeat (first | (with_reducible first | exact HI0.out | apply IsS75.alloc | apply IsS75.drewN | apply IsS75.drew | apply IsS75.set_0) | exact HI0.out)) (uR HO_3.out) (by decide)) hk (fun _ h => h.2)) (fun _ h => h.1)); replace HK := uA (KeepBut.trans (by repeat (first | (with_reducible first | exact HK.out | apply KeepBut.set_ | apply keep_drewN | apply keep_drew | apply keep_alloc) | exact HK.out)) hk (.inl rfl)); replace HB := uA hb; replace HI0 := uA hi))
          go_roundg k2
          case measure => have := HK1.out; have := HK2.out; omega
          case rel => exact ⟨(t149), (wrap64 (x7_2 - 1)), (t151), rfl, rfl, H', ⟨by have := HK1.out; have := HK2.out; omega⟩, ⟨by (try simp only [hl3_1]); (with_reducible repeat (first | apply Kd.R_alloc | apply Kd.R_drewN | apply Kd.R_drew)); exact HO_3.out⟩, ⟨by repeat (first | (with_reducible first | exact HI0.out | apply IsS75.alloc | apply IsS75.drewN | apply IsS75.drew | apply IsS75.set_0) | exact HI0.out)⟩, ⟨by repeat (first | (with_reducible first | exact HK.out | apply KeepBut.set_ | apply keep_drewN | apply keep_drew | apply keep_alloc) | exact HK.out)⟩, ⟨by repeat (first | (with_reducible first | exact HB.out | apply below_alloc | apply pw_below_drewN | apply below_drew1 | refine below_set ?_ (IsS75.ge HI0.out)) | exact HB.out)⟩⟩
        ·rw [if_neg c13] at H
         have c13b0 : decide (0 ≤ x7_2) = false := decide_eq_false c13
         clear c13
         by_cases c19 : 0 ≤ x16_1
         ·rw [if_pos c19] at H
          have c19b0 : decide (0 ≤ x16_1) = true := decide_eq_true c19
          clear c19
          by_cases c20 : x16_1 < (x3_1.length : Int)
          ·rw [if_pos c20] at H
           have c20b0 : decide (x16_1 < (x3_1.length : Int)) = true := decide_eq_true c20
           clear c20
           obtain ⟨y148, Ny148⟩ := uEA ((x3_1.set (x16_1 : Int).toNat x6_2) : List Int)
           rw [← Ny148.out] at H
           have H' := Aside0.mk H
           clear H
           have p21 : 0 ≤ (x16_1 : Int) := of_decide_eq_true (by first | (with_reducible assumption) | assumption)
           have q21 : (x16_1 : Int) < ((x3_1.length : Int) : Int) := of_decide_eq_true (by first | (with_reducible assumption) | assumption)
           obtain ⟨go21, co21, eo21, gb21, gl21, cl21, HG21⟩ := Kd.R_form HO_3.out (by omega)
           (first | cases eo21 | (injection eo21 with ea_ en_ ec_; (first | subst ea_ | (injection ea_ with ea_; subst ea_)); subst ec_; clear en_))
           have GB21 := Aside0.mk gb21
           have GG21 := Aside0.mk HG21
           clear gb21 gl21 HG21
           obtain ⟨hx21_0, hf21_0⟩ := Kd.R_celln 0 HO_3.out (x16_1 : Int) p21 q21
           replace p21 := eq_true p21
           replace q21 := eq_true q21
           have HP22 := Kd.R_putg HO_3.out (x16_1 : Int) x6_2
           go_wp2_with (first | ((with_reducible refine gate_store (t := 3) (p := 40) rfl ?_); refine store_event (t := 3) (p := 40) (v := ?vo_w23) (w1 := (wr.setCell ⟨go21, (x16_1 : Int).toNat, none⟩ (.int .i64 x6_2))) ?hg ?ho ?hn ?hr ?_; (case ho => rfl); (case hg => rfl); (case hn => rfl); (case hr => first | (go_simp; done) | (go_simp; rfl)); intro w23 hw; have hg : wr.grownBy w23 (some go21) := (by rw [hw]; exact HP22.2); have hp_ : Kd.R (Kd.int .i64) 3 w23 w.heap.size (fun _ => True) (.slice (some ⟨go21, 0, none⟩) x3_1.length co8) y148 := (by rw [hw, Ny148.out]; exact HP22.1); clear HP22; replace HI0 := uA (IsS75.grown (by repeat (first | (with_reducible first | exact HI0.out | apply IsS75.alloc | apply IsS75.drewN | apply IsS75.drew | apply IsS75.set_0) | exact HI0.out)) hg (IsS75.own_ne HI0.out HO_3.out (by decide))); replace HB := uA (by rw [hw]; exact below_set (HB.out) (Nat.le_trans HL.out GB21.out) : Below w0.heap.size w0 w23); replace HK := uA (KeepBut.trans (by repeat (first | (with_reducible first | exact HK.out | apply KeepBut.set_ | apply keep_drewN | apply keep_drew | apply keep_alloc) | exact HK.out)) (KeepBut.of_grown hg g) (Kd.R_base2 HO_3.out)); replace HO_3 := uA hp_; clear hg hw hp_))
           (try simp only [← hl3_1])
           go_roundg k2
           case measure => have := HK1.out; have := HK2.out; omega
           case rel => exact ⟨(y148), (wrap64 (x16_1 + 1)), (x1000_2), rfl, H', ⟨by have := HK1.out; have := HK2.out; omega⟩, ⟨by (try simp only [hl3_1]); (with_reducible repeat (first | apply Kd.R_alloc | apply Kd.R_drewN | apply Kd.R_drew)); exact HO_3.out⟩, ⟨by repeat (first | (with_reducible first | exact HI0.out | apply IsS75.alloc | apply IsS75.drewN | apply IsS75.drew | apply IsS75.set_0) | exact HI0.out)⟩, ⟨by repeat (first | (with_reducible first | exact HK.out | apply KeepBut.set_ | apply keep_drewN | apply keep_drew | apply keep_alloc) | exact HK.out)⟩, ⟨by repeat (first | (with_reducible first | exact HB.out | apply below_alloc | apply pw_below_drewN | apply below_drew1 | refine below_set ?_ (IsS75.ge HI0.out)) | exact HB.out)⟩⟩
          ·rw [if_neg c20] at H
           cases H
         ·rw [if_neg c19] at H
          cases H
     ·rw [if_neg c9] at H
      have c9b0 : decide (x16_1 < (y142.length : Int)) = false := decide_eq_false c9
      (try rw [hl3_1] at c9b0)
      clear c9
      simp only [Option.some.injEq, Prod.mk.injEq] at H
      obtain ⟨rfl, rfl⟩ := H
      go_wp2
      go_ret
      exact ⟨_, by first | rfl | (simp [errW_none, errW_some] <;> rfl) | (simp only [← hji2]; first | rfl | (simp [errW_none, errW_some] <;> rfl)) | (simp [*, errW_none, errW_some] <;> rfl), by (with_reducible repeat (first | apply Kd.R_alloc | apply Kd.R_drewN | apply Kd.R_drew)); exact HO_3.out, by repeat (first | (with_reducible first | exact HI0.out | apply IsS75.alloc | apply IsS75.drewN | apply IsS75.drew | apply IsS75.set_0) | exact HI0.out), by repeat (first | (with_reducible first | exact HB.out | apply below_alloc | apply pw_below_drewN | apply below_drew1 | refine below_set ?_ (IsS75.ge HI0.out)) | exact HB.out), by repeat (first | (with_reducible first | exact HK.out | apply KeepBut.set_ | apply keep_drewN | apply keep_drew | apply keep_alloc) | exact HK.out)⟩
  ·rw [if_neg c4] at H
   cases H
 ·rw [if_neg c3] at H
  cases H
set_option maxHeartbeats 8000000 in
set_option maxRecDepth 100000 in
theorem bch_word_sums.callsT (TA : Option Addr) (TC : Nat) (TB : Option Addr) (TD : Nat) (k : Nat) (g : Nat) (s0_0 : Int) (s0_1 : List Int) (s0_2 : List Int) (r1 : List Int) (r2 : Int) (w0 w : World) (hI : IsT75 TA TC TB TD w0 w g s0_0 s0_1 s0_2) (hB : Below w0.heap.size w0 w) (h : bch_word_sums.f k s0_0 s0_1 s0_2 = some (r1, r2)) :
  Calls Try.prog 41 #[.pointer (some ⟨g, 0, none⟩)] w fun e w' => ∃ v0_ : Value, e = .returned (v0_) ∧ Kd.R (Kd.int .i64) 3 w' w.heap.size (fun _ => True) v0_ r1 ∧ IsT75 TA TC TB TD w0 w' g r2 s0_1 s0_2 ∧ Below w0.heap.size w0 w' ∧ KeepBut w w' g none := by
 have HI0 := Aside0.mk hI
 have HK := Aside0.mk (KeepBut.refl w g none)
 have HL := Aside0.mk hB.size
 clear hI
 have HW0 := Aside0.mk hB.size
 have HB := Aside0.mk hB
 clear hB
 have H : (if 0 ≤ (wrap64 (2 * s0_0)) then (if (wrap64 (2 * s0_0) : Int).toNat ≤ 35184372088832 then ((some (List.replicate (wrap64 (2 * s0_0) : Int).toNat 0 : List Int)).bind fun y142 => (bch_word_sums.l0 k y142 (y142.length : Int) 0 s0_0 s0_1 s0_2)) else (none)) else (none)) = some (r1, r2) := h
 clear h
 obtain ⟨ji2, hji2⟩ : ∃ j_ : Int, (wrap64 (2 * s0_0)) = j_ := ⟨_, rfl⟩
 first | rw [hji2] at H | simp only [hji2] at H
 have hji2w : (IntKind.i64.wrap (2 * s0_0)) = ji2 := (i64_w _).trans hji2
 by_cases c3 : 0 ≤ (ji2)
 ·rw [if_pos c3] at H
  have c3b0 := eq_true c3
  have c3b1 : decide (0 ≤ (ji2)) = true := decide_eq_true c3
  clear c3
  by_cases c4 : (ji2 : Int).toNat ≤ 35184372088832
  ·rw [if_pos c4] at H
   have c4b0 := eq_true c4
   have c4b1 : decide ((ji2 : Int).toNat ≤ 35184372088832) = true := decide_eq_true c4
   clear c4
   rw [uY] at H
   obtain ⟨y142, Ny142, H⟩ := H
   have H' := Aside0.mk H
   clear H
   obtain ⟨HGz5, hgz5, HSz5_1, HSz5_2⟩ := HI0.out
   have hcz5_0 := cellS75_0 HGz5
   have hcz5_1 := cellS75_1 HGz5
   have hcz5_2 := cellS75_2 HGz5
   have hfz5_0 := blk_frozen HGz5 0
   clear HGz5 hgz5
   go_enter Try.func41, Try.ntmps41
   go_wp2_with (first | ((with_reducible refine gate_dst (N := 13) rfl ?_); refine Kd.R_make (Kd.int .i64) _ 3 rfl (N := 13) rfl 48 _ _ rfl ji2 rfl rfl Try.underlying48 (.int .i64 0) 8 info3 rfl (by decide) (by omega) 0 (ok := fun _ => True) (okp := fun _ => True) rfl (fun _ hk => hk) trivial (of_decide_eq_true (by first | (with_reducible assumption) | assumption)) (Nat.le_trans (Nat.mul_le_mul_right _ (of_decide_eq_true (by first | (with_reducible assumption) | assumption) : ji2.toNat ≤ 35184372088832)) (by omega)) (Below.refl _ _) (Nat.le_refl _) ?_; intro v143 w6 ho7 hb hg_ hnew_; clear hg_ hnew_; (first | rw [← Ny142.out] at ho7 | (simp only [Int.reduceToNat] at ho7; rw [← Ny142.out] at ho7)); have HO144 := uA (Kd.R_lower ho7 (keep_size (w := w) (g := g) (row := none) (by repeat (first | (with_reducible first | exact HK.out | apply KeepBut.set_ | apply keep_drewN | apply keep_drew | apply keep_alloc) | exact HK.out)))); replace HK := uA (KeepBut.trans (by repeat (first | (with_reducible first | exact HK.out | apply KeepBut.set_ | apply keep_drewN | apply keep_drew | apply keep_alloc) | exact HK.out)) (KeepBut.of_below hb g none) (.inl rfl)); replace HB := uA (below_step (by repeat (first | (with_reducible first | exact HB.out | apply below_alloc | apply pw_below_drewN | apply below_drew1 | refine below_set ?_ (IsT75.ge HI0.out)) | exact HB.out)) hb); replace HI0 := uA (IsT75.below (by repeat (first | (with_reducible first | exact HI0.out | apply IsT75.alloc | apply IsT75.drewN | apply IsT75.drew | apply IsT75.set_0) | exact HI0.out)) hb); clear hb ho7; obtain ⟨Ao8, co8, eo8⟩ := Kd.R_slice HO144.out; subst eo8))
   go_loopg [16] k (fun kq v16 w' => ∃ (x3_1 : List Int) (x16_1 : Int) (x1000_1 : Int), v16 = .int .i64 x16_1 ∧ Aside0 (bch_word_sums.l0 kq x3_1 (y142.length : Int) x16_1 x1000_1 s0_1 s0_2 = some (r1, r2)) ∧ Aside0 (kq ≤ k) ∧ Aside0 (Kd.R (Kd.int .i64) 3 w' w.heap.size (fun _ => True) (.slice Ao8 y142.length co8) x3_1) ∧ Aside0 (IsT75 TA TC TB TD w0 w' g x1000_1 s0_1 s0_2) ∧ Aside0 (KeepBut w w' g none) ∧ Aside0 (Below w0.heap.size w0 w'))
   case atStart => exact ⟨(y142), (0), (s0_0), rfl, H', ⟨Nat.le_refl _⟩, ⟨uR HO144.out⟩, ⟨by repeat (first | (with_reducible first | exact HI0.out | apply IsT75.alloc | apply IsT75.drewN | apply IsT75.drew | apply IsT75.set_0) | exact HI0.out)⟩, ⟨by repeat (first | (with_reducible first | exact HK.out | apply KeepBut.set_ | apply keep_drewN | apply keep_drew | apply keep_alloc) | exact HK.out)⟩, ⟨by repeat (first | (with_reducible first | exact HB.out | apply below_alloc | apply pw_below_drewN | apply below_drew1 | refine below_set ?_ (IsT75.ge HI0.out)) | exact HB.out)⟩⟩
   case round =>
    clear H'
    obtain ⟨x3_1, x16_1, x1000_1, rfl, HA, HK1, HO_3, HI0, HK, HB⟩ := hrel
    have hl3_1 := (Kd.R_reads' HO_3.out).1
    rw [hl3_1] at HO_3
    (try simp only [hl3_1])
    cases gk with
    | zero => exact absurd HA.out (by simp [bch_word_sums.l0])
    | succ k1 =>
     have H := HA.out
     clear HA
     simp only [bch_word_sums.l0] at H
     by_cases c9 : x16_1 < (y142.length : Int)
     ·rw [if_pos c9] at H
      have c9b0 : decide (x16_1 < (y142.length : Int)) = true := decide_eq_true c9
      (try rw [hl3_1] at c9b0)
      clear c9
      obtain ⟨t145, A10, H⟩ := uO H
      obtain ⟨⟨t146, t147⟩, A11, H⟩ := uO H
      dsimp only at H
      have H' := Aside0.mk H
      clear H
      go_wp2_with (first | ((with_reducible refine gate_callee (f := 43) rfl ?_); refine uG (some 21) Try.func43 #[.int .i64 (wrap64 (x16_1 + 1))] ?_; (with_reducible refine (gf_Exp.calls k1 (wrap64 (x16_1 + 1)) t145 _ A10.out).mono ?_); rintro e w' ⟨rfl, ⟨nd, rfl⟩⟩; refine ⟨_, rfl, ?_⟩) | ((with_reducible refine gate_callee (f := 42) rfl ?_); refine uG (some 23) Try.func42 #[.pointer (some ⟨g, 0, none⟩)] ?_; (with_reducible refine (bch_word_len.callsT TA TC TB TD g x1000_1 s0_1 s0_2 t146 t147 w0 _ ?side1 ?side2 A11.out).mono ?_); (case side1 => repeat (first | (with_reducible first | exact HI0.out | apply IsT75.alloc | apply IsT75.drewN | apply IsT75.drew | apply IsT75.set_0) | exact HI0.out)); (case side2 => repeat (first | (with_reducible first | exact HB.out | apply below_alloc | apply pw_below_drewN | apply below_drew1 | refine below_set ?_ (IsT75.ge HI0.out)) | exact HB.out)); rintro e w12 ⟨rfl, hi, hb, hk⟩; refine ⟨_, rfl, ?_⟩; replace HO_3 := uA (Kd.R_mono (Kd.R_keep (IsT75.apart (show IsT75 TA TC TB TD w0 _ g x1000_1 s0_1 s0_2 from by repeat (first | (with_reducible first | exact HI0.out | apply IsT75.alloc | apply IsT75.drewN | apply IsT75.drew | apply IsT75.set_0) | exact HI0.out)) (uR HO_3.out) (by decide)) hk (fun _ h => h.2)) (fun _ h => h.1)); replace HK := uA (KeepBut.trans (by repeat (first | (with_reducible first | exact HK.out | apply KeepBut.set_ | apply keep_drewN | apply keep_drew | apply keep_alloc) | exact HK.out)) hk (.inl rfl)); replace HB := uA hb; replace HI0 := uA hi))
      go_loopg [6, 7] k1 (fun kq v6 v7 w' => ∃ (x6_2 : Int) (x7_2 : Int) (x1000_2 : Int), v6 = .int .i64 x6_2 ∧ v7 = .int .i64 x7_2 ∧ Aside0 (bch_word_sums.l1 kq x3_1 x16_1 t145 x6_2 x7_2 (y142.length : Int) x16_1 x1000_2 s0_1 s0_2 = some (r1, r2)) ∧ Aside0 (kq ≤ k1) ∧ Aside0 (Kd.R (Kd.int .i64) 3 w' w.heap.size (fun _ => True) (.slice Ao8 x3_1.length co8) x3_1) ∧ Aside0 (IsT75 TA TC TB TD w0 w' g x1000_2 s0_1 s0_2) ∧ Aside0 (KeepBut w w' g none) ∧ Aside0 (Below w0.heap.size w0 w'))
      case atStart => exact ⟨(0), (wrap64 (t146 - 1)), (t147), rfl, rfl, H', ⟨Nat.le_refl _⟩, ⟨by (try simp only [hl3_1]); (with_reducible repeat (first | apply Kd.R_alloc | apply Kd.R_drewN | apply Kd.R_drew)); exact HO_3.out⟩, ⟨by repeat (first | (with_reducible first | exact HI0.out | apply IsT75.alloc | apply IsT75.drewN | apply IsT75.drew | apply IsT75.set_0) | exact HI0.out)⟩, ⟨by repeat (first | (with_reducible first | exact HK.out | apply KeepBut.set_ | apply keep_drewN | apply keep_drew | apply keep_alloc) | exact HK.out)⟩, ⟨by repeat (first | (with_reducible first | exact HB.out | apply below_alloc | apply pw_below_drewN | apply below_drew1 | refine below_set ?_ (IsT75.ge HI0.out)) | exact HB.out)⟩⟩
      case round =>
       clear H'
       obtain ⟨x6_2, x7_2, x1000_2, rfl, rfl, HA, HK2, HO_3, HI0, HK, HB⟩ := hrel
       cases gk with
       | zero => exact absurd HA.out (by simp [bch_word_sums.l1])
       | succ k2 =>
        have H := HA.out
        clear HA
        simp only [bch_word_sums.l1] at H
        by_cases c13 : x7_2 ≥ 0
        ·rw [if_pos c13] at H
         have c13b0 : decide (0 ≤ x7_2) = true := decide_eq_true c13
         clear c13
         obtain ⟨t149, A14, H⟩ := uO H
         obtain ⟨⟨t150, t151⟩, A15, H⟩ := uO H
         dsimp only at H
         by_cases c16 : t150 = true
         ·subst c16
          replace H := uI rfl H
          have H' := Aside0.mk H
          clear H
          go_wp2_with (first | ((with_reducible refine gate_callee (f := 44) rfl ?_); refine uG (some 31) Try.func44 #[.int .i64 x6_2, .int .i64 t145] ?_; (with_reducible refine (bch_mul.calls k2 x6_2 t145 t149 _ A14.out).mono ?_); rintro e w' ⟨rfl, ⟨nd, rfl⟩⟩; refine ⟨_, rfl, ?_⟩) | ((with_reducible refine gate_callee (f := 59) rfl ?_); refine uG (some 34) Try.func59 #[.pointer (some ⟨g, 0, none⟩), .int .i64 x7_2] ?_; (with_reducible refine (bch_word_at.callsT TA TC TB TD g x1000_2 s0_1 s0_2 x7_2 true t151 w0 _ ?side1 ?side2 A15.out).mono ?_); (case side1 => repeat (first | (with_reducible first | exact HI0.out | apply IsT75.alloc | apply IsT75.drewN | apply IsT75.drew | apply IsT75.set_0) | exact HI0.out)); (case side2 => repeat (first | (with_reducible first | exact HB.out | apply below_alloc | apply pw_below_drewN | apply below_drew1 | refine below_set ?_ (IsT75.ge HI0.out)) | exact HB.out)); rintro e w17 ⟨rfl, hi, hb, hk⟩; refine ⟨_, rfl, ?_⟩; replace HO_3 := uA (Kd.R_mono (Kd.R_keep (IsT75.apart (show IsT75 TA TC TB TD w0 _ g x1000_2 s0_1 s0_2 from by repeat (first | (with_reducible first | exact HI0.out | apply IsT75.alloc | apply IsT75.drewN | apply IsT75.drew | apply IsT75.set_0) | exact HI0.out)) (uR HO_3.out) (by decide)) hk (fun _ h => h.2)) (fun _ h => h.1)); replace HK := uA (KeepBut.trans (by repeat (first | (with_reducible first | exact HK.out | apply KeepBut.set_ | apply keep_drewN | apply keep_drew | apply keep_alloc) | exact HK.out)) hk (.inl rfl)); replace HB := uA hb; replace HI0 := uA hi))
          go_roundg k2
          case measure => have := HK1.out; have := HK2.out; omega
          case rel => exact ⟨(Go.bits .xor .i64 t149 1), (wrap64 (x7_2 - 1)), (t151), rfl, rfl, H', ⟨by have := HK1.out; have := HK2.out; omega⟩, ⟨by (try simp only [hl3_1]); (with_reducible repeat (first | apply Kd.R_alloc | apply Kd.R_drewN | apply Kd.R_drew)); exact HO_3.out⟩, ⟨by repeat (first | (with_reducible first | exact HI0.out | apply IsT75.alloc | apply IsT75.drewN | apply IsT75.drew | apply IsT75.set_0) | exact HI0.out)⟩, ⟨by repeat (first | (with_reducible first | exact HK.out | apply KeepBut.set_ | apply keep_drewN | apply keep_drew | apply keep_alloc) | exact HK.out)⟩, ⟨by repeat (first | (with_reducible first | exact HB.out | apply below_alloc | apply pw_below_drewN | apply below_drew1 | refine below_set ?_ (IsT75.ge HI0.out)) | exact HB.out)⟩⟩
         ·replace c16 := Bool.eq_false_iff.mpr c16
          subst c16
          replace H := uJ uN0 H
          have H' := Aside0.mk H
          clear H
          go_wp2_with (first | ((with_reducible refine gate_callee (f := 44) rfl ?_); refine uG (some 31) Try.func44 #[.int .i64 x6_2, .int .i64 t145] ?_; (with_reducible refine (bch_mul.calls k2 x6_2 t145 t149 _ A14.out).mono ?_); rintro e w' ⟨rfl, ⟨nd, rfl⟩⟩; refine ⟨_, rfl, ?_⟩) | ((with_reducible refine gate_callee (f := 59) rfl ?_); refine uG (some 34) Try.func59 #[.pointer (some ⟨g, 0, none⟩), .int .i64 x7_2] ?_; (with_reducible refine (bch_word_at.callsT TA TC TB TD g x1000_2 s0_1 s0_2 x7_2 false t151 w0 _ ?side1 ?side2 A15.out).mono ?_); (case side1 => repeat (first | (with_reducible first | exact HI0.out | apply IsT75.alloc | apply IsT75.drewN | apply IsT75.drew | apply IsT75.set_0) | exact HI0.out)); (case side2 => repeat (first | (with_reducible first | exact HB.out | apply below_alloc | apply pw_below_drewN | apply below_drew1 | refine below_set ?_ (IsT75.ge HI0.out)) | exact HB.out)); rintro e w18 ⟨rfl, hi, hb, hk⟩; refine ⟨_, rfl, ?_⟩; replace HO_3 := uA (Kd.R_mono (Kd.R_keep (IsT75.apart (show IsT75 TA TC TB TD w0 _ g x1000_2 s0_1 s0_2 from by repeat (first | (with_reducible first | exact HI0.out | apply IsT75.alloc | apply IsT75.drewN | apply IsT75.drew | apply IsT75.set_0) | exact HI0.out)) (uR HO_3.out) (by decide)) hk (fun _ h => h.2)) (fun _ h => h.1)); replace HK := uA (KeepBut.trans (by repeat (first | (with_reducible first | exact HK.out | apply KeepBut.set_ | apply keep_drewN | apply keep_drew | apply keep_alloc) | exact HK.out)) hk (.inl rfl)); replace HB := uA hb; replace HI0 := uA hi))
          go_roundg k2
          case measure => have := HK1.out; have := HK2.out; omega
          case rel => exact ⟨(t149), (wrap64 (x7_2 - 1)), (t151), rfl, rfl, H', ⟨by have := HK1.out; have := HK2.out; omega⟩, ⟨by (try simp only [hl3_1]); (with_reducible repeat (first | apply Kd.R_alloc | apply Kd.R_drewN | apply Kd.R_drew)); exact HO_3.out⟩, ⟨by repeat (first | (with_reducible first | exact HI0.out | apply IsT75.alloc | apply IsT75.drewN | apply IsT75.drew | apply IsT75.set_0) | exact HI0.out)⟩, ⟨by repeat (first | (with_reducible first | exact HK.out | apply KeepBut.set_ | apply keep_drewN | apply keep_drew | apply keep_alloc) | exact HK.out)⟩, ⟨by repeat (first | (with_reducible first | exact HB.out | apply below_alloc | apply pw_below_drewN | apply below_drew1 | refine below_set ?_ (IsT75.ge HI0.out)) | exact HB.out)⟩⟩
        ·rw [if_neg c13] at H
         have c13b0 : decide (0 ≤ x7_2) = false := decide_eq_false c13
         clear c13
         by_cases c19 : 0 ≤ x16_1
         ·rw [if_pos c19] at H
          have c19b0 : decide (0 ≤ x16_1) = true := decide_eq_true c19
          clear c19
          by_cases c20 : x16_1 < (x3_1.length : Int)
          ·rw [if_pos c20] at H
           have c20b0 : decide (x16_1 < (x3_1.length : Int)) = true := decide_eq_true c20
           clear c20
           obtain ⟨y148, Ny148⟩ := uEA ((x3_1.set (x16_1 : Int).toNat x6_2) : List Int)
           rw [← Ny148.out] at H
           have H' := Aside0.mk H
           clear H
           have p21 : 0 ≤ (x16_1 : Int) := of_decide_eq_true (by first | (with_reducible assumption) | assumption)
           have q21 : (x16_1 : Int) < ((x3_1.length : Int) : Int) := of_decide_eq_true (by first | (with_reducible assumption) | assumption)
           obtain ⟨go21, co21, eo21, gb21, gl21, cl21, HG21⟩ := Kd.R_form HO_3.out (by omega)
           (first | cases eo21 | (injection eo21 with ea_ en_ ec_; (first | subst ea_ | (injection ea_ with ea_; subst ea_)); subst ec_; clear en_))
           have GB21 := Aside0.mk gb21
           have GG21 := Aside0.mk HG21
           clear gb21 gl21 HG21
           obtain ⟨hx21_0, hf21_0⟩ := Kd.R_celln 0 HO_3.out (x16_1 : Int) p21 q21
           replace p21 := eq_true p21
           replace q21 := eq_true q21
           have HP22 := Kd.R_putg HO_3.out (x16_1 : Int) x6_2
           go_wp2_with (first | ((with_reducible refine gate_store (t := 3) (p := 40) rfl ?_); refine store_event (t := 3) (p := 40) (v := ?vo_w23) (w1 := (wr.setCell ⟨go21, (x16_1 : Int).toNat, none⟩ (.int .i64 x6_2))) ?hg ?ho ?hn ?hr ?_; (case ho => rfl); (case hg => rfl); (case hn => rfl); (case hr => first | (go_simp; done) | (go_simp; rfl)); intro w23 hw; have hg : wr.grownBy w23 (some go21) := (by rw [hw]; exact HP22.2); have hp_ : Kd.R (Kd.int .i64) 3 w23 w.heap.size (fun _ => True) (.slice (some ⟨go21, 0, none⟩) x3_1.length co8) y148 := (by rw [hw, Ny148.out]; exact HP22.1); clear HP22; replace HI0 := uA (IsT75.grown (by repeat (first | (with_reducible first | exact HI0.out | apply IsT75.alloc | apply IsT75.drewN | apply IsT75.drew | apply IsT75.set_0) | exact HI0.out)) hg (IsT75.own_ne HI0.out HO_3.out (by decide))); replace HB := uA (by rw [hw]; exact below_set (HB.out) (Nat.le_trans HL.out GB21.out) : Below w0.heap.size w0 w23); replace HK := uA (KeepBut.trans (by repeat (first | (with_reducible first | exact HK.out | apply KeepBut.set_ | apply keep_drewN | apply keep_drew | apply keep_alloc) | exact HK.out)) (KeepBut.of_grown hg g) (Kd.R_base2 HO_3.out)); replace HO_3 := uA hp_; clear hg hw hp_))
           (try simp only [← hl3_1])
           go_roundg k2
           case measure => have := HK1.out; have := HK2.out; omega
           case rel => exact ⟨(y148), (wrap64 (x16_1 + 1)), (x1000_2), rfl, H', ⟨by have := HK1.out; have := HK2.out; omega⟩, ⟨by (try simp only [hl3_1]); (with_reducible repeat (first | apply Kd.R_alloc | apply Kd.R_drewN | apply Kd.R_drew)); exact HO_3.out⟩, ⟨by repeat (first | (with_reducible first | exact HI0.out | apply IsT75.alloc | apply IsT75.drewN | apply IsT75.drew | apply IsT75.set_0) | exact HI0.out)⟩, ⟨by repeat (first | (with_reducible first | exact HK.out | apply KeepBut.set_ | apply keep_drewN | apply keep_drew | apply keep_alloc) | exact HK.out)⟩, ⟨by repeat (first | (with_reducible first | exact HB.out | apply below_alloc | apply pw_below_drewN | apply below_drew1 | refine below_set ?_ (IsT75.ge HI0.out)) | exact HB.out)⟩⟩
          ·rw [if_neg c20] at H
           cases H
         ·rw [if_neg c19] at H
          cases H
     ·rw [if_neg c9] at H
      have c9b0 : decide (x16_1 < (y142.length : Int)) = false := decide_eq_false c9
      (try rw [hl3_1] at c9b0)
      clear c9
      simp only [Option.some.injEq, Prod.mk.injEq] at H
      obtain ⟨rfl, rfl⟩ := H
      go_wp2
      go_ret
      exact ⟨_, by first | rfl | (simp [errW_none, errW_some] <;> rfl) | (simp only [← hji2]; first | rfl | (simp [errW_none, errW_some] <;> rfl)) | (simp [*, errW_none, errW_some] <;> rfl), by (with_reducible repeat (first | apply Kd.R_alloc | apply Kd.R_drewN | apply Kd.R_drew)); exact HO_3.out, by repeat (first | (with_reducible first | exact HI0.out | apply IsT75.alloc | apply IsT75.drewN | apply IsT75.drew | apply IsT75.set_0) | exact HI0.out), by repeat (first | (with_reducible first | exact HB.out | apply below_alloc | apply pw_below_drewN | apply below_drew1 | refine below_set ?_ (IsT75.ge HI0.out)) | exact HB.out), by repeat (first | (with_reducible first | exact HK.out | apply KeepBut.set_ | apply keep_drewN | apply keep_drew | apply keep_alloc) | exact HK.out)⟩
  ·rw [if_neg c4] at H
   cases H
 ·rw [if_neg c3] at H
  cases H
/-- The world below a block. -/
def cutW (W : World) (g : Nat) : World := { W with heap := W.heap.extract 0 g }
theorem cutW_size {W : World} {g : Nat} (h : g ≤ W.heap.size) : (cutW W g).heap.size = g := by simp [cutW]; omega
theorem cutW_blk (W : World) {g k : Nat} (h : k < g) : (cutW W g).heap[k]? = W.heap[k]? := by
 simp only [cutW, Array.getElem?_extract]
 by_cases hk : k < W.heap.size
 ·rw [if_pos (by omega)]; simp
 ·rw [if_neg (by omega), Array.getElem?_eq_none (by omega)]
theorem cutW_below {W : World} {g : Nat} (h : g ≤ W.heap.size) : Below (cutW W g).heap.size (cutW W g) W :=
 ⟨rfl, rfl, rfl, by rw [cutW_size h]; exact h, fun k hk => (cutW_blk W (by rwa [cutW_size h] at hk)).symm⟩
/-- A word: its block, and its two rows. -/
structure WSt (W : World) (base g : Nat) (t : Int) (d m : List Int) (gd cd gm cm : Nat) : Prop where
 blk : W.heap[g]? = some (.cells #[.int .i64 t, .slice (some ⟨gd, 0, none⟩) d.length cd, .slice (some ⟨gm, 0, none⟩) m.length cm] 75 (0, 0))
 od : W.ownsRow base 5 1 (.slice (some ⟨gd, 0, none⟩) d.length cd) d.length (encs (Value.int .u8) d)
 om : W.ownsRow base 5 1 (.slice (some ⟨gm, 0, none⟩) m.length cm) m.length (encs (Value.int .u8) m)
 ne : gd ≠ gm
 ltd : gd < g
 ltm : gm < g
theorem WSt.ged {W : World} {base g : Nat} {t : Int} {d m : List Int} {gd cd gm cm : Nat} (h : WSt W base g t d m gd cd gm cm) : base ≤ gd := own_base h.od gd (by simp [Value.ownBlock])
theorem WSt.gem {W : World} {base g : Nat} {t : Int} {d m : List Int} {gd cd gm cm : Nat} (h : WSt W base g t d m gd cd gm cm) : base ≤ gm := own_base h.om gm (by simp [Value.ownBlock])
theorem WSt.move {W W1 : World} {base g : Nat} {t : Int} {d m : List Int} {gd cd gm cm : Nat} (h : WSt W base g t d m gd cd gm cm) (hm : ∀ k, k = g ∨ k = gd ∨ k = gm → W1.heap[k]? = W.heap[k]?) : WSt W1 base g t d m gd cd gm cm :=
 ⟨(hm g (.inl rfl)).trans h.blk, own_move h.od (fun k hk => hm k (.inr (.inl (by simpa [Value.ownBlock] using hk.symm)))), own_move h.om (fun k hk => hm k (.inr (.inr (by simpa [Value.ownBlock] using hk.symm)))), h.ne, h.ltd, h.ltm⟩
theorem WSt.below {W W1 : World} {base g : Nat} {t : Int} {d m : List Int} {gd cd gm cm : Nat} (h : WSt W base g t d m gd cd gm cm) (hb : Below W.heap.size W W1) : WSt W1 base g t d m gd cd gm cm :=
 have hg := blk_lt h.blk
 h.move (fun k hk => hb.block k (by have := h.ltd; have := h.ltm; omega))
theorem WSt.len {W : World} {base g : Nat} {t : Int} {d m : List Int} {gd cd gm cm : Nat} (h : WSt W base g t d m gd cd gm cm) : d.length ≤ 9223372036854775807 ∧ m.length ≤ 9223372036854775807 := by
 have h1 := (Kd.R_reads' (Kd.R_of_own (h1 := fun _ => rfl) h.od (ok := fun _ => True) (fun _ _ => trivial))).2.2.2.1
 have h2 := (Kd.R_reads' (Kd.R_of_own (h1 := fun _ => rfl) h.om (ok := fun _ => True) (fun _ _ => trivial))).2.2.2.1
 exact ⟨h1, h2⟩
theorem C_cut {W : World} {base g gd cd : Nat} {d : List Int} (h : W.ownsRow base 5 1 (.slice (some ⟨gd, 0, none⟩) d.length cd) d.length (encs (Value.int .u8) d)) (hlt : gd < g) : Kd.C (Kd.int .u8) (cutW W g) (some ⟨gd, 0, none⟩) d.length d := by
 have hC := (Kd.R_reads' (Kd.R_of_own (h1 := fun _ => rfl) h (ok := fun _ => True) (fun _ _ => trivial))).2.2
 obtain ⟨h1, h2, h3⟩ := Kd.reads_of_C (d := (0 : Int)) hC
 refine Kd.C_of_reads (d := (0 : Int)) (h1 := fun _ => rfl) ⟨h1, h2, fun hn => ?_⟩
 obtain ⟨ad, hA, hc⟩ := h3 hn
 obtain rfl : (⟨gd, 0, none⟩ : Addr) = ad := Option.some.inj hA
 refine ⟨_, rfl, fun j hj => ?_⟩
 have := hc j hj
 rw [add_plain] at this ⊢
 rw [← this]
 simp only [World.cell?, cutW_blk W hlt]
/-- As the printed functions of a word want it. -/
theorem WSt.is {W : World} {base g : Nat} {t : Int} {d m : List Int} {gd cd gm cm : Nat} (h : WSt W base g t d m gd cd gm cm) : IsT75 (some ⟨gd, 0, none⟩) cd (some ⟨gm, 0, none⟩) cm (cutW W g) W g t d m :=
 ⟨h.blk, Nat.le_of_eq (cutW_size (Nat.le_of_lt (blk_lt h.blk))), C_cut h.od h.ltd, C_cut h.om h.ltm⟩
theorem WSt.back {W W1 : World} {base g : Nat} {t t1 : Int} {d m : List Int} {gd cd gm cm : Nat} {w0 : World} (h : WSt W base g t d m gd cd gm cm) (hi : IsT75 (some ⟨gd, 0, none⟩) cd (some ⟨gm, 0, none⟩) cm w0 W1 g t1 d m) (hk : KeepBut W W1 g none) : WSt W1 base g t1 d m gd cd gm cm :=
 have hg := blk_lt h.blk
 have hl := h.ltd
 have hl2 := h.ltm
 ⟨hi.1, own_move h.od (fun k hk' => by
   have : gd = k := by simpa [Value.ownBlock] using hk'
   exact hk.2 k (by omega) (by omega) (by simp)), own_move h.om (fun k hk' => by
   have : gm = k := by simpa [Value.ownBlock] using hk'
   exact hk.2 k (by omega) (by omega) (by simp)), h.ne, h.ltd, h.ltm⟩
theorem WSt.atm {W : World} {base g : Nat} {t : Int} {d m : List Int} {gd cd gm cm : Nat} (h : WSt W base g t d m gd cd gm cm) (i : Int) (h0 : 0 ≤ i) (h1 : i < m.length) : W.cell? ⟨gm, i.toNat, none⟩ = some (.int .u8 (rd m i)) ∧ W.frozen? ⟨gm, i.toNat, none⟩ = false :=
 own_at_of (enc := Value.int .u8) (d := (0 : Int)) h.om i h0 (by simpa using h1)
theorem WSt.atd {W : World} {base g : Nat} {t : Int} {d m : List Int} {gd cd gm cm : Nat} (h : WSt W base g t d m gd cd gm cm) (i : Int) (h0 : 0 ≤ i) (h1 : i < d.length) : W.cell? ⟨gd, i.toNat, none⟩ = some (.int .u8 (rd d i)) ∧ W.frozen? ⟨gd, i.toNat, none⟩ = false :=
 own_at_of (enc := Value.int .u8) (d := (0 : Int)) h.od i h0 (by simpa using h1)
theorem WSt.setm {W : World} {base g : Nat} {t : Int} {d m : List Int} {gd cd gm cm : Nat} (h : WSt W base g t d m gd cd gm cm) (i : Int) (x : Int) : WSt (W.setCell ⟨gm, i.toNat, none⟩ (.int .u8 x)) base g t d (m.set i.toNat x) gd cd gm cm := by
 have h1 := (own_store_of (enc := Value.int .u8) h.om i x).1
 have hn := h.ne
 have hl := h.ltm
 refine ⟨?_, own_move h.od (fun k hk => ?_), by rw [List.length_set]; exact h1, h.ne, h.ltd, h.ltm⟩
 ·rw [List.length_set]
  exact (Below.heap_setCell W ⟨gm, i.toNat, none⟩ _ g (by show g ≠ gm; omega)).trans h.blk
 ·have : gd = k := by simpa [Value.ownBlock] using hk
  exact Below.heap_setCell W ⟨gm, i.toNat, none⟩ _ k (by show k ≠ gm; omega)
theorem WSt.setd {W : World} {base g : Nat} {t : Int} {d m : List Int} {gd cd gm cm : Nat} (h : WSt W base g t d m gd cd gm cm) (i : Int) (x : Int) : WSt (W.setCell ⟨gd, i.toNat, none⟩ (.int .u8 x)) base g t (d.set i.toNat x) m gd cd gm cm := by
 have h1 := (own_store_of (enc := Value.int .u8) h.od i x).1
 have hn := h.ne
 have hl := h.ltd
 refine ⟨?_, by rw [List.length_set]; exact h1, own_move h.om (fun k hk => ?_), h.ne, h.ltd, h.ltm⟩
 ·rw [List.length_set]
  exact (Below.heap_setCell W ⟨gd, i.toNat, none⟩ _ g (by show g ≠ gd; omega)).trans h.blk
 ·have : gm = k := by simpa [Value.ownBlock] using hk
  exact Below.heap_setCell W ⟨gd, i.toNat, none⟩ _ k (by show k ≠ gd; omega)
theorem shl1_u8 (y : Int) : shl .u8 1 y = 2 ^ min y.toNat 8 % 256 := by
 unfold shl
 rw [Int.one_mul]
 rfl
/-- What stands above the last of the more bits is cleared. -/
def nwL : Nat → Int → List Int → Int → Option (List Int)
 | 0, _, _, _ => none
 | k + 1, n, m, i => if i < wrap64 (8 * n) then (if 0 ≤ wrap64 (Int.tdiv i 8) then (if wrap64 (Int.tdiv i 8) < (m.length : Int) then (if 0 ≤ Int.tmod i 8 then nwL k n (m.set (wrap64 (Int.tdiv i 8)).toNat (Go.bits .andNot .u8 (rd m (wrap64 (Int.tdiv i 8))) (shl .u8 1 (Int.tmod i 8)))) (wrap64 (i + 1)) else none) else none) else none) else some m
theorem nwL_mono : ∀ k n m i, LeO (nwL k n m i) (nwL (k + 1) n m i)
 | 0, _, _, _ => LeO.none _
 | k + 1, n, m, i => by
  unfold nwL
  exact LeO.ite (LeO.ite (LeO.ite (LeO.ite (nwL_mono k _ _ _) (LeO.refl _)) (LeO.refl _)) (LeO.refl _)) (LeO.refl _)
/-- What newWord comes to: none, if it is refused; else the more bytes. -/
def newW (k : Nat) (t : Int) (d m : List Int) : Option (Option (List Int)) := (bch_size.f t d).bind fun p => if p.2 = 0 then (if (m.length : Int) = p.1 then ((clone d).bind fun d' => (clone m).bind fun m' => (nwL k p.1 m' (wrap64 (13 * t))).bind fun r => some (some r)) else some none) else some none
theorem newW_mono (k : Nat) (t : Int) (d m : List Int) : LeO (newW k t d m) (newW (k + 1) t d m) := by
 unfold newW
 exact LeO.bind (LeO.refl _) (fun p => LeO.ite (LeO.ite (LeO.bind (LeO.refl _) (fun d' => LeO.bind (LeO.refl _) (fun m' => LeO.bind (nwL_mono _ _ _ _) (fun r => LeO.refl _)))) (LeO.refl _)) (LeO.refl _))
theorem clone_is {l r : List Int} (h : clone l = some r) : r = l ∧ 0 < l.length ∧ l.length ≤ 1000000 := by
 unfold clone at h
 by_cases h0 : 0 < l.length
 ·rw [if_pos h0] at h
  by_cases h1 : l.length ≤ 1000000
  ·rw [if_pos h1] at h; exact ⟨(Option.some.inj h).symm, h0, h1⟩
  ·rw [if_neg h1] at h; exact absurd h (by simp)
 ·rw [if_neg h0] at h; exact absurd h (by simp)
theorem clone_calls (A0 : Option Addr) (c0 : Nat) (l : List Int) (w : World) (hr0 : Kd.C (Kd.int .u8) w A0 l.length l) (hc0 : l.length ≤ c0) (h : clone l = some l) :
  Calls Try.prog 56 #[.slice A0 l.length c0] w fun e w' => ∃ g c : Nat, e = .returned (.slice (some ⟨g, 0, none⟩) l.length c) ∧ w.heap.size ≤ g ∧ w'.ownsRow w.heap.size 5 1 (.slice (some ⟨g, 0, none⟩) l.length c) l.length (encs (Value.int .u8) l) ∧ Below w.heap.size w w' := by
 refine (slices_Clone_byte_byte.calls A0 c0 l l w hr0 hc0 h).mono ?_
 rintro e w' ⟨v, rfl, hR, hB⟩
 have ho := Kd.own_of_R hR
 rcases ho.2 with ⟨_, h0⟩ | ⟨g, cap, _, rfl, hg, _⟩
 ·have := (clone_is h).2.1
  omega
 ·exact ⟨g, cap, rfl, hg, ho, hB⟩
set_option maxHeartbeats 2000000 in
set_option maxRecDepth 100000 in
theorem nw_no (t : Int) (A1 : Option Addr) (c1 : Nat) (d : List Int) (A2 : Option Addr) (c2 : Nat) (m : List Int) (n e : Int) (w : World) (hr1 : Kd.C (Kd.int .u8) w A1 d.length d) (hc1 : d.length ≤ c1) (hs : bch_size.f t d = some (n, e)) (hne : e ≠ 0 ∨ (m.length : Int) ≠ n) :
  Calls Try.prog 39 #[.int .i64 t, .slice A1 d.length c1, .slice A2 m.length c2] w fun e' w' => e' = .returned (.tuple #[.pointer none, .int .i64 1]) ∧ Below w.heap.size w w' := by
 have HS := Aside0.mk hs
 have HR1 := Aside0.mk hr1
 clear hs hr1
 by_cases he : e = 0
 ·have he1 : (e == 0) = true := beq_iff_eq.2 he
  have he2 : (e != 0) = false := bne_eq_false_iff_eq.2 he
  have hn : (m.length : Int) ≠ n := hne.resolve_left (fun h => h he)
  have hn1 : ((m.length : Int) == n) = false := beq_eq_false_iff_ne.2 hn
  have hn2 : ((m.length : Int) != n) = true := bne_iff_ne.2 hn
  clear hne he hn
  go_enter Try.func39, Try.ntmps39
  go_wp2_with (first | (go_at_call 47; (with_reducible refine (bch_size.calls t A1 c1 d n e _ HR1.out hc1 HS.out).mono ?_); rintro e' w' ⟨rfl, ⟨nd, rfl⟩⟩))
  go_ret2
  exact ⟨rfl, pw_below_drewN (Below.refl _ _) nd⟩
 ·have he1 : (e == 0) = false := beq_eq_false_iff_ne.2 he
  have he2 : (e != 0) = true := bne_iff_ne.2 he
  clear hne he
  go_enter Try.func39, Try.ntmps39
  go_wp2_with (first | (go_at_call 47; (with_reducible refine (bch_size.calls t A1 c1 d n e _ HR1.out hc1 HS.out).mono ?_); rintro e' w' ⟨rfl, ⟨nd, rfl⟩⟩))
  go_ret2
  exact ⟨rfl, pw_below_drewN (Below.refl _ _) nd⟩
set_option maxHeartbeats 2000000 in
set_option maxRecDepth 100000 in
theorem nw_yes (k : Nat) (t : Int) (A1 : Option Addr) (c1 : Nat) (d : List Int) (A2 : Option Addr) (c2 : Nat) (m : List Int) (n : Int) (r : List Int) (w : World) (hr1 : Kd.C (Kd.int .u8) w A1 d.length d) (hc1 : d.length ≤ c1) (hr2 : Kd.C (Kd.int .u8) w A2 m.length m) (hc2 : m.length ≤ c2) (hs : bch_size.f t d = some (n, 0)) (hn : (m.length : Int) = n) (hd : clone d = some d) (hm : clone m = some m) (hL : nwL k n m (wrap64 (13 * t)) = some r) :
  Calls Try.prog 39 #[.int .i64 t, .slice A1 d.length c1, .slice A2 m.length c2] w fun e' w' => ∃ g gd cd gm cm : Nat, e' = .returned (.tuple #[.pointer (some ⟨g, 0, none⟩), .int .i64 0]) ∧ WSt w' w.heap.size g t d r gd cd gm cm ∧ w.heap.size ≤ g ∧ Below w.heap.size w w' := by
 have HS := Aside0.mk hs
 have HR1 := Aside0.mk hr1
 have HR2 := Aside0.mk hr2
 have HD := Aside0.mk hd
 have HM := Aside0.mk hm
 have HL := Aside0.mk hL
 have hn1 : ((m.length : Int) == n) = true := beq_iff_eq.2 hn
 have hn2 : ((m.length : Int) != n) = false := bne_eq_false_iff_eq.2 hn
 clear hs hr1 hr2 hd hm hL hn
 have tok1 : True := trivial
 go_enter Try.func39, Try.ntmps39
 go_wp2_with (first | (go_at_call 47; (with_reducible refine (bch_size.calls t A1 c1 d n 0 _ HR1.out hc1 HS.out).mono ?_); rintro e' w' ⟨rfl, ⟨nd, rfl⟩⟩) | (go_at_call 56; have tok := tok1; clear tok1; (refine (clone_calls A1 c1 d _ (Kd.C_drewN HR1.out nd) hc1 HD.out).mono ?_); rintro e' w1 ⟨gd, cd, rfl, hg1, ho1, hb1⟩; have HG1 := Aside0.mk hg1; have HO1 := Aside0.mk ho1; have HB1 := Aside0.mk (below_step (pw_below_drewN (Below.refl _ w) nd) hb1); clear hg1 ho1 hb1; have tok2 : True := trivial) | (go_at_call 56; have tok := tok2; clear tok2; (refine (clone_calls A2 c2 m _ (Kd.C_below HR2.out HB1.out) hc2 HM.out).mono ?_); rintro e' w2 ⟨gm, cm, rfl, hg2, ho2, hb2⟩; have HG2 := Aside0.mk hg2; have HO2 := Aside0.mk ho2; have HB2 := Aside0.mk (below_step HB1.out hb2); have HB12 := Aside0.mk hb2; clear hg2 ho2 hb2))
 have hsz : w2.heap.size < (w2.alloc (.cells #[.int .i64 t, .slice (some ⟨gd, 0, none⟩) d.length cd, .slice (some ⟨gm, 0, none⟩) m.length cm] 75)).heap.size := by simp
 have h1 := HO1.out
 have h2 := HO2.out
 have l1 := own_lt h1 gd (by simp [Value.ownBlock])
 have l2 := own_lt h2 gm (by simp [Value.ownBlock])
 have l3 := own_base h2 gm (by simp [Value.ownBlock])
 have HW0 : WSt (w2.alloc (.cells #[.int .i64 t, .slice (some ⟨gd, 0, none⟩) d.length cd, .slice (some ⟨gm, 0, none⟩) m.length cm] 75)) w.heap.size w2.heap.size t d m gd cd gm cm :=
  ⟨heap_alloc_new w2 _, own_weaken (own_move (own_move h1 (fun k hk => HB12.out.block k (own_lt h1 k hk))) (fun k hk => Below.heap_alloc _ _ _ (by have := own_lt h1 k hk; have := HB12.out.size; omega))) (Nat.le_refl _), own_weaken (h2.alloc _) (by have := HB1.out.size; exact this), by omega, by have := HB12.out.size; omega, l2⟩
 have HW := Aside0.mk HW0
 have HBW := Aside0.mk (show Below w.heap.size w (w2.alloc (.cells #[.int .i64 t, .slice (some ⟨gd, 0, none⟩) d.length cd, .slice (some ⟨gm, 0, none⟩) m.length cm] 75)) from below_alloc HB2.out _)
 have HGE := Aside0.mk (show w.heap.size ≤ w2.heap.size from HB2.out.size)
 clear hsz h1 h2 l1 l2 l3 HW0
 generalize w2.alloc (.cells #[.int .i64 t, .slice (some ⟨gd, 0, none⟩) d.length cd, .slice (some ⟨gm, 0, none⟩) m.length cm] 75) = W3 at HW HBW ⊢
 go_loopg [11] k (fun kq v11 wr => ∃ (i : Int) (x : List Int), v11 = .int .i64 i ∧ Aside0 (nwL kq n x i = some r) ∧ Aside0 (kq ≤ k) ∧ Aside0 (WSt wr w.heap.size w2.heap.size t d x gd cd gm cm) ∧ Aside0 (Below w.heap.size w wr))
 case atStart => exact ⟨_, m, rfl, HL, ⟨Nat.le_refl _⟩, HW, HBW⟩
 case round =>
  clear HL HW HBW
  obtain ⟨i, x, rfl, HL, HK, HW, HB⟩ := hrel
  cases gk with
  | zero => exact absurd HL.out (by simp [nwL])
  | succ k1 =>
   have H := HL.out
   rw [nwL] at H
   by_cases c0 : i < wrap64 (8 * n)
   ·rw [if_pos c0] at H
    have c0b : decide (i < wrap64 (8 * n)) = true := decide_eq_true c0
    obtain ⟨ji, hji⟩ : ∃ ji, wrap64 (Int.tdiv i 8) = ji := ⟨_, rfl⟩
    have hjiw : IntKind.i64.wrap (Int.tdiv i 8) = ji := (i64_w _).trans hji
    rw [hji] at H
    by_cases c1' : 0 ≤ ji
    ·rw [if_pos c1'] at H
     by_cases c2' : ji < (x.length : Int)
     ·rw [if_pos c2'] at H
      by_cases c3' : 0 ≤ Int.tmod i 8
      ·rw [if_pos c3'] at H
       have HN := Aside0.mk H
       have hcell : wr.cell? ⟨w2.heap.size, 2, none⟩ = some (.slice (some ⟨gm, 0, none⟩) x.length cm) := (blk_cell HW.out.blk 2).trans rfl
       obtain ⟨hx, hf⟩ := HW.out.atm ji c1' c2'
       have hC3 := Aside0.mk c3'
       obtain ⟨v, hv⟩ : ∃ v, rd x ji = v := ⟨_, rfl⟩
       rw [hv] at hx
       have HV := Aside0.mk hv
       clear H c0 HL hv
       go_wp2_with fail
       go_region
       go_wp2
       go_roundg k1
       case measure => have := HK.out; omega
       case rel =>
        have e1 : shl .u8 1 (Int.tmod i 8) = 2 ^ min (Int.tmod i 8).toNat 8 % 256 := shl1_u8 _
        rw [← HV.out, ← e1]
        refine ⟨_, _, rfl, HN, ⟨by have := HK.out; omega⟩, ⟨?_⟩, ⟨?_⟩⟩
        ·exact (HW.out.setm ji _).move (fun _ _ => rfl)
        ·exact below_drew1 (HB.out.setCell (p := ⟨gm, ji.toNat, none⟩) HW.out.gem _)
      ·rw [if_neg c3'] at H; injection H
     ·rw [if_neg c2'] at H; injection H
    ·rw [if_neg c1'] at H; injection H
   ·rw [if_neg c0] at H
    have c0b : decide (i < wrap64 (8 * n)) = false := decide_eq_false c0
    obtain rfl := Option.some.inj H
    clear H c0 HL
    go_wp2
    go_ret2
    exact ⟨_, _, _, _, _, rfl, HW.out, HGE.out, HB.out⟩
theorem newW_no {k : Nat} {t : Int} {d m : List Int} (h : newW k t d m = some none) : ∃ n e, bch_size.f t d = some (n, e) ∧ (e ≠ 0 ∨ (m.length : Int) ≠ n) := by
 unfold newW at h
 obtain ⟨⟨n, e⟩, hs, h⟩ := Option.bind_eq_some_iff.1 h
 refine ⟨n, e, hs, ?_⟩
 by_cases he : e = 0
 ·rw [if_pos he] at h
  by_cases hn : (m.length : Int) = n
  ·rw [if_pos hn] at h
   obtain ⟨d', _, h⟩ := Option.bind_eq_some_iff.1 h
   obtain ⟨m', _, h⟩ := Option.bind_eq_some_iff.1 h
   obtain ⟨r, _, h⟩ := Option.bind_eq_some_iff.1 h
   exact absurd h (by simp)
  ·exact .inr hn
 ·exact .inl he
theorem newW_yes {k : Nat} {t : Int} {d m r : List Int} (h : newW k t d m = some (some r)) : ∃ n, bch_size.f t d = some (n, 0) ∧ (m.length : Int) = n ∧ clone d = some d ∧ clone m = some m ∧ nwL k n m (wrap64 (13 * t)) = some r := by
 unfold newW at h
 obtain ⟨⟨n, e⟩, hs, h⟩ := Option.bind_eq_some_iff.1 h
 by_cases he : e = 0
 ·rw [if_pos he] at h
  by_cases hn : (m.length : Int) = n
  ·rw [if_pos hn] at h
   obtain ⟨d', hd, h⟩ := Option.bind_eq_some_iff.1 h
   obtain ⟨m', hm, h⟩ := Option.bind_eq_some_iff.1 h
   obtain ⟨r', hr, h9⟩ := Option.bind_eq_some_iff.1 h
   obtain rfl := (clone_is hd).1
   obtain rfl := (clone_is hm).1
   obtain rfl := Option.some.inj (Option.some.inj h9)
   have he' : e = 0 := he
   subst he'
   exact ⟨n, hs, hn, hd, hm, hr⟩
  ·rw [if_neg hn] at h; exact absurd h (by simp)
 ·rw [if_neg he] at h; exact absurd h (by simp)
theorem newW_call_no {k : Nat} {t : Int} {d m : List Int} (h : newW k t d m = some none) (A1 : Option Addr) (c1 : Nat) (A2 : Option Addr) (c2 : Nat) (w : World) (hr1 : Kd.C (Kd.int .u8) w A1 d.length d) (hc1 : d.length ≤ c1) :
  Calls Try.prog 39 #[.int .i64 t, .slice A1 d.length c1, .slice A2 m.length c2] w fun e' w' => e' = .returned (.tuple #[.pointer none, .int .i64 1]) ∧ Below w.heap.size w w' := by
 obtain ⟨n, e, hs, hne⟩ := newW_no h
 exact nw_no t A1 c1 d A2 c2 m n e w hr1 hc1 hs hne
theorem newW_call_yes {k : Nat} {t : Int} {d m r : List Int} (h : newW k t d m = some (some r)) (A1 : Option Addr) (c1 : Nat) (A2 : Option Addr) (c2 : Nat) (w : World) (hr1 : Kd.C (Kd.int .u8) w A1 d.length d) (hc1 : d.length ≤ c1) (hr2 : Kd.C (Kd.int .u8) w A2 m.length m) (hc2 : m.length ≤ c2) :
  Calls Try.prog 39 #[.int .i64 t, .slice A1 d.length c1, .slice A2 m.length c2] w fun e' w' => ∃ g gd cd gm cm : Nat, e' = .returned (.tuple #[.pointer (some ⟨g, 0, none⟩), .int .i64 0]) ∧ WSt w' w.heap.size g t d r gd cd gm cm ∧ w.heap.size ≤ g ∧ Below w.heap.size w w' := by
 obtain ⟨n, hs, hn, hd, hm, hL⟩ := newW_yes h
 exact nw_yes k t A1 c1 d A2 c2 m n r w hr1 hc1 hr2 hc2 hs hn hd hm hL
/-- The sums of a word, told of the word as it lies. -/
theorem sums_calls {k : Nat} {t : Int} {d m s : List Int} {t1 : Int} (h : bch_word_sums.f k t d m = some (s, t1)) (W : World) (base g gd cd gm cm : Nat) (hW : WSt W base g t d m gd cd gm cm) (hg : base ≤ g) :
  Calls Try.prog 41 #[.pointer (some ⟨g, 0, none⟩)] W fun e w' => ∃ A c, e = .returned (.slice A s.length c) ∧ s.length ≤ c ∧ Kd.C (Kd.int .i64) w' A s.length s ∧ Kd.R (Kd.int .i64) 3 w' W.heap.size (fun _ => True) (.slice A s.length c) s ∧ WSt w' base g t1 d m gd cd gm cm ∧ Below base W w' := by
 have hlt := blk_lt hW.blk
 refine (bch_word_sums.callsT (some ⟨gd, 0, none⟩) cd (some ⟨gm, 0, none⟩) cm k g t d m s t1 (cutW W g) W hW.is (cutW_below (Nat.le_of_lt hlt)) h).mono ?_
 rintro e w' ⟨v, rfl, hR, hI, hB, hK⟩
 obtain ⟨A, c, rfl, hc, hC⟩ := Kd.R_reads hR
 refine ⟨A, c, rfl, hc, hC, hR, hW.back hI hK, ⟨hB.os, hB.tape, hB.output, hK.1, fun i hi => hK.2 i (by omega) (by omega) (by simp)⟩⟩
def gf_Inv.f (k : Nat) (a0 : Int) : Option (Int × Int) := (gf_is.f a0).bind fun t152 => (if t152 = true then (if a0 = 0 then (some (0, 20)) else ((gf_pow.f k a0 8190).bind fun t153 => (some (t153, 0)))) else (some (0, 1)))
theorem gf_Inv.mono : ∀ a0 k, LeO (gf_Inv.f k a0) (gf_Inv.f (k + 1) a0) := by
 intro a0 k
 unfold gf_Inv.f
 repeat' first
   | (with_reducible exact gf_pow.mono _ _ _)
   | (with_reducible exact LeO.refl _)
   | (with_reducible exact LeO.none _)
   | (with_reducible refine LeO.ite ?_ ?_)
   | (with_reducible refine LeO.bind ?_ (fun _ => ?_))
   | exact gf_pow.mono _ _ _
   | exact LeO.none _
   | refine LeO.ite ?_ ?_
   | refine LeO.bind ?_ (fun _ => ?_)
set_option maxHeartbeats 8000000 in
set_option maxRecDepth 100000 in
theorem gf_Inv.calls (k : Nat) (a0 : Int) (r1 : Int) (r2 : Int) (w : World) (h : gf_Inv.f k a0 = some (r1, r2)) :
  Calls Try.prog 57 #[.int .i64 a0] w fun e w' => e = .returned (.tuple #[.int .i64 r1, .int .i64 r2]) ∧ Drawn0 w w' := by
 have H := h
 unfold gf_Inv.f at H
 clear h
 obtain ⟨t152, A2, H⟩ := uO H
 by_cases c3 : t152 = true
 ·subst c3
  replace H := uI rfl H
  by_cases c4 : a0 = 0
  ·rw [if_pos c4] at H
   have c4b0 : (a0 == 0) = true := beq_iff_eq.mpr c4
   have c4b1 : (a0 != 0) = false := bne_eq_false_iff_eq.mpr c4
   clear c4
   simp only [Option.some.injEq, Prod.mk.injEq] at H
   obtain ⟨rfl, rfl⟩ := H
   go_enter Try.func57, Try.ntmps57
   go_wp2_with (first | ((with_reducible refine gate_callee (f := 73) rfl ?_); refine uG (some 6) Try.func73 #[.int .i64 a0] ?_; (with_reducible refine (gf_is.calls a0 true _ A2.out).mono ?_); rintro e w' ⟨rfl, ⟨nd, rfl⟩⟩; refine ⟨_, rfl, ?_⟩))
   go_ret2
   exact ⟨by first | rfl | (simp; done) | (simp [*]; done), by repeat (first | exact Drawn0.refl _ | apply Drawn0.step)⟩
  ·rw [if_neg c4] at H
   have c4b0 : (a0 == 0) = false := beq_eq_false_iff_ne.mpr c4
   have c4b1 : (a0 != 0) = true := bne_iff_ne.mpr c4
   obtain ⟨t153, A5, H⟩ := uO H
   simp only [Option.some.injEq, Prod.mk.injEq] at H
   obtain ⟨rfl, rfl⟩ := H
   go_enter Try.func57, Try.ntmps57
   go_wp2_with (first | ((with_reducible refine gate_callee (f := 73) rfl ?_); refine uG (some 6) Try.func73 #[.int .i64 a0] ?_; (with_reducible refine (gf_is.calls a0 true _ A2.out).mono ?_); rintro e w' ⟨rfl, ⟨nd, rfl⟩⟩; refine ⟨_, rfl, ?_⟩) | ((with_reducible refine gate_callee (f := 60) rfl ?_); refine uG (some 12) Try.func60 #[.int .i64 a0, .int .i64 8190] ?_; (with_reducible refine (gf_pow.calls k a0 8190 t153 _ A5.out).mono ?_); rintro e w' ⟨rfl, ⟨nd, rfl⟩⟩; refine ⟨_, rfl, ?_⟩))
   go_ret2
   exact ⟨by first | rfl | (simp; done) | (simp [*]; done), by repeat (first | exact Drawn0.refl _ | apply Drawn0.step)⟩
 ·replace c3 := Bool.eq_false_iff.mpr c3
  subst c3
  replace H := uJ uN0 H
  simp only [Option.some.injEq, Prod.mk.injEq] at H
  obtain ⟨rfl, rfl⟩ := H
  go_enter Try.func57, Try.ntmps57
  go_wp2_with (first | ((with_reducible refine gate_callee (f := 73) rfl ?_); refine uG (some 6) Try.func73 #[.int .i64 a0] ?_; (with_reducible refine (gf_is.calls a0 false _ A2.out).mono ?_); rintro e w' ⟨rfl, ⟨nd, rfl⟩⟩; refine ⟨_, rfl, ?_⟩))
  go_ret2
  exact ⟨by first | rfl | (simp; done) | (simp [*]; done), by repeat (first | exact Drawn0.refl _ | apply Drawn0.step)⟩
/-- An append of one number onto a row that is cut at its length: a new row. -/
theorem cut_append {ops : Array Oper} {rest : List Oper} {o : Oper} {a : Act} {Q : Exit → Act → World → Prop} {W : World} (s x : Operand) (hgd : o.guard = none)
    (ho : o.op = .call { callee := .builtin .append, args := #[s, x], argTypes := #[48, 48] })
    (ad : Addr) (xs : List Int) (hs : a.eval s = .slice (some ad) xs.length xs.length) (hxs : ∀ j u, (encs (Value.int .i64) xs)[j]? = some u → W.cell? (ad.add j) = some u)
    (b : Nat) (z : Int) (hx : a.eval x = .slice (some ⟨b, 0, none⟩) 1 1) (hz : W.cell? ⟨b, 0, none⟩ = some (.int .i64 z)) (hl : xs.length < 17592186044416)
    (h : ∀ v' w', Kd.R (Kd.int .i64) 3 w' W.heap.size (fun _ => True) v' (xs ++ [z]) → Below W.heap.size W w' → wpList Try.prog ops Q rest (a.put o.dst v') w') : wpList Try.prog ops Q (o :: rest) a W := by
  refine wpList_plain hgd fun K hK => ?_
  obtain ⟨i, hi, hz0, hz1, hz2⟩ := info_parts clinfo_i
  have hr := run_append_grow (P := Try.prog) W 48 o.type 3 i (.int .i64 0) Try.underlying48 hi hz0 ad xs.length xs.length (encs (Value.int .i64) xs) (by rw [hz1]; simp [encs]) hxs ⟨b, 0, none⟩ 1 1 [.int .i64 z] (by rw [hz1]; rfl) (fun j u hu => by
    cases j with
    | zero => obtain rfl : Value.int .i64 z = u := by simpa using hu
              exact hz
    | succ j => simp at hu) (by omega) (by omega) (growslice_fits (by omega) (by rw [hz2]; omega))
  have hge := grownCap_ge W (xs.length + 1) xs.length 3
  have hcm2 : grownCap W (xs.length + 1) xs.length 3 ≤ maxLen := grownCap_le_maxLen W (xs.length + 1) xs.length 3 (by unfold maxLen; omega)
  unfold Oper.wp execOp
  simp only [ho, resolve, invoke, builtin, Sem.run_bind, Sem.run_pure, Result.andThen_ok, List.map_toArray, List.map_cons, List.map_nil, hs, hx, hr]
  refine hK _ _ (h _ _ (Kd.R_of_own (h1 := fun _ => rfl) ⟨by simp [encs], .inr ⟨W.heap.size, _, _, by rw [List.length_append]; rfl, Nat.le_refl _, heap_alloc_new W.drew _, by rw [List.length_append]; exact hge, hcm2, ?_, ?_⟩⟩ (fun _ _ => trivial)) (below_alloc (below_drew1 (Below.refl _ _)) _))
  · have e1 : (Value.int IntKind.i64 0).cells.size = 1 := rfl
    simp only [Array.size_append, List.size_toArray, size_zeroCells, e1]
    simp [encs]
    omega
  · simp only [Array.toList_append, List.append_assoc]
    rw [← List.append_assoc, show (xs ++ [z]).length * 1 = (encs (Value.int .i64) xs ++ [Value.int .i64 z]).length from by simp [encs]]
    rw [List.take_left]
    simp [encs]
def slices_Clone_int_int.f (l0 : List Int) : Option (List Int) := clone l0
set_option maxHeartbeats 1000000 in
theorem slices_Clone_int_int.calls (A0 : Option Addr) (c0 : Nat) (l0 : List Int) (r : List Int) (w : World) (hr0 : Kd.C (Kd.int .i64) w A0 l0.length l0) (hc0 : l0.length ≤ c0) (h : slices_Clone_int_int.f l0 = some r) :
  Calls Try.prog 58 #[.slice A0 l0.length c0] w fun e w' => ∃ v0_ : Value, e = .returned (v0_) ∧ Kd.R (Kd.int .i64) 3 w' w.heap.size (fun _ => True) v0_ r ∧ Below w.heap.size w w' := by
 unfold slices_Clone_int_int.f clone at h
 by_cases h0 : 0 < l0.length
 ·rw [if_pos h0] at h
  by_cases h1 : l0.length ≤ 1000000
  ·rw [if_pos h1] at h
   obtain rfl := Option.some.inj h
   obtain ⟨i0, hi, hz0, hz1, hz2⟩ := info_parts clinfo_i
   have HI := Aside0.mk hi
   have HZ0 := Aside0.mk hz0
   have HZ1 := Aside0.mk hz1
   have HZ2 := Aside0.mk hz2
   obtain ⟨ad, rfl, hc⟩ := cl_cells hr0 rfl h0
   have HC := Aside0.mk hc
   have H0 := Aside0.mk h0
   have H1 := Aside0.mk h1
   clear hi hz0 hz1 hz2 hr0 hc h0 h1
   have kq := fun W => Lib.run_eql_slice_nil (P := Try.prog) W 48 3 (some ad) l0.length c0 0 0 Try.underlying48
   go_enter Try.func58, Try.ntmps58
   go_wp2_with (first | ((with_reducible refine gate_builtin (b := .append) (xs := #[.tmp 5, .tmp 6]) rfl ?_); at_builtin; (refine wpList_append_own _ rfl (.tmp 5) (.tmp 6) 48 rfl w.heap.size 3 i0 (.int .i64 0) 1 8 Try.underlying48 HI.out HZ0.out HZ1.out HZ2.out rfl (by decide) (.slice (some ⟨w.heap.size, 0, none⟩) 0 0) 0 [] rfl (cl_empty w 3) ad l0.length c0 (encs (Value.int .i64) l0) rfl (by simp [encs]) (fun j u hu => cl_al _ (HC.out j u hu)) (cl_one _) (by have := H1.out; unfold maxLen; omega) (by have := H1.out; omega) (by simp) ?_); (intro v' w1 ho' hb' hv'; have HO := Aside0.mk ho'; have HB := Aside0.mk (cl_below w 3 hb'); clear ho' hb' hv')))
   go_ret
   rw [Nat.zero_add, List.nil_append] at HO
   exact ⟨_, rfl, Kd.R_of_own (h1 := fun _ => rfl) HO.out (fun _ _ => trivial), HB.out⟩
  ·rw [if_neg h1] at h; exact absurd h (by simp)
 ·rw [if_neg h0] at h; exact absurd h (by simp)
mutual
def bch_locator.l0 : Nat → List Int → List Int → List Int → Int → Int → Int → Int → Int → Option (List Int)
 | 0, _, _, _, _, _, _, _, _ => none
 | k + 1, x0, x3, x4, x5, x6, x7, x20, x21 => if x21 < x20 then (if 0 ≤ x21 then (if x21 < (x0.length : Int) then (bch_locator.l1 k x0 x3 x4 x5 x6 x7 x21 (rd x0 x21) 1 x20 x21) else (none)) else (none)) else (bch_locator.l4 k x3)
def bch_locator.j2 : Nat → List Int → List Int → List Int → Int → Int → Int → Int → Int → Int → Int → Option (List Int)
 | 0, _, _, _, _, _, _, _, _, _, _ => none
 | k + 1, x0, x3, x4, x5, x6, x7, x8, x9, x20, x21 => if x9 = 0 then (bch_locator.l0 k x0 x3 x4 x5 (wrap64 (x6 + 1)) x7 x20 (wrap64 (x21 + 1))) else ((gf_Inv.f k x7).bind fun bt164 => ((bch_mul.f k x9 bt164.1).bind fun t166 => ((slices_Clone_int_int.f x3).bind fun t167 => (bch_locator.l2 k x0 x3 x4 x5 x6 x7 x8 x9 t166 t167 x20 x21))))
def bch_locator.l2 : Nat → List Int → List Int → List Int → Int → Int → Int → Int → Int → Int → List Int → Int → Int → Option (List Int)
 | 0, _, _, _, _, _, _, _, _, _, _, _, _ => none
 | k + 1, x0, x3, x4, x5, x6, x7, x8, x9, x13, x14, x20, x21 => if (x3.length : Int) < (wrap64 ((x4.length : Int) + x6)) then (if 0 < x3.length ∧ x3.length < 17592186044416 then (bch_locator.l2 k x0 (x3 ++ [0]) x4 x5 x6 x7 x8 x9 x13 x14 x20 x21) else (none)) else ((slices_Clone_int_int.f x3).bind fun t173 => (bch_locator.l3 k x0 t173 x4 x5 x6 x7 x8 x9 x13 x14 x20 x21 x4 (x4.length : Int) 0))
def bch_locator.l3 : Nat → List Int → List Int → List Int → Int → Int → Int → Int → Int → Int → List Int → Int → Int → List Int → Int → Int → Option (List Int)
 | 0, _, _, _, _, _, _, _, _, _, _, _, _, _, _, _ => none
 | k + 1, x0, x3, x4, x5, x6, x7, x8, x9, x13, x14, x20, x21, x83, x84, x85 => if x85 < x84 then (if 0 ≤ x85 then (if x85 < (x83.length : Int) then (if 0 ≤ (wrap64 (x85 + x6)) then (if (wrap64 (x85 + x6)) < (x3.length : Int) then ((bch_mul.f k x13 (rd x83 x85)).bind fun t178 => (bch_locator.l3 k x0 (x3.set ((wrap64 (x85 + x6)) : Int).toNat (Go.bits .xor .i64 (rd x3 (wrap64 (x85 + x6))) t178)) x4 x5 x6 x7 x8 x9 x13 x14 x20 x21 x83 x84 (wrap64 (x85 + 1)))) else (none)) else (none)) else (none)) else (none)) else (if (wrap64 (2 * x5)) ≤ x8 then (bch_locator.l0 k x0 x3 x14 (wrap64 ((wrap64 (x8 + 1)) - x5)) 1 x9 x20 (wrap64 (x21 + 1))) else (bch_locator.l0 k x0 x3 x4 x5 (wrap64 (x6 + 1)) x7 x20 (wrap64 (x21 + 1))))
def bch_locator.l1 : Nat → List Int → List Int → List Int → Int → Int → Int → Int → Int → Int → Int → Int → Option (List Int)
 | 0, _, _, _, _, _, _, _, _, _, _, _ => none
 | k + 1, x0, x3, x4, x5, x6, x7, x8, x9, x10, x20, x21 => if x10 ≤ x5 then (if x10 < (x3.length : Int) then (if 0 ≤ x10 then (if 0 ≤ (wrap64 (x8 - x10)) then (if (wrap64 (x8 - x10)) < (x0.length : Int) then ((bch_mul.f k (rd x3 x10) (rd x0 (wrap64 (x8 - x10)))).bind fun t163 => (bch_locator.l1 k x0 x3 x4 x5 x6 x7 x8 (Go.bits .xor .i64 x9 t163) (wrap64 (x10 + 1)) x20 x21)) else (none)) else (none)) else (none)) else (bch_locator.j2 k x0 x3 x4 x5 x6 x7 x8 x9 x20 x21)) else (bch_locator.j2 k x0 x3 x4 x5 x6 x7 x8 x9 x20 x21)
def bch_locator.l4 : Nat → List Int → Option (List Int)
 | 0, _ => none
 | k + 1, x3 => if (x3.length : Int) > 0 then (if 0 ≤ (wrap64 ((x3.length : Int) - 1)) then (if (wrap64 ((x3.length : Int) - 1)) < (x3.length : Int) then (if (rd x3 (wrap64 ((x3.length : Int) - 1))) = 0 then (if (wrap64 ((x3.length : Int) - 1)) ≤ (x3.length : Int) then (bch_locator.l4 k (x3.take ((wrap64 ((x3.length : Int) - 1)) : Int).toNat)) else (none)) else (some x3)) else (none)) else (none)) else (some x3)
end
def bch_locator.f (k : Nat) (l0 : List Int) : Option (List Int) := bch_locator.l0 k l0 (([1] : List Int)) (([1] : List Int)) 0 1 1 (l0.length : Int) 0
theorem bch_locator.mono_l : ∀ k, (∀ y0 y1 y2 y3 y4 y5 y6 y7, LeO (bch_locator.l0 k y0 y1 y2 y3 y4 y5 y6 y7) (bch_locator.l0 (k + 1) y0 y1 y2 y3 y4 y5 y6 y7)) ∧ (∀ y0 y1 y2 y3 y4 y5 y6 y7 y8 y9, LeO (bch_locator.j2 k y0 y1 y2 y3 y4 y5 y6 y7 y8 y9) (bch_locator.j2 (k + 1) y0 y1 y2 y3 y4 y5 y6 y7 y8 y9)) ∧ (∀ y0 y1 y2 y3 y4 y5 y6 y7 y8 y9 y10 y11, LeO (bch_locator.l2 k y0 y1 y2 y3 y4 y5 y6 y7 y8 y9 y10 y11) (bch_locator.l2 (k + 1) y0 y1 y2 y3 y4 y5 y6 y7 y8 y9 y10 y11)) ∧ (∀ y0 y1 y2 y3 y4 y5 y6 y7 y8 y9 y10 y11 y12 y13 y14, LeO (bch_locator.l3 k y0 y1 y2 y3 y4 y5 y6 y7 y8 y9 y10 y11 y12 y13 y14) (bch_locator.l3 (k + 1) y0 y1 y2 y3 y4 y5 y6 y7 y8 y9 y10 y11 y12 y13 y14)) ∧ (∀ y0 y1 y2 y3 y4 y5 y6 y7 y8 y9 y10, LeO (bch_locator.l1 k y0 y1 y2 y3 y4 y5 y6 y7 y8 y9 y10) (bch_locator.l1 (k + 1) y0 y1 y2 y3 y4 y5 y6 y7 y8 y9 y10)) ∧ (∀ y0, LeO (bch_locator.l4 k y0) (bch_locator.l4 (k + 1) y0))
 | 0 => ⟨fun _ _ _ _ _ _ _ _ r h => by simp [bch_locator.l0] at h, fun _ _ _ _ _ _ _ _ _ _ r h => by simp [bch_locator.j2] at h, fun _ _ _ _ _ _ _ _ _ _ _ _ r h => by simp [bch_locator.l2] at h, fun _ _ _ _ _ _ _ _ _ _ _ _ _ _ _ r h => by simp [bch_locator.l3] at h, fun _ _ _ _ _ _ _ _ _ _ _ r h => by simp [bch_locator.l1] at h, fun _ r h => by simp [bch_locator.l4] at h⟩
 | k + 1 => by
  obtain ⟨ih0, ih1, ih2, ih3, ih4, ih5⟩ := bch_locator.mono_l k
  refine ⟨?_, ?_, ?_, ?_, ?_, ?_⟩
  ·intro y0 y1 y2 y3 y4 y5 y6 y7
   unfold bch_locator.l0
   repeat' first
   | (with_reducible exact ih0 _ _ _ _ _ _ _ _)
   | (with_reducible exact ih1 _ _ _ _ _ _ _ _ _ _)
   | (with_reducible exact ih2 _ _ _ _ _ _ _ _ _ _ _ _)
   | (with_reducible exact ih3 _ _ _ _ _ _ _ _ _ _ _ _ _ _ _)
   | (with_reducible exact ih4 _ _ _ _ _ _ _ _ _ _ _)
   | (with_reducible exact ih5 _)
   | (with_reducible exact bch_mul.mono _ _ _)
   | (with_reducible exact gf_Inv.mono _ _)
   | (with_reducible exact LeO.refl _)
   | (with_reducible exact LeO.none _)
   | (with_reducible refine LeO.ite ?_ ?_)
   | (with_reducible refine LeO.bind ?_ (fun _ => ?_))
   | exact ih0 _ _ _ _ _ _ _ _
   | exact ih1 _ _ _ _ _ _ _ _ _ _
   | exact ih2 _ _ _ _ _ _ _ _ _ _ _ _
   | exact ih3 _ _ _ _ _ _ _ _ _ _ _ _ _ _ _
   | exact ih4 _ _ _ _ _ _ _ _ _ _ _
   | exact ih5 _
   | exact bch_mul.mono _ _ _
   | exact gf_Inv.mono _ _
   | exact LeO.none _
   | refine LeO.ite ?_ ?_
   | refine LeO.bind ?_ (fun _ => ?_)
  ·intro y0 y1 y2 y3 y4 y5 y6 y7 y8 y9
   unfold bch_locator.j2
   repeat' first
   | (with_reducible exact ih0 _ _ _ _ _ _ _ _)
   | (with_reducible exact ih1 _ _ _ _ _ _ _ _ _ _)
   | (with_reducible exact ih2 _ _ _ _ _ _ _ _ _ _ _ _)
   | (with_reducible exact ih3 _ _ _ _ _ _ _ _ _ _ _ _ _ _ _)
   | (with_reducible exact ih4 _ _ _ _ _ _ _ _ _ _ _)
   | (with_reducible exact ih5 _)
   | (with_reducible exact bch_mul.mono _ _ _)
   | (with_reducible exact gf_Inv.mono _ _)
   | (with_reducible exact LeO.refl _)
   | (with_reducible exact LeO.none _)
   | (with_reducible refine LeO.ite ?_ ?_)
   | (with_reducible refine LeO.bind ?_ (fun _ => ?_))
   | exact ih0 _ _ _ _ _ _ _ _
   | exact ih1 _ _ _ _ _ _ _ _ _ _
   | exact ih2 _ _ _ _ _ _ _ _ _ _ _ _
   | exact ih3 _ _ _ _ _ _ _ _ _ _ _ _ _ _ _
   | exact ih4 _ _ _ _ _ _ _ _ _ _ _
   | exact ih5 _
   | exact bch_mul.mono _ _ _
   | exact gf_Inv.mono _ _
   | exact LeO.none _
   | refine LeO.ite ?_ ?_
   | refine LeO.bind ?_ (fun _ => ?_)
  ·intro y0 y1 y2 y3 y4 y5 y6 y7 y8 y9 y10 y11
   unfold bch_locator.l2
   repeat' first
   | (with_reducible exact ih0 _ _ _ _ _ _ _ _)
   | (with_reducible exact ih1 _ _ _ _ _ _ _ _ _ _)
   | (with_reducible exact ih2 _ _ _ _ _ _ _ _ _ _ _ _)
   | (with_reducible exact ih3 _ _ _ _ _ _ _ _ _ _ _ _ _ _ _)
   | (with_reducible exact ih4 _ _ _ _ _ _ _ _ _ _ _)
   | (with_reducible exact ih5 _)
   | (with_reducible exact bch_mul.mono _ _ _)
   | (with_reducible exact gf_Inv.mono _ _)
   | (with_reducible exact LeO.refl _)
   | (with_reducible exact LeO.none _)
   | (with_reducible refine LeO.ite ?_ ?_)
   | (with_reducible refine LeO.bind ?_ (fun _ => ?_))
   | exact ih0 _ _ _ _ _ _ _ _
   | exact ih1 _ _ _ _ _ _ _ _ _ _
   | exact ih2 _ _ _ _ _ _ _ _ _ _ _ _
   | exact ih3 _ _ _ _ _ _ _ _ _ _ _ _ _ _ _
   | exact ih4 _ _ _ _ _ _ _ _ _ _ _
   | exact ih5 _
   | exact bch_mul.mono _ _ _
   | exact gf_Inv.mono _ _
   | exact LeO.none _
   | refine LeO.ite ?_ ?_
   | refine LeO.bind ?_ (fun _ => ?_)
  ·intro y0 y1 y2 y3 y4 y5 y6 y7 y8 y9 y10 y11 y12 y13 y14
   unfold bch_locator.l3
   repeat' first
   | (with_reducible exact ih0 _ _ _ _ _ _ _ _)
   | (with_reducible exact ih1 _ _ _ _ _ _ _ _ _ _)
   | (with_reducible exact ih2 _ _ _ _ _ _ _ _ _ _ _ _)
   | (with_reducible exact ih3 _ _ _ _ _ _ _ _ _ _ _ _ _ _ _)
   | (with_reducible exact ih4 _ _ _ _ _ _ _ _ _ _ _)
   | (with_reducible exact ih5 _)
   | (with_reducible exact bch_mul.mono _ _ _)
   | (with_reducible exact gf_Inv.mono _ _)
   | (with_reducible exact LeO.refl _)
   | (with_reducible exact LeO.none _)
   | (with_reducible refine LeO.ite ?_ ?_)
   | (with_reducible refine LeO.bind ?_ (fun _ => ?_))
   | exact ih0 _ _ _ _ _ _ _ _
   | exact ih1 _ _ _ _ _ _ _ _ _ _
   | exact ih2 _ _ _ _ _ _ _ _ _ _ _ _
   | exact ih3 _ _ _ _ _ _ _ _ _ _ _ _ _ _ _
   | exact ih4 _ _ _ _ _ _ _ _ _ _ _
   | exact ih5 _
   | exact bch_mul.mono _ _ _
   | exact gf_Inv.mono _ _
   | exact LeO.none _
   | refine LeO.ite ?_ ?_
   | refine LeO.bind ?_ (fun _ => ?_)
  ·intro y0 y1 y2 y3 y4 y5 y6 y7 y8 y9 y10
   unfold bch_locator.l1
   repeat' first
   | (with_reducible exact ih0 _ _ _ _ _ _ _ _)
   | (with_reducible exact ih1 _ _ _ _ _ _ _ _ _ _)
   | (with_reducible exact ih2 _ _ _ _ _ _ _ _ _ _ _ _)
   | (with_reducible exact ih3 _ _ _ _ _ _ _ _ _ _ _ _ _ _ _)
   | (with_reducible exact ih4 _ _ _ _ _ _ _ _ _ _ _)
   | (with_reducible exact ih5 _)
   | (with_reducible exact bch_mul.mono _ _ _)
   | (with_reducible exact gf_Inv.mono _ _)
   | (with_reducible exact LeO.refl _)
   | (with_reducible exact LeO.none _)
   | (with_reducible refine LeO.ite ?_ ?_)
   | (with_reducible refine LeO.bind ?_ (fun _ => ?_))
   | exact ih0 _ _ _ _ _ _ _ _
   | exact ih1 _ _ _ _ _ _ _ _ _ _
   | exact ih2 _ _ _ _ _ _ _ _ _ _ _ _
   | exact ih3 _ _ _ _ _ _ _ _ _ _ _ _ _ _ _
   | exact ih4 _ _ _ _ _ _ _ _ _ _ _
   | exact ih5 _
   | exact bch_mul.mono _ _ _
   | exact gf_Inv.mono _ _
   | exact LeO.none _
   | refine LeO.ite ?_ ?_
   | refine LeO.bind ?_ (fun _ => ?_)
  ·intro y0
   unfold bch_locator.l4
   repeat' first
   | (with_reducible exact ih0 _ _ _ _ _ _ _ _)
   | (with_reducible exact ih1 _ _ _ _ _ _ _ _ _ _)
   | (with_reducible exact ih2 _ _ _ _ _ _ _ _ _ _ _ _)
   | (with_reducible exact ih3 _ _ _ _ _ _ _ _ _ _ _ _ _ _ _)
   | (with_reducible exact ih4 _ _ _ _ _ _ _ _ _ _ _)
   | (with_reducible exact ih5 _)
   | (with_reducible exact bch_mul.mono _ _ _)
   | (with_reducible exact gf_Inv.mono _ _)
   | (with_reducible exact LeO.refl _)
   | (with_reducible exact LeO.none _)
   | (with_reducible refine LeO.ite ?_ ?_)
   | (with_reducible refine LeO.bind ?_ (fun _ => ?_))
   | exact ih0 _ _ _ _ _ _ _ _
   | exact ih1 _ _ _ _ _ _ _ _ _ _
   | exact ih2 _ _ _ _ _ _ _ _ _ _ _ _
   | exact ih3 _ _ _ _ _ _ _ _ _ _ _ _ _ _ _
   | exact ih4 _ _ _ _ _ _ _ _ _ _ _
   | exact ih5 _
   | exact bch_mul.mono _ _ _
   | exact gf_Inv.mono _ _
   | exact LeO.none _
   | refine LeO.ite ?_ ?_
   | refine LeO.bind ?_ (fun _ => ?_)
theorem bch_locator.mono : ∀ a0 k, LeO (bch_locator.f k a0) (bch_locator.f (k + 1) a0) := by
 intro a0 k
 obtain ⟨ih0, ih1, ih2, ih3, ih4, ih5⟩ := bch_locator.mono_l k
 unfold bch_locator.f
 repeat' first
   | (with_reducible exact ih0 _ _ _ _ _ _ _ _)
   | (with_reducible exact ih1 _ _ _ _ _ _ _ _ _ _)
   | (with_reducible exact ih2 _ _ _ _ _ _ _ _ _ _ _ _)
   | (with_reducible exact ih3 _ _ _ _ _ _ _ _ _ _ _ _ _ _ _)
   | (with_reducible exact ih4 _ _ _ _ _ _ _ _ _ _ _)
   | (with_reducible exact ih5 _)
   | (with_reducible exact bch_mul.mono _ _ _)
   | (with_reducible exact gf_Inv.mono _ _)
   | (with_reducible exact LeO.refl _)
   | (with_reducible exact LeO.none _)
   | (with_reducible refine LeO.ite ?_ ?_)
   | (with_reducible refine LeO.bind ?_ (fun _ => ?_))
   | exact ih0 _ _ _ _ _ _ _ _
   | exact ih1 _ _ _ _ _ _ _ _ _ _
   | exact ih2 _ _ _ _ _ _ _ _ _ _ _ _
   | exact ih3 _ _ _ _ _ _ _ _ _ _ _ _ _ _ _
   | exact ih4 _ _ _ _ _ _ _ _ _ _ _
   | exact ih5 _
   | exact bch_mul.mono _ _ _
   | exact gf_Inv.mono _ _
   | exact LeO.none _
   | refine LeO.ite ?_ ?_
   | refine LeO.bind ?_ (fun _ => ?_)
def bch_locator.T10 : Bool × List (List Nat × List Nat) := (true, [([], []), ([], []), ([], []), ([1, 2], [1, 2]), ([3], [3]), ([], []), ([], []), ([], []), ([6, 7], [6, 7]), ([5, 8], [5, 8]), ([9], [9]), ([4, 10], [4, 10]), ([0, 11], [0, 11]), ([12, 11, 0, 1, 2, 3, 4, 5, 6, 7, 8, 9, 10, 11, 12], [0, 12])])
def bch_locator.B10 : List Nat := [0, 0, 0, 6, 14, 0, 0, 0, 192, 480, 992, 2046, 4095, 8191]
theorem bch_locator.tab10 : rtab .any (opsOf Try.f40 10) = bch_locator.T10 := by kernel_rfl
theorem bch_locator.bits10 : waitsOk bch_locator.T10.2 bch_locator.B10 = true := by kernel_rfl
def bch_locator.T22 : Bool × List (List Nat × List Nat) := (true, [([], []), ([], []), ([], []), ([1, 2], [1, 2]), ([0, 3], [0, 3]), ([4], [4]), ([], []), ([], []), ([6, 7], [6, 7]), ([5, 8], [5, 8]), ([0, 3, 0, 1, 2, 3, 4, 5, 6, 7, 8, 9], [0, 3]), ([10, 9, 8, 0, 1, 2, 3, 4, 5, 6, 7, 8, 9], [9, 10])])
def bch_locator.B22 : List Nat := [0, 0, 0, 6, 15, 31, 0, 0, 192, 511, 1023, 2047]
theorem bch_locator.tab22 : rtab .any (opsOf Try.f40 22) = bch_locator.T22 := by kernel_rfl
theorem bch_locator.bits22 : waitsOk bch_locator.T22.2 bch_locator.B22 = true := by kernel_rfl
set_option maxHeartbeats 8000000 in
set_option maxRecDepth 100000 in
theorem bch_locator.calls (k : Nat) (A0 : Option Addr) (c0 : Nat) (l0 : List Int) (r : List Int) (w : World) (hr0 : Kd.C (Kd.int .i64) w A0 l0.length l0) (hc0 : l0.length ≤ c0) (h : bch_locator.f k l0 = some r) :
  Calls Try.prog 40 #[.slice A0 l0.length c0] w fun e w' => ∃ v0_ : Value, e = .returned (v0_) ∧ Kd.R (Kd.int .i64) 3 w' w.heap.size (fun _ => True) v0_ r ∧ Below w.heap.size w w' := by
 have HR0 := Aside0.mk hr0
 have HC0 := Aside0.mk hc0
 clear hr0 hc0
 have HB := Aside0.mk (Below.refl w.heap.size w)
 have H := h
 unfold bch_locator.f at H
 clear h
 obtain ⟨y154, hy154⟩ : ∃ y_ : List Int, y_ = (([1] : List Int)) := ⟨_, rfl⟩
 replace H : (bch_locator.l0 k l0 y154 (([1] : List Int)) 0 1 1 (l0.length : Int) 0) = some r := by first | (rw [hy154]; with_reducible exact H) | (have H2_ := (Option.bind_some _ _).symm.trans H; rw [hy154]; with_reducible exact H2_) | (have H2_ := (Option.bind_some _ _).symm.trans H; with_reducible exact H2_) | with_reducible exact H | (rw [hy154]; exact H) | exact H
 have Ny154 := Aside0.mk hy154
 clear hy154
 obtain ⟨y157, hy157⟩ : ∃ y_ : List Int, y_ = (([1] : List Int)) := ⟨_, rfl⟩
 replace H : (bch_locator.l0 k l0 y154 y157 0 1 1 (l0.length : Int) 0) = some r := by first | (rw [hy157]; with_reducible exact H) | (have H2_ := (Option.bind_some _ _).symm.trans H; rw [hy157]; with_reducible exact H2_) | (have H2_ := (Option.bind_some _ _).symm.trans H; with_reducible exact H2_) | with_reducible exact H | (rw [hy157]; exact H) | exact H
 have Ny157 := Aside0.mk hy157
 clear hy157
 have H' := Aside0.mk H
 clear H
 go_enter Try.func40, Try.ntmps40
 go_wp2_with (first | ((with_reducible refine gate_dst (N := 17) rfl ?_); (try (refine gate_guard (by rfl) ?_; dsimp only)); refine Kd.R_lit (Kd.int .i64) _ 3 ?hg (N := 17) ?hd (xs := ([1] : List Int)) (inner := [.int .i64 1]) (ok := fun _ => True) (okp := fun _ => True) ?hr ?hp (fun _ hk => hk) trivial (Below.refl _ _) (Nat.le_refl _) (by simp) ?_; (case hd => rfl); (case hg => rfl); (case hr => first | (go_simp; done) | (go_simp; rfl)); (case hp => exact (Reps.one (show Kd.M (Kd.int .i64) _ _ _ 1 [.int .i64 1] from rfl) (Reps.none _ _))); intro v155 w2 ho3 hb hg_ hnew_; clear hg_ hnew_; (first | rw [← Ny154.out] at ho3 | (simp only [Int.reduceToNat] at ho3; rw [← Ny154.out] at ho3)); have HO156 := uA (Kd.R_lower ho3 (below_size (uB HB.out))); replace HB := uBb HB hb; clear hb ho3) | ((with_reducible refine gate_dst (N := 18) rfl ?_); (try (refine gate_guard (by rfl) ?_; dsimp only)); refine Kd.R_lit (Kd.int .i64) _ 3 ?hg (N := 18) ?hd (xs := ([1] : List Int)) (inner := [.int .i64 1]) (ok := fun _ => True) (okp := fun _ => True) ?hr ?hp (fun _ hk => hk) trivial (Below.refl _ _) (Nat.le_refl _) (by simp) ?_; (case hd => rfl); (case hg => rfl); (case hr => first | (go_simp; done) | (go_simp; rfl)); (case hp => exact (Reps.one (show Kd.M (Kd.int .i64) _ _ _ 1 [.int .i64 1] from rfl) (Reps.none _ _))); intro v158 w4 ho5 hb hg_ hnew_; clear hg_ hnew_; (first | rw [← Ny157.out] at ho5 | (simp only [Int.reduceToNat] at ho5; rw [← Ny157.out] at ho5)); have HO159 := uA (Kd.R_lower (Kd.R_new' ho5 (Kd.R_lt (uR HO156.out))) (below_size (uB HB.out))); replace HO156 := uA (Kd.R_elder' (uR HO156.out) (Kd.R_base ho5) hb); replace HB := uBb HB hb; clear hb ho5))
 go_loopg [3, 4, 5, 6, 7, 21] k (fun kq v3 v4 v5 v6 v7 v21 w' => ∃ (x3_1 : List Int) (x4_1 : List Int) (x5_1 : Int) (x6_1 : Int) (x7_1 : Int) (x21_1 : Int), v5 = .int .i64 x5_1 ∧ v6 = .int .i64 x6_1 ∧ v7 = .int .i64 x7_1 ∧ v21 = .int .i64 x21_1 ∧ Aside0 (bch_locator.l0 kq l0 x3_1 x4_1 x5_1 x6_1 x7_1 (l0.length : Int) x21_1 = some r) ∧ Aside0 (kq ≤ k) ∧ Aside0 (Kd.R (Kd.int .i64) 3 w' w.heap.size (fun k_ => some k_ ≠ (v4 : Value).ownBlock) v3 x3_1) ∧ Aside0 (Kd.R (Kd.int .i64) 3 w' w.heap.size (fun k_ => some k_ ≠ (v3 : Value).ownBlock) v4 x4_1) ∧ Aside0 (Below w.heap.size w w'))
 case atStart => exact ⟨(y154), (y157), (0), (1), (1), (0), rfl, rfl, rfl, rfl, H', ⟨Nat.le_refl _⟩, ⟨by (with_reducible repeat (first | apply Kd.R_alloc | apply Kd.R_drewN | apply Kd.R_drew)); exact Kd.R_mono HO156.out (fun _ hk => hk.2)⟩, ⟨by (with_reducible repeat (first | apply Kd.R_alloc | apply Kd.R_drewN | apply Kd.R_drew)); exact Kd.R_mono HO159.out (fun _ hk => hk.2)⟩, ⟨uB HB.out⟩⟩
 case round =>
  clear H'
  obtain ⟨x3_1, x4_1, x5_1, x6_1, x7_1, x21_1, rfl, rfl, rfl, rfl, HA, HK1, HO_3, HO_4, HB⟩ := hrel
  cases gk with
  | zero => exact absurd HA.out (by simp [bch_locator.l0])
  | succ k1 =>
   have H := HA.out
   clear HA
   simp only [bch_locator.l0] at H
   by_cases c6 : x21_1 < (l0.length : Int)
   ·rw [if_pos c6] at H
    have c6b0 : decide (x21_1 < (l0.length : Int)) = true := decide_eq_true c6
    clear c6
    by_cases c7 : 0 ≤ x21_1
    ·rw [if_pos c7] at H
     have c7b0 : decide (0 ≤ x21_1) = true := decide_eq_true c7
     clear c7
     by_cases c8 : x21_1 < (l0.length : Int)
     ·rw [if_pos c8] at H
      have c8b0 : decide (x21_1 < (l0.length : Int)) = true := decide_eq_true c8
      clear c8
      have HC9 := Aside0.mk H
      clear H
      have p160 : 0 ≤ (x21_1 : Int) := of_decide_eq_true (by first | (with_reducible assumption) | assumption)
      have q160 : x21_1 < (l0.length : Int) := of_decide_eq_true (by first | (with_reducible assumption) | assumption)
      obtain ⟨ad160, e160, hx160_0⟩ := Kd.at_int HR0.out x21_1 p160 q160
      cases e160
      replace hx160_0 := (HB.out.cell (World.block_lt_of_cell? w _ hx160_0)).trans hx160_0
      replace p160 := eq_true p160
      replace q160 := eq_true q160
      go_upto_block 2 with (fail)
      go_cut [9] (fun v9 wc => ∃ (kq : Nat) (x9_8 : Int), v9 = .int .i64 x9_8 ∧ Aside0 (bch_locator.j2 kq l0 x3_1 x4_1 x5_1 x6_1 x7_1 x21_1 x9_8 (l0.length : Int) x21_1 = some r) ∧ Aside0 (kq ≤ k1) ∧ Aside0 (Kd.R (Kd.int .i64) 3 wc w.heap.size (fun k_ => some k_ ≠ (u4 : Value).ownBlock) u3 x3_1) ∧ Aside0 (Kd.R (Kd.int .i64) 3 wc w.heap.size (fun k_ => some k_ ≠ (u3 : Value).ownBlock) u4 x4_1) ∧ Aside0 (Below w.heap.size w wc))
      case first =>
       have H := HC9.out
       clear HC9
       have H' := Aside0.mk H
       clear H
       go_wp2
       go_loopg [9, 10] k1 (fun kq v9 v10 w' => ∃ (x9_2 : Int) (x10_2 : Int), v9 = .int .i64 x9_2 ∧ v10 = .int .i64 x10_2 ∧ Aside0 (bch_locator.l1 kq l0 x3_1 x4_1 x5_1 x6_1 x7_1 x21_1 x9_2 x10_2 (l0.length : Int) x21_1 = some r) ∧ Aside0 (kq ≤ k1) ∧ Aside0 (Kd.R (Kd.int .i64) 3 w' w.heap.size (fun k_ => some k_ ≠ (u4 : Value).ownBlock) u3 x3_1) ∧ Aside0 (Kd.R (Kd.int .i64) 3 w' w.heap.size (fun k_ => some k_ ≠ (u3 : Value).ownBlock) u4 x4_1) ∧ Aside0 (Below w.heap.size w w'))
       case atStart => exact ⟨(rd l0 x21_1), (1), rfl, rfl, H', ⟨Nat.le_refl _⟩, ⟨uR HO_3.out⟩, ⟨uR HO_4.out⟩, ⟨uB HB.out⟩⟩
       case round =>
        clear H'
        obtain ⟨x9_2, x10_2, rfl, rfl, HA, HK2, HO_3, HO_4, HB⟩ := hrel
        cases gk with
        | zero => exact absurd HA.out (by simp [bch_locator.l1])
        | succ k2 =>
         have H := HA.out
         clear HA
         simp only [bch_locator.l1] at H
         by_cases c10 : x10_2 ≤ x5_1
         ·rw [if_pos c10] at H
          have c10b0 : decide (x10_2 ≤ x5_1) = true := decide_eq_true c10
          clear c10
          (first | rw [c10b0] | (simp only [i64_w, i32_w]; rw [c10b0]) | skip)
          by_cases c11 : x10_2 < (x3_1.length : Int)
          ·rw [if_pos c11] at H
           have c11b0 : decide (x10_2 < (x3_1.length : Int)) = true := decide_eq_true c11
           clear c11
           by_cases c12 : 0 ≤ x10_2
           ·rw [if_pos c12] at H
            have c12b0 : decide (0 ≤ x10_2) = true := decide_eq_true c12
            clear c12
            obtain ⟨ji13, hji13⟩ : ∃ j_ : Int, (wrap64 (x21_1 - x10_2)) = j_ := ⟨_, rfl⟩
            first | rw [hji13] at H | simp only [hji13] at H
            have hji13w : (IntKind.i64.wrap (x21_1 - x10_2)) = ji13 := (i64_w _).trans hji13
            by_cases c14 : 0 ≤ (ji13)
            ·rw [if_pos c14] at H
             have c14b0 : decide (0 ≤ (ji13)) = true := decide_eq_true c14
             clear c14
             by_cases c15 : (ji13) < (l0.length : Int)
             ·rw [if_pos c15] at H
              have c15b0 : decide ((ji13) < (l0.length : Int)) = true := decide_eq_true c15
              clear c15
              obtain ⟨t163, A16, H⟩ := uO H
              have H' := Aside0.mk H
              clear H
              obtain ⟨Ao17, co17, eo17⟩ := Kd.R_slice HO_3.out
              subst eo17
              try go_wp2
              replace HO_3 := uA (Kd.R_drew HO_3.out); replace HO_4 := uA (Kd.R_drew HO_4.out); replace HB := uA (below_drew1 HB.out)
              have p161 : 0 ≤ (x10_2 : Int) := of_decide_eq_true (by first | (with_reducible assumption) | assumption)
              have q161 : x10_2 < (x3_1.length : Int) := of_decide_eq_true (by first | (with_reducible assumption) | assumption)
              obtain ⟨ad161, e161, hx161_0⟩ := Kd.at_int (Kd.R_reads' HO_3.out).2.2 x10_2 p161 q161
              cases e161
              replace p161 := eq_true p161
              replace q161 := eq_true q161
              have p162 : 0 ≤ ((ji13) : Int) := of_decide_eq_true (by first | (with_reducible assumption) | assumption)
              have q162 : (ji13) < (l0.length : Int) := of_decide_eq_true (by first | (with_reducible assumption) | assumption)
              obtain ⟨ad162, e162, hx162_0⟩ := Kd.at_int HR0.out (ji13) p162 q162
              have hw162_0 := hx162_0
              obtain rfl : ad160 = ad162 := (by injection e162)
              replace hx162_0 := (HB.out.cell (World.block_lt_of_cell? w _ hx162_0)).trans hx162_0
              replace p162 := eq_true p162
              replace q162 := eq_true q162
              refine start_ (n := 14) (S := fun w' => w'.cell? (ad161.add (x10_2).toNat) = some (.int .i64 (rd x3_1 x10_2)) ∧ w'.cell? (ad160.add ((ji13)).toNat) = some (.int .i64 (rd l0 (ji13)))) (ds := []) #[false, false, false, false, false, false, false, false, false, false, false, false, false, false] (by kernel_rfl) rfl rfl ⟨hx161_0, ((HB.out.cell (World.block_lt_of_cell? w _ hw162_0)).trans hw162_0)⟩ (fun hHeld => ?_); refine with_tabW bch_locator.tab10 bch_locator.bits10 (fun HT_ HW_ => ?_)
              generalize wr.drew = w18 at HO_3 HO_4 HB hx161_0 hx162_0 hHeld ⊢
              refine uP HT_ 0 (some 39) (lb 14 1) ?_
              refine uP HT_ 1 (some 40) (lb 14 3) ?_
              refine uP HT_ 2 (some 41) (lb 14 7) ?_
              refine uP HT_ 3 (some 42) (lb 14 15) ?_
              refine uP HT_ 5 (some 44) (lb 14 47) ?_
              refine uP HT_ 6 (some 45) (lb 14 111) ?_
              refine uP HT_ 7 (some 46) (lb 14 239) ?_
              refine uP HT_ 8 (some 47) (lb 14 495) ?_
              refine uP HT_ 9 (some 48) (lb 14 1007) ?_
              refine uT HT_ HW_ 4 (some 43) (lb 14 1023) rfl hHeld ?_ (by rintro w' ⟨s0, s1⟩; go_simp; with_reducible rfl)
              refine uT HT_ HW_ 10 (some 49) (lb 14 2047) rfl hHeld ?_ (by rintro w' ⟨s0, s1⟩; go_simp; with_reducible rfl)
              refine one_ (i := 11) (N := some 50) #[true, true, true, true, true, true, true, true, true, true, true, true, false, false] rfl rfl (one_of HT_.out (by kernel_rfl)) (by decide) (fun K hK => ?_)
              refine goes_ Try.func44 (by kernel_rfl) rfl #[.int .i64 (rd x3_1 x10_2), .int .i64 (rd l0 (ji13))] (by rfl) rfl rfl (by (try simp only [List.map_toArray, List.map_cons, List.map_nil]); first | done | (simp only [hji13]; rfl) | rfl | (simp only [List.length_drop, List.length_take]; rfl)) ?_
              with_reducible refine (bch_mul.calls k2 (rd x3_1 x10_2) (rd l0 (ji13)) t163 _ A16.out).mono ?_
              rintro e w' ⟨rfl, ⟨nd, rfl⟩⟩
              refine ⟨_, rfl, ?_⟩
              refine hK.out _ _ ⟨hHeld.1, ((HB.out.cell (World.block_lt_of_cell? w _ hw162_0)).trans hw162_0)⟩ (fun hHeld => ?_)
              clear hK K
              refine uN (some 50) _ ?_
              refine uP HT_ 12 (some 51) (lb 14 8191) ?_
              refine uP HT_ 13 (some 9) (lb 14 16383) ?_
              refine done_ (done_of HT_.out (by kernel_rfl)) ?_
              try go_wp2
              go_roundg k2
              case measure => have := HK1.out; have := HK2.out; omega
              case rel => exact ⟨(Go.bits .xor .i64 x9_2 t163), (wrap64 (x10_2 + 1)), rfl, rfl, H', ⟨by have := HK1.out; have := HK2.out; omega⟩, ⟨uR HO_3.out⟩, ⟨uR HO_4.out⟩, ⟨uB HB.out⟩⟩
             ·rw [if_neg c15] at H
              injection H
            ·rw [if_neg c14] at H
             injection H
           ·rw [if_neg c12] at H
            injection H
          ·rw [if_neg c11] at H
           have c11b0 : decide (x10_2 < (x3_1.length : Int)) = false := decide_eq_false c11
           clear c11
           have H' := Aside0.mk H
           clear H
           obtain ⟨Ao19, co19, eo19⟩ := Kd.R_slice HO_3.out
           subst eo19
           go_wp2
           go_meet
           case rel => exact ⟨_, (x9_2), rfl, H', ⟨by have := HK1.out; have := HK2.out; omega⟩, ⟨uR HO_3.out⟩, ⟨uR HO_4.out⟩, ⟨uB HB.out⟩⟩
         ·rw [if_neg c10] at H
          have c10b0 : decide (x10_2 ≤ x5_1) = false := decide_eq_false c10
          clear c10
          (first | rw [c10b0] | (simp only [i64_w, i32_w]; rw [c10b0]) | skip)
          have H' := Aside0.mk H
          clear H
          go_wp2
          go_meet
          case rel => exact ⟨_, (x9_2), rfl, H', ⟨by have := HK1.out; have := HK2.out; omega⟩, ⟨uR HO_3.out⟩, ⟨uR HO_4.out⟩, ⟨uB HB.out⟩⟩
      case rest =>
       clear HC9
       obtain ⟨kq, x9_8, rfl, HA, HJ8, HO_3, HO_4, HB⟩ := hcut
       cases kq with
       | zero => exact absurd HA.out (by simp [bch_locator.j2])
       | succ kj8 =>
        have H := HA.out
        clear HA
        simp only [bch_locator.j2] at H
        by_cases c20 : x9_8 = 0
        ·rw [if_pos c20] at H
         have c20b0 : (x9_8 == 0) = true := beq_iff_eq.mpr c20
         have c20b1 : (x9_8 != 0) = false := bne_eq_false_iff_eq.mpr c20
         clear c20
         have H' := Aside0.mk H
         clear H
         go_wp2
         go_roundg kj8
         case measure => have := HK1.out; have := HJ8.out; omega
         case rel => exact ⟨(x3_1), (x4_1), (x5_1), (wrap64 (x6_1 + 1)), (x7_1), (wrap64 (x21_1 + 1)), rfl, rfl, rfl, rfl, H', ⟨by have := HK1.out; have := HJ8.out; omega⟩, ⟨uR HO_3.out⟩, ⟨uR HO_4.out⟩, ⟨uB HB.out⟩⟩
        ·rw [if_neg c20] at H
         have c20b0 : (x9_8 == 0) = false := beq_eq_false_iff_ne.mpr c20
         have c20b1 : (x9_8 != 0) = true := bne_iff_ne.mpr c20
         obtain ⟨⟨t164, t165⟩, A21, H⟩ := uO H
         dsimp only at H
         obtain ⟨t166, A22, H⟩ := uO H
         obtain ⟨t167, A23, H⟩ := uO H
         have H' := Aside0.mk H
         clear H
         go_wp2_with (first | ((with_reducible refine gate_callee (f := 57) rfl ?_); refine uG (some 58) Try.func57 #[.int .i64 x7_1] ?_; (with_reducible refine (gf_Inv.calls kj8 x7_1 t164 t165 _ A21.out).mono ?_); rintro e w' ⟨rfl, ⟨nd, rfl⟩⟩; refine ⟨_, rfl, ?_⟩) | ((with_reducible refine gate_callee (f := 44) rfl ?_); refine uG (some 63) Try.func44 #[.int .i64 x9_8, .int .i64 t164] ?_; (with_reducible refine (bch_mul.calls kj8 x9_8 t164 t166 _ A22.out).mono ?_); rintro e w' ⟨rfl, ⟨nd, rfl⟩⟩; refine ⟨_, rfl, ?_⟩; obtain ⟨Ao24, co24, eo24⟩ := Kd.R_slice HO_3.out; subst eo24) | ((with_reducible refine gate_callee (f := 58) rfl ?_); refine uG (some 65) Try.func58 #[.slice Ao24 x3_1.length co24] ?_; (with_reducible refine (slices_Clone_int_int.calls _ _ x3_1 t167 _ ?side1 ?side2 A23.out).mono ?_); (case side1 => exact uC (Kd.R_reads' HO_3.out).2.2); (case side2 => exact (Kd.R_reads' HO_3.out).2.1); rintro e w25 ⟨v168, rfl, ho0, hb⟩; refine ⟨_, rfl, ?_⟩; have HO169 := uA (Kd.R_lower (Kd.R_new' (Kd.R_new' ho0 (Kd.R_lt (uR HO_3.out))) (Kd.R_lt (uR HO_4.out))) (below_size (uB HB.out))); replace HO_3 := uA (Kd.R_elder' (uR HO_3.out) (Kd.R_base ho0) hb); replace HO_4 := uA (Kd.R_elder' (uR HO_4.out) (Kd.R_base ho0) hb); replace HB := uBb HB hb))
         go_loopg [3] kj8 (fun kq v3 w' => ∃ (x3_3 : List Int), Aside0 (bch_locator.l2 kq l0 x3_3 x4_1 x5_1 x6_1 x7_1 x21_1 x9_8 t166 t167 (l0.length : Int) x21_1 = some r) ∧ Aside0 (kq ≤ kj8) ∧ Aside0 (Kd.R (Kd.int .i64) 3 w' w.heap.size (fun k_ => some k_ ≠ (u4 : Value).ownBlock ∧ some k_ ≠ (v168 : Value).ownBlock) v3 x3_3) ∧ Aside0 (Kd.R (Kd.int .i64) 3 w' w.heap.size (fun k_ => some k_ ≠ (v3 : Value).ownBlock ∧ some k_ ≠ (v168 : Value).ownBlock) u4 x4_1) ∧ Aside0 (Kd.R (Kd.int .i64) 3 w' w.heap.size (fun k_ => some k_ ≠ (v3 : Value).ownBlock ∧ some k_ ≠ (u4 : Value).ownBlock) v168 t167) ∧ Aside0 (Below w.heap.size w w'))
         case atStart => exact ⟨(x3_1), H', ⟨Nat.le_refl _⟩, ⟨uR HO_3.out⟩, ⟨uR HO_4.out⟩, ⟨by (with_reducible repeat (first | apply Kd.R_alloc | apply Kd.R_drewN | apply Kd.R_drew)); exact Kd.R_mono HO169.out (fun _ hk => ⟨hk.1.2, hk.2⟩)⟩, ⟨uB HB.out⟩⟩
         case round =>
          clear H'
          obtain ⟨x3_3, HA, HK3, HO_3, HO_4, HO_14, HB⟩ := hrel
          cases gk with
          | zero => exact absurd HA.out (by simp [bch_locator.l2])
          | succ k3 =>
           have H := HA.out
           clear HA
           simp only [bch_locator.l2] at H
           by_cases c26 : (x3_3.length : Int) < (wrap64 ((x4_1.length : Int) + x6_1))
           ·rw [if_pos c26] at H
            have c26b0 : decide ((x3_3.length : Int) < (wrap64 ((x4_1.length : Int) + x6_1))) = true := decide_eq_true c26
            clear c26
            by_cases c27 : 0 < x3_3.length ∧ x3_3.length < 17592186044416
            ·rw [if_pos c27] at H
             have LMc27 := Aside0.mk c27
             clear c27
             obtain ⟨y170, Ny170⟩ := uEA ((x3_3 ++ [0]) : List Int)
             rw [← Ny170.out] at H
             have H' := Aside0.mk H
             clear H
             obtain ⟨Ao28, co28, eo28⟩ := Kd.R_slice HO_3.out
             subst eo28
             obtain ⟨Ao29, co29, eo29⟩ := Kd.R_slice HO_4.out
             subst eo29
             obtain ⟨adz_, eaz_, hcz_⟩ := cl_cells (Kd.R_reads' HO_3.out).2.2 rfl LMc27.out.1
             subst eaz_
             have hroomz_ := (Kd.R_reads' HO_3.out).2.1
             have HCZ := Aside0.mk hcz_
             clear hcz_
             go_wp2_with (first | ((with_reducible refine gate_builtin (b := .append) (xs := #[.tmp 78, .tmp 79]) rfl ?_); at_builtin; refine cut_append (.tmp 78) (.tmp 79) rfl rfl adz_ x3_3 rfl (fun j u hu => cl_al _ (HCZ.out j u hu)) wr.heap.size 0 rfl ((blk_cell (blk_new wr _) 0).trans rfl) LMc27.out.2 ?_; intro v171 w30 ho hb0; rw [← Ny170.out] at ho; have hE := below_step (below_alloc (Below.refl _ wr) _) hb0; rw [World.size_alloc] at ho; have ho1 := Kd.R_lower ho (Nat.le_succ wr.heap.size); have n0_ := Aside0.mk (Kd.R_elder' (Kd.R_mono HO_4.out (fun _ hk => hk.2)) (own_base (Kd.own_of_R ho1)) hE); have n1_ := Aside0.mk (Kd.R_elder' (Kd.R_mono HO_14.out (fun _ hk => hk.2)) (own_base (Kd.own_of_R ho1)) hE); have n2_ := Aside0.mk (below_step HB.out hE); have n3_ := Aside0.mk (Kd.R_lower (Kd.R_mono (ok' := (fun k_ => some k_ ≠ (.slice Ao29 x4_1.length co29 : Value).ownBlock ∧ some k_ ≠ (v168 : Value).ownBlock)) (Kd.R_bound ho1) (fun k_ hk => ⟨Kd.fresh' (Kd.R_lt HO_4.out) k_ hk.2.1, Kd.fresh' (Kd.R_lt HO_14.out) k_ hk.2.1⟩)) HB.out.size); clear HO_4; clear HO_14; clear HB; clear HO_3; have HO_4 := n0_; have HO_14 := n1_; have HB := n2_; have HO172 := n3_; clear n0_ n1_ n2_ n3_; clear ho ho1 hb0 hE HCZ))
             go_roundg k3
             case measure => have := HK1.out; have := HJ8.out; have := HK3.out; omega
             case rel => exact ⟨(y170), H', ⟨by have := HK1.out; have := HJ8.out; have := HK3.out; omega⟩, ⟨uR HO172.out⟩, ⟨by (with_reducible repeat (first | apply Kd.R_alloc | apply Kd.R_drewN | apply Kd.R_drew)); exact Kd.R_mono HO_4.out (fun _ hk => ⟨hk.2, hk.1⟩)⟩, ⟨by (with_reducible repeat (first | apply Kd.R_alloc | apply Kd.R_drewN | apply Kd.R_drew)); exact Kd.R_mono HO_14.out (fun _ hk => ⟨hk.2, hk.1⟩)⟩, ⟨uB HB.out⟩⟩
            ·rw [if_neg c27] at H
             injection H
           ·rw [if_neg c26] at H
            have c26b0 : decide ((x3_3.length : Int) < (wrap64 ((x4_1.length : Int) + x6_1))) = false := decide_eq_false c26
            clear c26
            obtain ⟨t173, A31, H⟩ := uO H
            have H' := Aside0.mk H
            clear H
            obtain ⟨Ao32, co32, eo32⟩ := Kd.R_slice HO_3.out
            subst eo32
            obtain ⟨Ao33, co33, eo33⟩ := Kd.R_slice HO_4.out
            subst eo33
            go_wp2_with (first | ((with_reducible refine gate_callee (f := 58) rfl ?_); refine uG (some 82) Try.func58 #[.slice Ao32 x3_3.length co32] ?_; (with_reducible refine (slices_Clone_int_int.calls _ _ x3_3 t173 _ ?side1 ?side2 A31.out).mono ?_); (case side1 => exact uC (Kd.R_reads' HO_3.out).2.2); (case side2 => exact (Kd.R_reads' HO_3.out).2.1); rintro e w34 ⟨v174, rfl, ho0, hb⟩; refine ⟨_, rfl, ?_⟩; have HO175 := uA (Kd.R_lower (Kd.R_new' (Kd.R_new' (Kd.R_new' ho0 (Kd.R_lt (uR HO_3.out))) (Kd.R_lt (uR HO_4.out))) (Kd.R_lt (uR HO_14.out))) (below_size (uB HB.out))); replace HO_3 := uA (Kd.R_elder' (uR HO_3.out) (Kd.R_base ho0) hb); replace HO_4 := uA (Kd.R_elder' (uR HO_4.out) (Kd.R_base ho0) hb); replace HO_14 := uA (Kd.R_elder' (uR HO_14.out) (Kd.R_base ho0) hb); replace HB := uBb HB hb))
            go_loopg [85] k3 (fun kq v85 w' => ∃ (x3_4 : List Int) (x85_4 : Int), v85 = .int .i64 x85_4 ∧ Aside0 (bch_locator.l3 kq l0 x3_4 x4_1 x5_1 x6_1 x7_1 x21_1 x9_8 t166 t167 (l0.length : Int) x21_1 x4_1 (x4_1.length : Int) x85_4 = some r) ∧ Aside0 (kq ≤ k3) ∧ Aside0 (Kd.R (Kd.int .i64) 3 w' w.heap.size (fun k_ => some k_ ≠ ((.slice Ao33 x4_1.length co33) : Value).ownBlock ∧ some k_ ≠ (v168 : Value).ownBlock ∧ some k_ ≠ ((.slice Ao33 x4_1.length co33) : Value).ownBlock) v174 x3_4) ∧ Aside0 (Kd.R (Kd.int .i64) 3 w' w.heap.size (fun k_ => some k_ ≠ (v174 : Value).ownBlock ∧ some k_ ≠ (v168 : Value).ownBlock) (.slice Ao33 x4_1.length co33) x4_1) ∧ Aside0 (Kd.R (Kd.int .i64) 3 w' w.heap.size (fun k_ => some k_ ≠ (v174 : Value).ownBlock ∧ some k_ ≠ ((.slice Ao33 x4_1.length co33) : Value).ownBlock ∧ some k_ ≠ ((.slice Ao33 x4_1.length co33) : Value).ownBlock) v168 t167) ∧ Aside0 (Kd.R (Kd.int .i64) 3 w' w.heap.size (fun k_ => some k_ ≠ (v174 : Value).ownBlock ∧ some k_ ≠ (v168 : Value).ownBlock) (.slice Ao33 x4_1.length co33) x4_1) ∧ Aside0 (Below w.heap.size w w'))
            case atStart => exact ⟨(t173), (0), rfl, H', ⟨Nat.le_refl _⟩, ⟨by (with_reducible repeat (first | apply Kd.R_alloc | apply Kd.R_drewN | apply Kd.R_drew)); exact Kd.R_mono HO175.out (fun _ hk => ⟨hk.1.2, ⟨hk.2, hk.1.2⟩⟩)⟩, ⟨by (with_reducible repeat (first | apply Kd.R_alloc | apply Kd.R_drewN | apply Kd.R_drew)); exact Kd.R_mono HO_4.out (fun _ hk => ⟨hk.2, hk.1.2⟩)⟩, ⟨by (with_reducible repeat (first | apply Kd.R_alloc | apply Kd.R_drewN | apply Kd.R_drew)); exact Kd.R_mono HO_14.out (fun _ hk => ⟨hk.2, ⟨hk.1.2, hk.1.2⟩⟩)⟩, ⟨by (with_reducible repeat (first | apply Kd.R_alloc | apply Kd.R_drewN | apply Kd.R_drew)); exact Kd.R_mono HO_4.out (fun _ hk => ⟨hk.2, hk.1.2⟩)⟩, ⟨uB HB.out⟩⟩
            case round =>
             clear H'
             obtain ⟨x3_4, x85_4, rfl, HA, HK4, HO_3, HO_4, HO_14, HO_83, HB⟩ := hrel
             cases gk with
             | zero => exact absurd HA.out (by simp [bch_locator.l3])
             | succ k4 =>
              have H := HA.out
              clear HA
              simp only [bch_locator.l3] at H
              by_cases c35 : x85_4 < (x4_1.length : Int)
              ·rw [if_pos c35] at H
               have c35b0 : decide (x85_4 < (x4_1.length : Int)) = true := decide_eq_true c35
               clear c35
               by_cases c36 : 0 ≤ x85_4
               ·rw [if_pos c36] at H
                have c36b0 : decide (0 ≤ x85_4) = true := decide_eq_true c36
                clear c36
                by_cases c37 : x85_4 < (x4_1.length : Int)
                ·rw [if_pos c37] at H
                 have c37b0 : decide (x85_4 < (x4_1.length : Int)) = true := decide_eq_true c37
                 clear c37
                 obtain ⟨ji38, hji38⟩ : ∃ j_ : Int, (wrap64 (x85_4 + x6_1)) = j_ := ⟨_, rfl⟩
                 first | rw [hji38] at H | simp only [hji38] at H
                 have hji38w : (IntKind.i64.wrap (x85_4 + x6_1)) = ji38 := (i64_w _).trans hji38
                 by_cases c39 : 0 ≤ (ji38)
                 ·rw [if_pos c39] at H
                  have c39b0 : decide (0 ≤ (ji38)) = true := decide_eq_true c39
                  clear c39
                  by_cases c40 : (ji38) < (x3_4.length : Int)
                  ·rw [if_pos c40] at H
                   have c40b0 : decide ((ji38) < (x3_4.length : Int)) = true := decide_eq_true c40
                   clear c40
                   obtain ⟨t178, A41, H⟩ := uO H
                   obtain ⟨y179, Ny179⟩ := uEA ((x3_4.set ((ji38) : Int).toNat (Go.bits .xor .i64 (rd x3_4 (ji38)) t178)) : List Int)
                   rw [← Ny179.out] at H
                   have H' := Aside0.mk H
                   clear H
                   have p176 : 0 ≤ (x85_4 : Int) := of_decide_eq_true (by first | (with_reducible assumption) | assumption)
                   have q176 : x85_4 < (x4_1.length : Int) := of_decide_eq_true (by first | (with_reducible assumption) | assumption)
                   obtain ⟨ad176, e176, hx176_0⟩ := Kd.at_int (Kd.R_reads' HO_83.out).2.2 x85_4 p176 q176
                   cases e176
                   replace p176 := eq_true p176
                   replace q176 := eq_true q176
                   try go_wp2
                   replace HO_3 := uA (Kd.R_drew HO_3.out); replace HO_4 := uA (Kd.R_drew HO_4.out); replace HO_14 := uA (Kd.R_drew HO_14.out); replace HO_83 := uA (Kd.R_drew HO_83.out); replace HB := uA (below_drew1 HB.out)
                   obtain ⟨Ao44, co44, eo44⟩ := Kd.R_slice HO_3.out
                   (first | subst eo44 | (injection eo44 with f1_ f2_ f3_; have f4_ := f1_.symm; have f5_ := f3_.symm; clear f1_ f2_ f3_; subst f4_; subst f5_))
                   have p177 : 0 ≤ ((ji38) : Int) := of_decide_eq_true (by first | (with_reducible assumption) | assumption)
                   have q177 : (ji38) < (x3_4.length : Int) := of_decide_eq_true (by first | (with_reducible assumption) | assumption)
                   obtain ⟨ad177, e177, hx177_0⟩ := Kd.at_int (Kd.R_reads' HO_3.out).2.2 (ji38) p177 q177
                   cases e177
                   replace p177 := eq_true p177
                   replace q177 := eq_true q177
                   refine start_ (n := 12) (S := fun w' => w'.cell? (ad177.add ((ji38)).toNat) = some (.int .i64 (rd x3_4 (ji38)))) (ds := [11]) #[false, false, false, false, false, false, false, false, false, false, false, false] (by kernel_rfl) rfl rfl (hx177_0) (fun hHeld => ?_); refine with_tabW bch_locator.tab22 bch_locator.bits22 (fun HT_ HW_ => ?_)
                   generalize wr.drew = w43 at HO_3 HO_4 HO_14 HO_83 HB hx177_0 hHeld ⊢
                   refine uP HT_ 0 (some 90) (lb 12 1) ?_
                   refine uP HT_ 1 (some 91) (lb 12 3) ?_
                   refine uP HT_ 2 (some 92) (lb 12 7) ?_
                   refine uP HT_ 3 (some 93) (lb 12 15) ?_
                   refine uP HT_ 4 (some 94) (lb 12 31) ?_
                   refine uP HT_ 6 (some 96) (lb 12 95) ?_
                   refine uP HT_ 7 (some 97) (lb 12 223) ?_
                   refine take_ (i := 5) (N := some 95) (v := ?_) (a' := ?_) #[true, true, true, true, true, true, true, true, false, false, false, false] rfl rfl (take_ofW HT_.out HW_.out (by kernel_rfl)) (fun _ _ _ h => h) (Or.inl ⟨by rfl, ?_⟩) hHeld ?_ ?_
                   rotate_left; (intro w' s0; go_simp; with_reducible rfl)
                   rotate_left; (simp only [Act.put, List.setIfInBounds_toArray, List.set_cons_zero, List.set_cons_succ, i64_w, i32_w]; rfl)
                   refine one_ (i := 8) (N := some 98) #[true, true, true, true, true, true, true, true, true, false, false, false] rfl rfl (one_of HT_.out (by kernel_rfl)) (by decide) (fun K hK => ?_)
                   refine goes_ Try.func44 (by kernel_rfl) rfl #[.int .i64 t166, .int .i64 (rd x4_1 x85_4)] (by rfl) rfl rfl (by (try simp only [List.map_toArray, List.map_cons, List.map_nil]); first | done | rfl | (simp only [List.length_drop, List.length_take]; rfl)) ?_
                   with_reducible refine (bch_mul.calls k4 t166 (rd x4_1 x85_4) t178 _ A41.out).mono ?_
                   rintro e w' ⟨rfl, ⟨nd, rfl⟩⟩
                   refine ⟨_, rfl, ?_⟩
                   have p42 : 0 ≤ ((ji38) : Int) := of_decide_eq_true (by first | (with_reducible assumption) | assumption)
                   have q42 : ((ji38) : Int) < ((x3_4.length : Int) : Int) := of_decide_eq_true (by first | (with_reducible assumption) | assumption)
                   obtain ⟨go42, co42, eo42, gb42, gl42, cl42, HG42⟩ := Kd.R_form HO_3.out (by omega)
                   (first | cases eo42 | (injection eo42 with ea_ en_ ec_; (first | subst ea_ | (injection ea_ with ea_; subst ea_)); subst ec_; clear en_))
                   have GB42 := Aside0.mk gb42
                   have GG42 := Aside0.mk HG42
                   clear gb42 gl42 HG42
                   (first | simp only [add_plain] at hx177_0 | skip)
                   obtain ⟨hx42_0, hf42_0⟩ := Kd.R_celln 0 HO_3.out ((ji38) : Int) p42 q42
                   replace p42 := eq_true p42
                   replace q42 := eq_true q42
                   have HP45 := Kd.R_putn HO_3.out ((ji38) : Int) (Go.bits .xor .i64 (rd x3_4 (ji38)) t178)
                   rw [← Ny179.out] at HP45
                   have HQ45 := Aside0.mk HP45
                   clear HP45
                   refine hK.out _ _ (hHeld) (fun hHeld => ?_)
                   clear hK K
                   refine uN (some 98) _ ?_
                   refine uP HT_ 9 (some 99) (lb 12 1023) ?_
                   refine uP HT_ 10 (some 100) (lb 12 2047) ?_
                   refine last_ (i := 11) (N := none) #[true, true, true, true, true, true, true, true, true, true, true, true] rfl rfl (one_of HT_.out (by kernel_rfl)) (by decide) (fun K hK => ?_)
                   refine skip_ (w1 := ?_) (by rfl) rfl ?_ ?_
                   rotate_left
                   ·go_simp
                    rfl
                   refine hK.out _ _ ?_
                   clear hK K
                   refine done_ (done_of HT_.out (by kernel_rfl)) ?_
                   try go_wp2
                   go_roundg k4
                   case measure => have := HK1.out; have := HJ8.out; have := HK3.out; have := HK4.out; omega
                   case rel => exact ⟨(y179), (wrap64 (x85_4 + 1)), (by first | rfl | (simp; done) | (simp [*]; done)), H', ⟨by have := HK1.out; have := HJ8.out; have := HK3.out; have := HK4.out; omega⟩, ⟨by (with_reducible repeat (first | apply Kd.R_alloc | apply Kd.R_drewN | apply Kd.R_drew)); exact HQ45.out⟩, ⟨by (with_reducible repeat (first | apply Kd.R_alloc | apply Kd.R_drewN | apply Kd.R_drew)); exact Kd.R_mono (Kd.R_far (p := ⟨go42, ((ji38) : Int).toNat, none⟩) (Kd.R_mono HO_4.out (fun k_ hk => (⟨hk, fun e_ => hk.1 (by rw [e_]; rfl)⟩ : _ ∧ k_ ≠ go42))) (fun _ hk => hk.2) (.int .i64 (Go.bits .xor .i64 (rd x3_4 (ji38)) t178))) (fun _ hk => ⟨hk.1.1, hk.1.2⟩)⟩, ⟨by (with_reducible repeat (first | apply Kd.R_alloc | apply Kd.R_drewN | apply Kd.R_drew)); exact Kd.R_mono (Kd.R_far (p := ⟨go42, ((ji38) : Int).toNat, none⟩) (Kd.R_mono HO_14.out (fun k_ hk => (⟨hk, fun e_ => hk.1 (by rw [e_]; rfl)⟩ : _ ∧ k_ ≠ go42))) (fun _ hk => hk.2) (.int .i64 (Go.bits .xor .i64 (rd x3_4 (ji38)) t178))) (fun _ hk => ⟨hk.1.1, ⟨hk.1.2.1, hk.1.2.2⟩⟩)⟩, ⟨by (with_reducible repeat (first | apply Kd.R_alloc | apply Kd.R_drewN | apply Kd.R_drew)); exact Kd.R_mono (Kd.R_far (p := ⟨go42, ((ji38) : Int).toNat, none⟩) (Kd.R_mono HO_83.out (fun k_ hk => (⟨hk, fun e_ => hk.1 (by rw [e_]; rfl)⟩ : _ ∧ k_ ≠ go42))) (fun _ hk => hk.2) (.int .i64 (Go.bits .xor .i64 (rd x3_4 (ji38)) t178))) (fun _ hk => ⟨hk.1.1, hk.1.2⟩)⟩, ⟨by repeat (first | (with_reducible first | exact HB.out | apply below_alloc | apply pw_below_drewN | apply below_drew1 | refine below_set ?_ GB42.out) | exact HB.out)⟩⟩
                  ·rw [if_neg c40] at H
                   injection H
                 ·rw [if_neg c39] at H
                  injection H
                ·rw [if_neg c37] at H
                 injection H
               ·rw [if_neg c36] at H
                injection H
              ·rw [if_neg c35] at H
               have c35b0 : decide (x85_4 < (x4_1.length : Int)) = false := decide_eq_false c35
               clear c35
               by_cases c46 : (wrap64 (2 * x5_1)) ≤ x21_1
               ·rw [if_pos c46] at H
                have c46b0 : decide ((wrap64 (2 * x5_1)) ≤ x21_1) = true := decide_eq_true c46
                clear c46
                have H' := Aside0.mk H
                clear H
                go_wp2
                go_roundg k4
                case measure => have := HK1.out; have := HJ8.out; have := HK3.out; have := HK4.out; omega
                case rel => exact ⟨(x3_4), (t167), (wrap64 ((wrap64 (x21_1 + 1)) - x5_1)), (1), (x9_8), (wrap64 (x21_1 + 1)), rfl, rfl, rfl, rfl, H', ⟨by have := HK1.out; have := HJ8.out; have := HK3.out; have := HK4.out; omega⟩, ⟨by (with_reducible repeat (first | apply Kd.R_alloc | apply Kd.R_drewN | apply Kd.R_drew)); exact Kd.R_mono HO_3.out (fun _ hk => hk.2.1)⟩, ⟨by (with_reducible repeat (first | apply Kd.R_alloc | apply Kd.R_drewN | apply Kd.R_drew)); exact Kd.R_mono HO_14.out (fun _ hk => hk.1)⟩, ⟨uB HB.out⟩⟩
               ·rw [if_neg c46] at H
                have c46b0 : decide ((wrap64 (2 * x5_1)) ≤ x21_1) = false := decide_eq_false c46
                clear c46
                have H' := Aside0.mk H
                clear H
                go_wp2
                go_roundg k4
                case measure => have := HK1.out; have := HJ8.out; have := HK3.out; have := HK4.out; omega
                case rel => exact ⟨(x3_4), (x4_1), (x5_1), (wrap64 (x6_1 + 1)), (x7_1), (wrap64 (x21_1 + 1)), rfl, rfl, rfl, rfl, H', ⟨by have := HK1.out; have := HJ8.out; have := HK3.out; have := HK4.out; omega⟩, ⟨by (with_reducible repeat (first | apply Kd.R_alloc | apply Kd.R_drewN | apply Kd.R_drew)); exact Kd.R_mono HO_3.out (fun _ hk => hk.1)⟩, ⟨by (with_reducible repeat (first | apply Kd.R_alloc | apply Kd.R_drewN | apply Kd.R_drew)); exact Kd.R_mono HO_4.out (fun _ hk => hk.1)⟩, ⟨uB HB.out⟩⟩
     ·rw [if_neg c8] at H
      injection H
    ·rw [if_neg c7] at H
     injection H
   ·rw [if_neg c6] at H
    have c6b0 : decide (x21_1 < (l0.length : Int)) = false := decide_eq_false c6
    clear c6
    have H' := Aside0.mk H
    clear H
    go_wp2
    go_loopg [3] k1 (fun kq v3 w' => ∃ (x3_2 : List Int), Aside0 (bch_locator.l4 kq x3_2 = some r) ∧ Aside0 (kq ≤ k1) ∧ Aside0 (Kd.R (Kd.int .i64) 3 w' w.heap.size (fun _ => True) v3 x3_2) ∧ Aside0 (Below w.heap.size w w'))
    case atStart => exact ⟨(x3_1), H', ⟨Nat.le_refl _⟩, ⟨by (with_reducible repeat (first | apply Kd.R_alloc | apply Kd.R_drewN | apply Kd.R_drew)); exact Kd.R_mono HO_3.out (fun _ hk => trivial)⟩, ⟨uB HB.out⟩⟩
    case round =>
     clear H'
     obtain ⟨x3_2, HA, HK2, HO_3, HB⟩ := hrel
     cases gk with
     | zero => exact absurd HA.out (by simp [bch_locator.l4])
     | succ k2 =>
      have H := HA.out
      clear HA
      simp only [bch_locator.l4] at H
      by_cases c47 : (x3_2.length : Int) > 0
      ·rw [if_pos c47] at H
       have c47b0 : decide (0 < (x3_2.length : Int)) = true := decide_eq_true c47
       have c47b1 : decide (0 < x3_2.length) = true := decide_eq_true (by omega)
       clear c47
       obtain ⟨ji48, hji48⟩ : ∃ j_ : Int, (wrap64 ((x3_2.length : Int) - 1)) = j_ := ⟨_, rfl⟩
       first | rw [hji48] at H | simp only [hji48] at H
       have hji48w : (IntKind.i64.wrap ((x3_2.length : Int) - 1)) = ji48 := (i64_w _).trans hji48
       by_cases c49 : 0 ≤ (ji48)
       ·rw [if_pos c49] at H
        have c49b0 : decide (0 ≤ (ji48)) = true := decide_eq_true c49
        clear c49
        by_cases c50 : (ji48) < (x3_2.length : Int)
        ·rw [if_pos c50] at H
         have c50b0 : decide ((ji48) < (x3_2.length : Int)) = true := decide_eq_true c50
         clear c50
         by_cases c51 : (rd x3_2 (ji48)) = 0
         ·rw [if_pos c51] at H
          have c51b0 : ((rd x3_2 (ji48)) == 0) = true := beq_iff_eq.mpr c51
          have c51b1 : ((rd x3_2 (ji48)) != 0) = false := bne_eq_false_iff_eq.mpr c51
          clear c51
          by_cases c52 : (ji48) ≤ (x3_2.length : Int)
          ·rw [if_pos c52] at H
           have c52b0 := eq_true c52
           have c52b1 : decide ((ji48) ≤ (x3_2.length : Int)) = true := decide_eq_true c52
           clear c52
           obtain ⟨y181, Ny181⟩ := uEA ((x3_2.take ((ji48) : Int).toNat) : List Int)
           rw [← Ny181.out] at H
           have H' := Aside0.mk H
           clear H
           obtain ⟨Ao53, co53, eo53⟩ := Kd.R_slice HO_3.out
           subst eo53
           have p180 : 0 ≤ ((ji48) : Int) := of_decide_eq_true (by first | (with_reducible assumption) | assumption)
           have q180 : (ji48) < (x3_2.length : Int) := of_decide_eq_true (by first | (with_reducible assumption) | assumption)
           obtain ⟨ad180, e180, hx180_0⟩ := Kd.at_int (Kd.R_reads' HO_3.out).2.2 (ji48) p180 q180
           cases e180
           replace p180 := eq_true p180
           replace q180 := eq_true q180
           have q54 : ((ji48) : Int) ≤ ((x3_2.length : Int) : Int) := of_decide_eq_true (by first | (with_reducible assumption) | assumption)
           obtain ⟨i054, hi054, _, hsz54, _⟩ := info_parts info3
           have hcut54 := cut_to (P := Try.prog) 48 3 .i64 Try.underlying48 hi054 (some ad180) x3_2.length co53 (ji48) (of_decide_eq_true (by first | (with_reducible assumption) | assumption)) q54 (Kd.R_reads' HO_3.out).2.1
           have hr54 := Kd.R_take (m := ((ji48) : Int).toNat) HO_3.out (by omega)
           have hy54 : y181.length = ((ji48) : Int).toNat := (by rw [Ny181.out, List.length_take]; omega)
           rw [← Ny181.out] at hr54
           rw [← hy54] at hr54 hcut54
           clear hy54 hi054 hsz54 HO_3
           have HO183 := Aside0.mk hr54
           clear hr54
           replace q54 := eq_true q54
           go_wp2
           go_roundg k2
           case measure => have := HK1.out; have := HK2.out; omega
           case rel => exact ⟨(y181), H', ⟨by have := HK1.out; have := HK2.out; omega⟩, ⟨uR HO183.out⟩, ⟨uB HB.out⟩⟩
          ·rw [if_neg c52] at H
           injection H
         ·rw [if_neg c51] at H
          have c51b0 : ((rd x3_2 (ji48)) == 0) = false := beq_eq_false_iff_ne.mpr c51
          have c51b1 : ((rd x3_2 (ji48)) != 0) = true := bne_iff_ne.mpr c51
          obtain rfl := Option.some.inj H
          obtain ⟨Ao55, co55, eo55⟩ := Kd.R_slice HO_3.out
          subst eo55
          have p180 : 0 ≤ ((ji48) : Int) := of_decide_eq_true (by first | (with_reducible assumption) | assumption)
          have q180 : (ji48) < (x3_2.length : Int) := of_decide_eq_true (by first | (with_reducible assumption) | assumption)
          obtain ⟨ad180, e180, hx180_0⟩ := Kd.at_int (Kd.R_reads' HO_3.out).2.2 (ji48) p180 q180
          cases e180
          replace p180 := eq_true p180
          replace q180 := eq_true q180
          go_wp2
          go_ret
          exact ⟨_, by first | rfl | (simp [errW_none, errW_some] <;> rfl) | (simp only [← hji48]; first | rfl | (simp [errW_none, errW_some] <;> rfl)) | (simp [*, errW_none, errW_some] <;> rfl), by (with_reducible repeat (first | apply Kd.R_alloc | apply Kd.R_drewN | apply Kd.R_drew)); exact HO_3.out, uB HB.out⟩
        ·rw [if_neg c50] at H
         injection H
       ·rw [if_neg c49] at H
        injection H
      ·rw [if_neg c47] at H
       have c47b0 : decide (0 < (x3_2.length : Int)) = false := decide_eq_false c47
       have c47b1 : decide (0 < x3_2.length) = false := decide_eq_false (by omega)
       clear c47
       obtain rfl := Option.some.inj H
       obtain ⟨Ao56, co56, eo56⟩ := Kd.R_slice HO_3.out
       subst eo56
       go_wp2
       go_ret
       exact ⟨_, by first | rfl | (simp [errW_none, errW_some] <;> rfl) | (simp [*, errW_none, errW_some] <;> rfl), by (with_reducible repeat (first | apply Kd.R_alloc | apply Kd.R_drewN | apply Kd.R_drew)); exact HO_3.out, uB HB.out⟩
def flip1 (l : List Int) (k : Int) : Option (List Int) := if 0 ≤ wrap64 (Int.tdiv k 8) then (if wrap64 (Int.tdiv k 8) < (l.length : Int) then (if 0 ≤ Int.tmod k 8 then some (l.set (wrap64 (Int.tdiv k 8)).toNat (Go.bits .xor .u8 (rd l (wrap64 (Int.tdiv k 8))) (shl .u8 1 (Int.tmod k 8)))) else none) else none) else none
def flipL (t : Int) (d m : List Int) (i : Int) : Option (List Int × List Int) := if wrap64 (i - wrap64 (13 * t)) ≥ 0 then ((flip1 d (wrap64 (i - wrap64 (13 * t)))).bind fun d' => some (d', m)) else ((flip1 m i).bind fun m' => some (d, m'))
theorem flip1_is {l l' : List Int} {k : Int} (h : flip1 l k = some l') : 0 ≤ wrap64 (Int.tdiv k 8) ∧ wrap64 (Int.tdiv k 8) < (l.length : Int) ∧ 0 ≤ Int.tmod k 8 ∧ l' = l.set (wrap64 (Int.tdiv k 8)).toNat (Go.bits .xor .u8 (rd l (wrap64 (Int.tdiv k 8))) (shl .u8 1 (Int.tmod k 8))) := by
 unfold flip1 at h
 by_cases h0 : 0 ≤ wrap64 (Int.tdiv k 8)
 ·rw [if_pos h0] at h
  by_cases h1 : wrap64 (Int.tdiv k 8) < (l.length : Int)
  ·rw [if_pos h1] at h
   by_cases h2 : 0 ≤ Int.tmod k 8
   ·rw [if_pos h2] at h
    exact ⟨h0, h1, h2, (Option.some.inj h).symm⟩
   ·rw [if_neg h2] at h; exact absurd h (by simp)
  ·rw [if_neg h1] at h; exact absurd h (by simp)
 ·rw [if_neg h0] at h; exact absurd h (by simp)
set_option maxHeartbeats 2000000 in
set_option maxRecDepth 100000 in
theorem flip_keeps (W : World) (base g : Nat) (t : Int) (d m : List Int) (gd cd gm cm : Nat) (i : Int) (d' m' : List Int) (hW : WSt W base g t d m gd cd gm cm) (h : flipL t d m i = some (d', m')) :
  Calls Try.prog 45 #[.pointer (some ⟨g, 0, none⟩), .int .i64 i] W fun e w' => e = .returned (.tuple #[]) ∧ WSt w' base g t d' m' gd cd gm cm ∧ Below base W w' ∧ (∀ k, k < W.heap.size → k ≠ gd → k ≠ gm → w'.heap[k]? = W.heap[k]?) := by
 unfold flipL at h
 have HW := Aside0.mk hW
 clear hW
 have hc0 : W.cell? ⟨g, 0, none⟩ = some (.int .i64 t) := (blk_cell HW.out.blk 0).trans rfl
 by_cases c0 : wrap64 (i - wrap64 (13 * t)) ≥ 0
 ·rw [if_pos c0] at h
  obtain ⟨q, hq, h⟩ := Option.bind_eq_some_iff.1 h
  obtain ⟨h0, h1, h2, rfl⟩ := flip1_is hq
  simp only [Option.some.injEq, Prod.mk.injEq] at h
  obtain ⟨rfl, rfl⟩ := h
  have c0b : decide (0 ≤ wrap64 (i - wrap64 (13 * t))) = true := decide_eq_true c0
  have hc1 : W.cell? ⟨g, 1, none⟩ = some (.slice (some ⟨gd, 0, none⟩) d.length cd) := (blk_cell HW.out.blk 1).trans rfl
  clear hq c0
  obtain ⟨kk, hkk⟩ : ∃ kk, wrap64 (i - wrap64 (13 * t)) = kk := ⟨_, rfl⟩
  simp only [hkk] at h0 h1 h2 c0b
  simp only [hkk]
  obtain ⟨ji, hji⟩ : ∃ ji, wrap64 (Int.tdiv kk 8) = ji := ⟨_, rfl⟩
  have hjiw : IntKind.i64.wrap (Int.tdiv kk 8) = ji := (i64_w _).trans hji
  simp only [hji] at h0 h1
  simp only [hji]
  obtain ⟨hx, hf⟩ := HW.out.atd ji h0 h1
  have H2 := Aside0.mk h2
  obtain ⟨v, hv⟩ : ∃ v, rd d ji = v := ⟨_, rfl⟩
  rw [hv] at hx
  rw [hv]
  clear hv
  go_enter Try.func45, Try.ntmps45
  go_wp2_with fail
  go_region
  go_wp2
  go_end0
  refine ⟨rfl, ?_, ?_, ?_⟩
  ·rw [shl1_u8]
   exact (HW.out.setd ji _).move (fun _ _ => rfl)
  ·exact below_drew1 ((Below.refl _ W).setCell (p := ⟨gd, ji.toNat, none⟩) HW.out.ged _)
  ·exact fun k _ h1 _ => Below.heap_setCell W ⟨gd, ji.toNat, none⟩ _ k h1
 ·rw [if_neg c0] at h
  obtain ⟨q, hq, h⟩ := Option.bind_eq_some_iff.1 h
  obtain ⟨h0, h1, h2, rfl⟩ := flip1_is hq
  simp only [Option.some.injEq, Prod.mk.injEq] at h
  obtain ⟨rfl, rfl⟩ := h
  have c0b : decide (0 ≤ wrap64 (i - wrap64 (13 * t))) = false := decide_eq_false c0
  have hc1 : W.cell? ⟨g, 2, none⟩ = some (.slice (some ⟨gm, 0, none⟩) m.length cm) := (blk_cell HW.out.blk 2).trans rfl
  clear hq c0
  obtain ⟨ji, hji⟩ : ∃ ji, wrap64 (Int.tdiv i 8) = ji := ⟨_, rfl⟩
  have hjiw : IntKind.i64.wrap (Int.tdiv i 8) = ji := (i64_w _).trans hji
  simp only [hji] at h0 h1
  simp only [hji]
  obtain ⟨hx, hf⟩ := HW.out.atm ji h0 h1
  have H2 := Aside0.mk h2
  obtain ⟨v, hv⟩ : ∃ v, rd m ji = v := ⟨_, rfl⟩
  rw [hv] at hx
  rw [hv]
  clear hv
  go_enter Try.func45, Try.ntmps45
  go_wp2_with fail
  go_region
  go_wp2
  go_end0
  refine ⟨rfl, ?_, ?_, ?_⟩
  ·rw [shl1_u8]
   exact (HW.out.setm ji _).move (fun _ _ => rfl)
  ·exact below_drew1 ((Below.refl _ W).setCell (p := ⟨gm, ji.toNat, none⟩) HW.out.gem _)
  ·exact fun k _ _ h1 => Below.heap_setCell W ⟨gm, ji.toNat, none⟩ _ k h1
def bch_nought.l0 : Nat → List Int → List Int → Int → Int → Option (List Int)
 | 0, _, _, _, _ => none
 | k + 1, x3, x9, x10, x11 => if x11 < x10 then (if 0 ≤ x11 then (if x11 < (x9.length : Int) then (if (rd x9 x11) = 0 then (bch_nought.l0 k x3 x9 x10 (wrap64 (x11 + 1))) else (if x11 < (x3.length : Int) then (bch_nought.l0 k (x3.set (x11 : Int).toNat 1) x9 x10 (wrap64 (x11 + 1))) else (none))) else (none)) else (none)) else (some x3)
def bch_nought.f (k : Nat) (l0 : List Int) : Option (List Int) := if 0 ≤ (l0.length : Int) then (if ((l0.length : Int) : Int).toNat ≤ 281474976710656 then (bch_nought.l0 k (List.replicate ((l0.length : Int) : Int).toNat 0) l0 (l0.length : Int) 0) else (none)) else (none)
theorem bch_nought.mono_l : ∀ k, (∀ y0 y1 y2 y3, LeO (bch_nought.l0 k y0 y1 y2 y3) (bch_nought.l0 (k + 1) y0 y1 y2 y3))
 | 0 => fun _ _ _ _ r h => by simp [bch_nought.l0] at h
 | k + 1 => by
  have ih0 := bch_nought.mono_l k
  ·intro y0 y1 y2 y3
   unfold bch_nought.l0
   repeat' first
   | (with_reducible exact ih0 _ _ _ _)
   | (with_reducible exact LeO.refl _)
   | (with_reducible exact LeO.none _)
   | (with_reducible refine LeO.ite ?_ ?_)
   | (with_reducible refine LeO.bind ?_ (fun _ => ?_))
   | exact ih0 _ _ _ _
   | exact LeO.none _
   | refine LeO.ite ?_ ?_
   | refine LeO.bind ?_ (fun _ => ?_)
theorem bch_nought.mono : ∀ a0 k, LeO (bch_nought.f k a0) (bch_nought.f (k + 1) a0) := by
 intro a0 k
 have ih0 := bch_nought.mono_l k
 unfold bch_nought.f
 repeat' first
   | (with_reducible exact ih0 _ _ _ _)
   | (with_reducible exact LeO.refl _)
   | (with_reducible exact LeO.none _)
   | (with_reducible refine LeO.ite ?_ ?_)
   | (with_reducible refine LeO.bind ?_ (fun _ => ?_))
   | exact ih0 _ _ _ _
   | exact LeO.none _
   | refine LeO.ite ?_ ?_
   | refine LeO.bind ?_ (fun _ => ?_)
set_option maxHeartbeats 8000000 in
set_option maxRecDepth 100000 in
theorem bch_nought.calls (k : Nat) (A0 : Option Addr) (c0 : Nat) (l0 : List Int) (r : List Int) (w : World) (hr0 : Kd.C (Kd.int .i64) w A0 l0.length l0) (hc0 : l0.length ≤ c0) (h : bch_nought.f k l0 = some r) :
  Calls Try.prog 46 #[.slice A0 l0.length c0] w fun e w' => ∃ v0_ : Value, e = .returned (v0_) ∧ Kd.R (Kd.int .u8) 5 w' w.heap.size (fun _ => True) v0_ r ∧ Below w.heap.size w w' := by
 have HR0 := Aside0.mk hr0
 have HC0 := Aside0.mk hc0
 clear hr0 hc0
 have HB := Aside0.mk (Below.refl w.heap.size w)
 have H := h
 unfold bch_nought.f at H
 clear h
 by_cases c2 : 0 ≤ (l0.length : Int)
 ·rw [if_pos c2] at H
  have c2b0 := eq_true c2
  have c2b1 : decide (0 ≤ (l0.length : Int)) = true := decide_eq_true c2
  clear c2
  by_cases c3 : ((l0.length : Int) : Int).toNat ≤ 281474976710656
  ·rw [if_pos c3] at H
   have c3b0 := eq_true c3
   have c3b1 : decide (((l0.length : Int) : Int).toNat ≤ 281474976710656) = true := decide_eq_true c3
   clear c3
   obtain ⟨y184, Ny184⟩ := uEA ((List.replicate ((l0.length : Int) : Int).toNat 0) : List Int)
   rw [← Ny184.out] at H
   have H' := Aside0.mk H
   clear H
   go_enter Try.func46, Try.ntmps46
   go_wp2_with (first | ((with_reducible refine gate_dst (N := 8) rfl ?_); refine Kd.R_make (Kd.int .u8) _ 5 rfl (N := 8) rfl 26 _ _ rfl (l0.length : Int) rfl rfl Try.underlying26 (.int .u8 0) 1 info5 rfl (by decide) (by omega) 0 (ok := fun _ => True) (okp := fun _ => True) rfl (fun _ hk => hk) trivial (of_decide_eq_true (by first | (with_reducible assumption) | assumption)) (Nat.le_trans (Nat.mul_le_mul_right _ (of_decide_eq_true (by first | (with_reducible assumption) | assumption) : (l0.length : Int).toNat ≤ 281474976710656)) (by omega)) (Below.refl _ _) (Nat.le_refl _) ?_; intro v185 w4 ho5 hb hg_ hnew_; clear hg_ hnew_; (first | rw [← Ny184.out] at ho5 | (simp only [Int.reduceToNat] at ho5; rw [← Ny184.out] at ho5)); have HO186 := uA (Kd.R_lower ho5 (below_size (uB HB.out))); replace HB := uBb HB hb; clear hb ho5))
   go_loopg [11] k (fun kq v11 w' => ∃ (x3_1 : List Int) (x11_1 : Int), v11 = .int .i64 x11_1 ∧ Aside0 (bch_nought.l0 kq x3_1 l0 (l0.length : Int) x11_1 = some r) ∧ Aside0 (kq ≤ k) ∧ Aside0 (Kd.R (Kd.int .u8) 5 w' w.heap.size (fun _ => True) v185 x3_1) ∧ Aside0 (Below w.heap.size w w'))
   case atStart => exact ⟨(y184), (0), rfl, H', ⟨Nat.le_refl _⟩, ⟨uR HO186.out⟩, ⟨uB HB.out⟩⟩
   case round =>
    clear H'
    obtain ⟨x3_1, x11_1, rfl, HA, HK1, HO_3, HB⟩ := hrel
    cases gk with
    | zero => exact absurd HA.out (by simp [bch_nought.l0])
    | succ k1 =>
     have H := HA.out
     clear HA
     simp only [bch_nought.l0] at H
     by_cases c6 : x11_1 < (l0.length : Int)
     ·rw [if_pos c6] at H
      have c6b0 : decide (x11_1 < (l0.length : Int)) = true := decide_eq_true c6
      clear c6
      by_cases c7 : 0 ≤ x11_1
      ·rw [if_pos c7] at H
       have c7b0 : decide (0 ≤ x11_1) = true := decide_eq_true c7
       clear c7
       by_cases c8 : x11_1 < (l0.length : Int)
       ·rw [if_pos c8] at H
        have c8b0 : decide (x11_1 < (l0.length : Int)) = true := decide_eq_true c8
        clear c8
        by_cases c9 : (rd l0 x11_1) = 0
        ·rw [if_pos c9] at H
         have c9b0 : ((rd l0 x11_1) == 0) = true := beq_iff_eq.mpr c9
         have c9b1 : ((rd l0 x11_1) != 0) = false := bne_eq_false_iff_eq.mpr c9
         clear c9
         have H' := Aside0.mk H
         clear H
         have p187 : 0 ≤ (x11_1 : Int) := of_decide_eq_true (by first | (with_reducible assumption) | assumption)
         have q187 : x11_1 < (l0.length : Int) := of_decide_eq_true (by first | (with_reducible assumption) | assumption)
         obtain ⟨ad187, e187, hx187_0⟩ := Kd.at_int HR0.out x11_1 p187 q187
         cases e187
         replace hx187_0 := (HB.out.cell (World.block_lt_of_cell? w _ hx187_0)).trans hx187_0
         replace p187 := eq_true p187
         replace q187 := eq_true q187
         go_wp2
         go_roundg k1
         case measure => have := HK1.out; omega
         case rel => exact ⟨(x3_1), (wrap64 (x11_1 + 1)), rfl, H', ⟨by have := HK1.out; omega⟩, ⟨uR HO_3.out⟩, ⟨uB HB.out⟩⟩
        ·rw [if_neg c9] at H
         have c9b0 : ((rd l0 x11_1) == 0) = false := beq_eq_false_iff_ne.mpr c9
         have c9b1 : ((rd l0 x11_1) != 0) = true := bne_iff_ne.mpr c9
         by_cases c10 : x11_1 < (x3_1.length : Int)
         ·rw [if_pos c10] at H
          have c10b0 : decide (x11_1 < (x3_1.length : Int)) = true := decide_eq_true c10
          clear c10
          obtain ⟨y188, Ny188⟩ := uEA ((x3_1.set (x11_1 : Int).toNat 1) : List Int)
          rw [← Ny188.out] at H
          have H' := Aside0.mk H
          clear H
          have p187 : 0 ≤ (x11_1 : Int) := of_decide_eq_true (by first | (with_reducible assumption) | assumption)
          have q187 : x11_1 < (l0.length : Int) := of_decide_eq_true (by first | (with_reducible assumption) | assumption)
          obtain ⟨ad187, e187, hx187_0⟩ := Kd.at_int HR0.out x11_1 p187 q187
          cases e187
          replace hx187_0 := (HB.out.cell (World.block_lt_of_cell? w _ hx187_0)).trans hx187_0
          replace p187 := eq_true p187
          replace q187 := eq_true q187
          have p11 : 0 ≤ (x11_1 : Int) := of_decide_eq_true (by first | (with_reducible assumption) | assumption)
          have q11 : (x11_1 : Int) < ((x3_1.length : Int) : Int) := of_decide_eq_true (by first | (with_reducible assumption) | assumption)
          obtain ⟨go11, co11, eo11, gb11, gl11, cl11, HG11⟩ := Kd.R_form HO_3.out (by omega)
          (first | cases eo11 | (injection eo11 with ea_ en_ ec_; (first | subst ea_ | (injection ea_ with ea_; subst ea_)); subst ec_; clear en_))
          have GB11 := Aside0.mk gb11
          have GG11 := Aside0.mk HG11
          clear gb11 gl11 HG11
          obtain ⟨hx11_0, hf11_0⟩ := Kd.R_celln 0 HO_3.out (x11_1 : Int) p11 q11
          replace p11 := eq_true p11
          replace q11 := eq_true q11
          have HP12 := Kd.R_putg HO_3.out (x11_1 : Int) 1
          go_wp2_with (first | ((with_reducible refine gate_store (t := 5) (p := 20) rfl ?_); refine store_event (t := 5) (p := 20) (v := ?vo_w13) (w1 := (wr.setCell ⟨go11, (x11_1 : Int).toNat, none⟩ (.int .u8 1))) ?hg ?ho ?hn ?hr ?_; (case ho => rfl); (case hg => rfl); (case hn => rfl); (case hr => first | (go_simp; done) | (go_simp; rfl)); intro w13 hw; have hg : wr.grownBy w13 (some go11) := (by rw [hw]; exact HP12.2); have hp_ : Kd.R (Kd.int .u8) 5 w13 w.heap.size (fun _ => True) (.slice (some ⟨go11, 0, none⟩) x3_1.length co11) y188 := (by rw [hw, Ny188.out]; exact HP12.1); clear HP12; replace HO_3 := uA hp_; replace HB := uA (by rw [hw]; exact below_set (HB.out) GB11.out : Below w.heap.size w w13); clear hg hw hp_))
          go_roundg k1
          case measure => have := HK1.out; omega
          case rel => exact ⟨(y188), (wrap64 (x11_1 + 1)), rfl, H', ⟨by have := HK1.out; omega⟩, ⟨uR HO_3.out⟩, ⟨uB HB.out⟩⟩
         ·rw [if_neg c10] at H
          cases H
       ·rw [if_neg c8] at H
        cases H
      ·rw [if_neg c7] at H
       cases H
     ·rw [if_neg c6] at H
      have c6b0 : decide (x11_1 < (l0.length : Int)) = false := decide_eq_false c6
      clear c6
      obtain rfl := Option.some.inj H
      go_wp2
      go_ret
      exact ⟨_, by first | rfl | (simp [errW_none, errW_some] <;> rfl) | (simp [*, errW_none, errW_some] <;> rfl), by (with_reducible repeat (first | apply Kd.R_alloc | apply Kd.R_drewN | apply Kd.R_drew)); exact HO_3.out, uB HB.out⟩
  ·rw [if_neg c3] at H
   cases H
 ·rw [if_neg c2] at H
  cases H
def dec1 : Nat → List Int → Int → Int → Int → Option Int
 | 0, _, _, _, _ => none
 | k + 1, c, x, v, j => if j ≥ 0 then (if j < (c.length : Int) then ((bch_mul.f k v x).bind fun t => dec1 k c x (Go.bits .xor .i64 t (rd c j)) (wrap64 (j - 1))) else none) else some v
def dec0 : Nat → List Int → Int → Int → List Int → List Int → Int → Int → Option (List Int × List Int × Int)
 | 0, _, _, _, _, _, _, _ => none
 | k + 1, c, len, t, d, m, n, i => if i < len then ((gf_Exp.f k (wrap64 (-i))).bind fun x => (dec1 k c x 0 (wrap64 ((c.length : Int) - 1))).bind fun v => if v = 0 then ((flipL t d m i).bind fun q => dec0 k c len t q.1 q.2 (wrap64 (n + 1)) (wrap64 (i + 1))) else dec0 k c len t d m n (wrap64 (i + 1))) else some (d, m, n)
theorem dec1_mono : ∀ k c x v j, LeO (dec1 k c x v j) (dec1 (k + 1) c x v j)
 | 0, _, _, _, _ => LeO.none _
 | k + 1, c, x, v, j => by
  unfold dec1
  exact LeO.ite (LeO.ite (LeO.bind (bch_mul.mono _ _ _) (fun t => dec1_mono k _ _ _ _)) (LeO.refl _)) (LeO.refl _)
theorem dec0_mono : ∀ k c len t d m n i, LeO (dec0 k c len t d m n i) (dec0 (k + 1) c len t d m n i)
 | 0, _, _, _, _, _, _, _ => LeO.none _
 | k + 1, c, len, t, d, m, n, i => by
  unfold dec0
  exact LeO.ite (LeO.bind (gf_Exp.mono _ _) (fun x => LeO.bind (dec1_mono k _ _ _ _) (fun v => LeO.ite (LeO.bind (LeO.refl _) (fun q => dec0_mono k _ _ _ _ _ _ _)) (dec0_mono k _ _ _ _ _ _ _)))) (LeO.refl _)
/-- What Decode comes to behind newWord. -/
def decF (k : Nat) (t : Int) (d m' : List Int) : Option (List Int × List Int × Int × Int) := (bch_word_sums.f k t d m').bind fun p => if p.2 = t then ((bch_locator.f k p.1).bind fun c => if wrap64 ((c.length : Int) - 1) > t then some ([], [], 0, 50) else ((bch_word_len.f t d m').bind fun q => if q.2 = t then ((dec0 k c q.1 t d m' 0 0).bind fun z => if z.2.2 = wrap64 ((c.length : Int) - 1) then ((bch_word_sums.f k t z.1 z.2.1).bind fun p2 => if p2.2 = t then ((bch_nought.f k p2.1).bind fun b => (bits_Ones.f k b).bind fun o => if o > 0 then some ([], [], 0, 50) else some (z.1, z.2.1, z.2.2, 0)) else none) else some ([], [], 0, 50)) else none)) else none
def bch_Decode.f (k : Nat) (t : Int) (d m : List Int) : Option (List Int × List Int × Int × Int) := (newW k t d m).bind fun o => match o with | none => some ([], [], 0, 1) | some m' => decF k t d m'
theorem decF_mono : ∀ k t d m, LeO (decF k t d m) (decF (k + 1) t d m) := by
 intro k t d m
 unfold decF
 exact LeO.bind (bch_word_sums.mono _ _ _ _) (fun p => LeO.ite (LeO.bind (bch_locator.mono _ _) (fun c => LeO.ite (LeO.refl _) (LeO.bind (LeO.refl _) (fun q => LeO.ite (LeO.bind (dec0_mono _ _ _ _ _ _ _ _) (fun z => LeO.ite (LeO.bind (bch_word_sums.mono _ _ _ _) (fun p2 => LeO.ite (LeO.bind (bch_nought.mono _ _) (fun b => LeO.bind (bits_Ones.mono _ _) (fun o => LeO.refl _))) (LeO.refl _))) (LeO.refl _))) (LeO.refl _))))) (LeO.refl _))
theorem bch_Decode.mono : ∀ t d m k, LeO (bch_Decode.f k t d m) (bch_Decode.f (k + 1) t d m) := by
 intro t d m k
 unfold bch_Decode.f
 refine LeO.bind (newW_mono _ _ _ _) (fun o => ?_)
 cases o with
 | none => exact LeO.refl _
 | some m' => exact decF_mono _ _ _ _
theorem loc_calls {k : Nat} {s c : List Int} (h : bch_locator.f k s = some c) (A : Option Addr) (cc : Nat) (W : World) (hr : Kd.C (Kd.int .i64) W A s.length s) (hc : s.length ≤ cc) :
  Calls Try.prog 40 #[.slice A s.length cc] W fun e w' => ∃ A' c', e = .returned (.slice A' c.length c') ∧ c.length ≤ c' ∧ Kd.C (Kd.int .i64) w' A' c.length c ∧ Kd.R (Kd.int .i64) 3 w' W.heap.size (fun _ => True) (.slice A' c.length c') c ∧ Below W.heap.size W w' := by
 refine (bch_locator.calls k A cc s c W hr hc h).mono ?_
 rintro e w' ⟨v, rfl, hR, hB⟩
 obtain ⟨A', c', rfl, hc', hC⟩ := Kd.R_reads hR
 exact ⟨A', c', rfl, hc', hC, hR, hB⟩
/-- A row of the call's own, and a word: both, and what lies below, through whatever runs. -/
structure DSt (w0 W : World) (A : Option Addr) (cc : Nat) (c : List Int) (g : Nat) (t : Int) (d m : List Int) (gd cd gm cm : Nat) : Prop where
 ws : WSt W w0.heap.size g t d m gd cd gm cm
 row : Kd.R (Kd.int .i64) 3 W w0.heap.size (fun k => k ≠ g ∧ k ≠ gd ∧ k ≠ gm) (.slice A c.length cc) c
 below : Below w0.heap.size w0 W
 ge : w0.heap.size ≤ g
theorem DSt.move {w0 W W1 : World} {A : Option Addr} {cc : Nat} {c : List Int} {g : Nat} {t : Int} {d m : List Int} {gd cd gm cm : Nat} (h : DSt w0 W A cc c g t d m gd cd gm cm) (hb : Below W.heap.size W W1) : DSt w0 W1 A cc c g t d m gd cd gm cm :=
 ⟨h.ws.below hb, Kd.R_below h.row hb, below_step h.below hb, h.ge⟩
theorem DSt.len_c {w0 W : World} {A : Option Addr} {cc : Nat} {c : List Int} {g : Nat} {t : Int} {d m : List Int} {gd cd gm cm : Nat} (h : DSt w0 W A cc c g t d m gd cd gm cm) : c.length ≤ 9223372036854775807 ∧ c.length ≤ cc := ⟨(Kd.R_reads' h.row).2.2.2.1, (Kd.R_reads' h.row).2.1⟩
theorem dflip_calls {w0 W : World} {A : Option Addr} {cc : Nat} {c : List Int} {g : Nat} {t : Int} {d m : List Int} {gd cd gm cm : Nat} (h : DSt w0 W A cc c g t d m gd cd gm cm) {i : Int} {q : List Int × List Int} (hf : flipL t d m i = some q) :
  Calls Try.prog 45 #[.pointer (some ⟨g, 0, none⟩), .int .i64 i] W fun e w' => e = .returned (.tuple #[]) ∧ DSt w0 w' A cc c g t q.1 q.2 gd cd gm cm := by
 obtain ⟨d', m'⟩ := q
 refine (flip_keeps W w0.heap.size g t d m gd cd gm cm i d' m' h.ws hf).mono ?_
 rintro e w' ⟨rfl, hst, hb, hk⟩
 exact ⟨rfl, hst, Kd.R_step h.row (fun k ho hlt => hk k hlt ho.2.1 ho.2.2), h.below.trans hb, h.ge⟩
theorem nou_calls {k : Nat} {s c : List Int} (h : bch_nought.f k s = some c) (A : Option Addr) (cc : Nat) (W : World) (hr : Kd.C (Kd.int .i64) W A s.length s) (hc : s.length ≤ cc) :
  Calls Try.prog 46 #[.slice A s.length cc] W fun e w' => ∃ A' c', e = .returned (.slice A' c.length c') ∧ c.length ≤ c' ∧ Kd.C (Kd.int .u8) w' A' c.length c ∧ Below W.heap.size W w' := by
 refine (bch_nought.calls k A cc s c W hr hc h).mono ?_
 rintro e w' ⟨v, rfl, hR, hB⟩
 obtain ⟨A', c', rfl, hc', hC⟩ := Kd.R_reads hR
 exact ⟨A', c', rfl, hc', hC, hB⟩
theorem results_tmp4 {fn : Func} {t u v x : Tmp} (h : fn.results = #[.tmp t, .tmp u, .tmp v, .tmp x]) (tmps : Array Value) (P : Program) (w : World) :
  (results fn tmps).run P w = .ok (.tuple #[tmps.getD t undef, tmps.getD u undef, tmps.getD v undef, tmps.getD x undef]) w := by
 simp [results, h]
theorem dst_start {w0 W W1 : World} {A : Option Addr} {cc : Nat} {c : List Int} {g : Nat} {t : Int} {d m : List Int} {gd cd gm cm : Nat} (h : WSt W w0.heap.size g t d m gd cd gm cm) (hR : Kd.R (Kd.int .i64) 3 W1 W.heap.size (fun _ => True) (.slice A c.length cc) c) (hb : Below w0.heap.size w0 W) (hb1 : Below W.heap.size W W1) (hg : w0.heap.size ≤ g) : DSt w0 W1 A cc c g t d m gd cd gm cm :=
 have hlt := blk_lt h.blk
 have h1 := h.ltd
 have h2 := h.ltm
 ⟨h.below hb1, Kd.R_lower (Kd.R_mono (Kd.R_bound hR) (fun k hk => ⟨by have := hk.2.1; omega, by have := hk.2.1; omega, by have := hk.2.1; omega⟩)) hb.size, below_step hb hb1, hg⟩
theorem dlen_calls {w0 W : World} {A : Option Addr} {cc : Nat} {c : List Int} {g : Nat} {t : Int} {d m : List Int} {gd cd gm cm : Nat} (h : DSt w0 W A cc c g t d m gd cd gm cm) {s t1 : Int} (hl : bch_word_len.f t d m = some (s, t1)) :
  Calls Try.prog 42 #[.pointer (some ⟨g, 0, none⟩)] W fun e w' => e = .returned (.int .i64 s) ∧ DSt w0 w' A cc c g t1 d m gd cd gm cm := by
 have hlt := blk_lt h.ws.blk
 refine (bch_word_len.callsT (some ⟨gd, 0, none⟩) cd (some ⟨gm, 0, none⟩) cm g t d m s t1 (cutW W g) W h.ws.is (cutW_below (Nat.le_of_lt hlt)) hl).mono ?_
 rintro e w' ⟨rfl, hI, hB, hK⟩
 exact ⟨rfl, h.ws.back hI hK, Kd.R_step h.row (fun k ho hlt => hK.2 k hlt ho.1 (by simp)), h.below.trans ⟨hB.os, hB.tape, hB.output, hK.1, fun i hi => hK.2 i (by have := h.below.size; omega) (by have := h.ge; omega) (by simp)⟩, h.ge⟩
theorem dsums_calls {w0 W : World} {A : Option Addr} {cc : Nat} {c : List Int} {g : Nat} {t : Int} {d m : List Int} {gd cd gm cm : Nat} (h : DSt w0 W A cc c g t d m gd cd gm cm) {k : Nat} {s : List Int} {t1 : Int} (hl : bch_word_sums.f k t d m = some (s, t1)) :
  Calls Try.prog 41 #[.pointer (some ⟨g, 0, none⟩)] W fun e w' => ∃ A' c', e = .returned (.slice A' s.length c') ∧ s.length ≤ c' ∧ Kd.C (Kd.int .i64) w' A' s.length s ∧ DSt w0 w' A cc c g t1 d m gd cd gm cm := by
 have hlt := blk_lt h.ws.blk
 refine (bch_word_sums.callsT (some ⟨gd, 0, none⟩) cd (some ⟨gm, 0, none⟩) cm k g t d m s t1 (cutW W g) W h.ws.is (cutW_below (Nat.le_of_lt hlt)) hl).mono ?_
 rintro e w' ⟨v, rfl, hR, hI, hB, hK⟩
 obtain ⟨A', c', rfl, hc', hC⟩ := Kd.R_reads hR
 exact ⟨A', c', rfl, hc', hC, h.ws.back hI hK, Kd.R_step h.row (fun k ho hlt => hK.2 k hlt ho.1 (by simp)), h.below.trans ⟨hB.os, hB.tape, hB.output, hK.1, fun i hi => hK.2 i (by have := h.below.size; omega) (by have := h.ge; omega) (by simp)⟩, h.ge⟩
set_option maxHeartbeats 4000000 in
set_option maxRecDepth 100000 in
theorem bch_Decode.calls (k : Nat) (a0 : Int) (A1 : Option Addr) (c1 : Nat) (l1 : List Int) (A2 : Option Addr) (c2 : Nat) (l2 : List Int) (r1 r2 : List Int) (r3 r4 : Int) (w : World) (hr1 : Kd.C (Kd.int .u8) w A1 l1.length l1) (hc1 : l1.length ≤ c1) (hr2 : Kd.C (Kd.int .u8) w A2 l2.length l2) (hc2 : l2.length ≤ c2) (h : bch_Decode.f k a0 l1 l2 = some (r1, r2, r3, r4)) :
  Calls Try.prog 28 #[.int .i64 a0, .slice A1 l1.length c1, .slice A2 l2.length c2] w fun e w' => ∃ v0_ v1_ : Value, e = .returned (.tuple #[v0_, v1_, .int .i64 r3, .int .i64 r4]) ∧ Kd.R (Kd.int .u8) 5 w' w.heap.size (fun k_ => some k_ ≠ (v1_ : Value).ownBlock) v0_ r1 ∧ Kd.R (Kd.int .u8) 5 w' w.heap.size (fun k_ => some k_ ≠ (v0_ : Value).ownBlock) v1_ r2 ∧ Below w.heap.size w w' := by
 unfold bch_Decode.f at h
 have HR1 := Aside0.mk hr1
 have HR2 := Aside0.mk hr2
 clear hr1 hr2
 obtain ⟨o, hw, h⟩ := Option.bind_eq_some_iff.1 h
 have HW := Aside0.mk hw
 clear hw
 cases o with
 | none =>
  simp only [Option.some.injEq, Prod.mk.injEq] at h
  obtain ⟨rfl, rfl, rfl, rfl⟩ := h
  go_enter Try.func28, Try.ntmps28
  go_wp2_with (first | (go_at_call 39; refine (newW_call_no HW.out A1 c1 A2 c2 _ HR1.out hc1).mono ?_; rintro e' w1 ⟨rfl, hb⟩; have HB := Aside0.mk hb; clear hb))
  refine bodyPost_ret (results_tmp4 rfl _ _ _) rfl ?_
  exact ⟨_, _, rfl, Kd.R_nil _ _ _ _ _, Kd.R_nil _ _ _ _ _, HB.out⟩
 | some m' =>
  simp only [decF] at h
  obtain ⟨⟨s, t1⟩, hs, h⟩ := Option.bind_eq_some_iff.1 h
  by_cases ht1 : t1 = a0
  ·rw [if_pos ht1] at h
   subst ht1
   obtain ⟨c, hcl, h⟩ := Option.bind_eq_some_iff.1 h
   have HS := Aside0.mk hs
   have HC := Aside0.mk hcl
   clear hs hcl
   obtain ⟨lc, hlc⟩ : ∃ lc, wrap64 ((c.length : Int) - 1) = lc := ⟨_, rfl⟩
   rw [hlc] at h
   have hlcw : IntKind.i64.wrap ((c.length : Int) - 1) = lc := (i64_w _).trans hlc
   by_cases hgt : lc > t1
   ·rw [if_pos hgt] at h
    simp only [Option.some.injEq, Prod.mk.injEq] at h
    obtain ⟨rfl, rfl, rfl, rfl⟩ := h
    have hgtb : decide (t1 < lc) = true := decide_eq_true hgt
    clear hgt
    go_enter Try.func28, Try.ntmps28
    go_wp2_with (first | (go_at_call 39; refine (newW_call_yes HW.out A1 c1 A2 c2 _ HR1.out hc1 HR2.out hc2).mono ?_; rintro e' w1 ⟨g, gd, cd, gm, cm, rfl, hst, hg, hb⟩; have HST := Aside0.mk hst; have HG := Aside0.mk hg; have HB := Aside0.mk hb; clear hst hg hb) | (go_at_call 41; refine (sums_calls HS.out _ _ g gd cd gm cm HST.out HG.out).mono ?_; rintro e' w2 ⟨A, cs, rfl, hc, hC, hR, hst2, hb2⟩; have HB2 := Aside0.mk (HB.out.trans hb2); have HC3 := Aside0.mk hc; have HCC := Aside0.mk hC; clear hc hC hR hst2 hb2 HB) | (go_at_call 40; refine (loc_calls HC.out A cs _ HCC.out HC3.out).mono ?_; rintro e' w3 ⟨A', c', rfl, hc', hC', hR', hb3⟩; have HB3 := Aside0.mk (below_step HB2.out hb3); clear hc' hC' hR' hb3))
    refine bodyPost_ret (results_tmp4 rfl _ _ _) rfl ?_
    exact ⟨_, _, rfl, Kd.R_nil _ _ _ _ _, Kd.R_nil _ _ _ _ _, HB3.out⟩
   ·rw [if_neg hgt] at h
    have hgtb : decide (t1 < lc) = false := decide_eq_false hgt
    clear hgt
    obtain ⟨⟨len, t2⟩, hlen, h⟩ := Option.bind_eq_some_iff.1 h
    by_cases ht2 : t2 = t1
    ·rw [if_pos ht2] at h
     subst ht2
     obtain ⟨⟨d2, m2, n⟩, hz, h⟩ := Option.bind_eq_some_iff.1 h
     have HLEN := Aside0.mk hlen
     have HZ := Aside0.mk hz
     have H := Aside0.mk h
     clear hlen hz h
     go_enter Try.func28, Try.ntmps28
     go_wp2_with (first | (go_at_call 39; refine (newW_call_yes HW.out A1 c1 A2 c2 _ HR1.out hc1 HR2.out hc2).mono ?_; rintro e' w1 ⟨g, gd, cd, gm, cm, rfl, hst, hg, hb⟩; have HST := Aside0.mk hst; have HG := Aside0.mk hg; have HB := Aside0.mk hb; clear hst hg hb) | (go_at_call 41; refine (sums_calls HS.out _ _ g gd cd gm cm HST.out HG.out).mono ?_; rintro e' w2 ⟨A, cs, rfl, hc, hC, hR, hst2, hb2⟩; have HB2 := Aside0.mk (HB.out.trans hb2); have HC3 := Aside0.mk hc; have HCC := Aside0.mk hC; have HST2 := Aside0.mk hst2; clear hc hC hR hst2 hb2 HB HST) | (go_at_call 40; refine (loc_calls HC.out A cs _ HCC.out HC3.out).mono ?_; rintro e' w3 ⟨A', c', rfl, hc', hC', hR', hb3⟩; have HD := Aside0.mk (dst_start HST2.out hR' HB2.out hb3 HG.out); clear hc' hC' hR' hb3 HST2 HB2 HCC HC3) | (go_at_call 42; refine (dlen_calls HD.out HLEN.out).mono ?_; rintro e' w4 ⟨rfl, hd4⟩; have HD4 := Aside0.mk hd4; clear hd4 HD))
     go_loopg [13, 38] k (fun kq v13 v38 wr => ∃ (nq i : Int) (dq mq : List Int), v13 = .int .i64 nq ∧ v38 = .int .i64 i ∧ Aside0 (dec0 kq c len t2 dq mq nq i = some (d2, m2, n)) ∧ Aside0 (kq ≤ k) ∧ Aside0 (DSt w wr A' c' c g t2 dq mq gd cd gm cm))
     case atStart => exact ⟨0, 0, _, _, rfl, rfl, HZ, ⟨Nat.le_refl _⟩, HD4⟩
     case round =>
      clear HZ HD4
      obtain ⟨nq, i, dq, mq, rfl, rfl, HZ, HK, HD⟩ := hrel
      cases gk with
      | zero => exact absurd HZ.out (by simp [dec0])
      | succ k1 =>
       have hz := HZ.out
       rw [dec0] at hz
       clear HZ
       have hcm := HD.out.len_c.1
       by_cases hi : i < len
       ·rw [if_pos hi] at hz
        have hib : decide (i < len) = true := decide_eq_true hi
        clear hi
        obtain ⟨x, hx, hz⟩ := Option.bind_eq_some_iff.1 hz
        obtain ⟨vr, hv, hz⟩ := Option.bind_eq_some_iff.1 hz
        rw [hlc] at hv
        have HX := Aside0.mk hx
        have HV := Aside0.mk hv
        have HZ := Aside0.mk hz
        clear hx hv hz
        go_wp2_with (first | (go_at_call 43; (with_reducible refine (gf_Exp.calls k1 (wrap64 (-i)) x _ HX.out).mono ?_); rintro e' w' ⟨rfl, ⟨nd, rfl⟩⟩))
        go_loopg [16, 17] k1 (fun kq v16 v17 wi => ∃ (v j : Int), v16 = .int .i64 v ∧ v17 = .int .i64 j ∧ Aside0 (dec1 kq c x v j = some vr) ∧ Aside0 (kq ≤ k1) ∧ Aside0 (DSt w wi A' c' c g t2 dq mq gd cd gm cm))
        case atStart => exact ⟨0, lc, rfl, rfl, HV, ⟨Nat.le_refl _⟩, ⟨HD.out.move (pw_below_drewN (Below.refl _ _) _)⟩⟩
        case round =>
         clear HV HD
         obtain ⟨v, j, rfl, rfl, HV, HK2, HD⟩ := hrel
         cases gk with
         | zero => exact absurd HV.out (by simp [dec1])
         | succ k2 =>
          have hv := HV.out
          rw [dec1] at hv
          clear HV
          by_cases hj : j ≥ 0
          ·rw [if_pos hj] at hv
           have hjb : decide (0 ≤ j) = true := decide_eq_true hj
           by_cases hj2 : j < (c.length : Int)
           ·rw [if_pos hj2] at hv
            obtain ⟨q, hq, hv⟩ := Option.bind_eq_some_iff.1 hv
            have HQ := Aside0.mk hq
            have HV := Aside0.mk hv
            obtain ⟨ad, rfl, hcell⟩ := Kd.at_int (Kd.R_reads' HD.out.row).2.2 j hj hj2
            clear hq hv
            obtain ⟨cj, hcj⟩ : ∃ cj, rd c j = cj := ⟨_, rfl⟩
            rw [hcj] at hcell
            have HCJ := Aside0.mk hcj
            clear hcj
            go_wp2_with fail
            go_region_with (go_at_call 44; (with_reducible refine (bch_mul.calls k2 v x q _ HQ.out).mono ?_); rintro e' w' ⟨rfl, ⟨nd2, rfl⟩⟩)
            all_goals
             go_wp2
             go_roundg k2
             case measure => have := HK2.out; omega
             case rel =>
              rw [← HCJ.out]
              refine ⟨_, _, rfl, rfl, by first | exact HV | exact ⟨by have h9 := HV.out; rwa [show wrap64 (j - 1) = j - 1 from by unfold wrap64; omega] at h9⟩, ⟨by have := HK2.out; omega⟩, ⟨?_⟩⟩
              exact HD.out.move (pw_below_drewN (Below.refl _ _) _)
           ·rw [if_neg hj2] at hv; exact absurd hv (by simp)
          ·rw [if_neg hj] at hv
           have hjb : decide (0 ≤ j) = false := decide_eq_false hj
           obtain rfl := Option.some.inj hv
           clear hj hv
           have hz := HZ.out
           clear HZ
           by_cases hv0 : v = 0
           ·rw [if_pos hv0] at hz
            have hvb : (v == 0) = true := beq_iff_eq.2 hv0
            clear hv0
            obtain ⟨q, hq, hz⟩ := Option.bind_eq_some_iff.1 hz
            have HQ := Aside0.mk hq
            have HZ := Aside0.mk hz
            clear hq hz
            go_wp2_with (first | (go_at_call 45; refine (dflip_calls HD.out HQ.out).mono ?_; rintro e' w5 ⟨rfl, hd5⟩; have HD5 := Aside0.mk hd5; clear hd5 HD))
            go_roundg k1
            case measure => have := HK.out; have := HK2.out; omega
            case rel => exact ⟨_, _, _, _, rfl, rfl, HZ, ⟨by have := HK.out; omega⟩, HD5⟩
           ·rw [if_neg hv0] at hz
            have hvb : (v == 0) = false := beq_eq_false_iff_ne.2 hv0
            have HZ := Aside0.mk hz
            clear hv0 hz
            go_wp2
            go_roundg k1
            case measure => have := HK.out; have := HK2.out; omega
            case rel => exact ⟨_, _, _, _, rfl, rfl, HZ, ⟨by have := HK.out; omega⟩, HD⟩
       ·rw [if_neg hi] at hz
        have hib : decide (i < len) = false := decide_eq_false hi
        simp only [Option.some.injEq, Prod.mk.injEq] at hz
        obtain ⟨rfl, rfl, rfl⟩ := hz
        clear hi
        have h5 := H.out
        clear H
        by_cases hnl : nq = lc
        ·rw [if_pos hnl] at h5
         have hn1 : (nq == lc) = true := beq_iff_eq.2 hnl
         have hn2 : (nq != lc) = false := bne_eq_false_iff_eq.2 hnl
         clear hnl
         obtain ⟨⟨s2, t3⟩, hs2, h6⟩ := Option.bind_eq_some_iff.1 h5
         by_cases ht3 : t3 = t2
         ·rw [if_pos ht3] at h6
          obtain rfl : t3 = t2 := ht3
          obtain ⟨b, hb, h7⟩ := Option.bind_eq_some_iff.1 h6
          obtain ⟨o, ho, h8⟩ := Option.bind_eq_some_iff.1 h7
          have HS2 := Aside0.mk hs2
          have HBB := Aside0.mk hb
          have HO := Aside0.mk ho
          clear hs2 hb ho
          by_cases ho0 : o > 0
          ·rw [if_pos ho0] at h8
           have hob : decide (0 < o) = true := decide_eq_true ho0
           simp only [Option.some.injEq, Prod.mk.injEq] at h8
           obtain ⟨rfl, rfl, rfl, rfl⟩ := h8
           clear ho0
           go_wp2_with (first | (go_at_call 41; refine (dsums_calls HD.out HS2.out).mono ?_; rintro e' w6 ⟨A6, c6, rfl, hc6, hC6, hd6⟩; have HC6 := Aside0.mk hC6; have HL6 := Aside0.mk hc6; have HD6 := Aside0.mk hd6; clear hc6 hC6 hd6 HD) | (go_at_call 46; refine (nou_calls HBB.out A6 c6 _ HC6.out HL6.out).mono ?_; rintro e' w7 ⟨A7, c7, rfl, hc7, hC7, hb7⟩; have HC7 := Aside0.mk hC7; have HL7 := Aside0.mk hc7; have HD7 := Aside0.mk (HD6.out.move hb7); clear hc7 hC7 hb7 HD6) | (go_at_call 37; refine (bits_Ones.calls k A7 c7 b o _ HC7.out HL7.out HO.out).mono ?_; rintro e' w8 ⟨rfl, ⟨nd8, rfl⟩⟩))
           refine bodyPost_ret (results_tmp4 rfl _ _ _) rfl ?_
           exact ⟨_, _, rfl, Kd.R_nil _ _ _ _ _, Kd.R_nil _ _ _ _ _, pw_below_drewN HD7.out.below _⟩
          ·rw [if_neg ho0] at h8
           have hob : decide (0 < o) = false := decide_eq_false ho0
           simp only [Option.some.injEq, Prod.mk.injEq] at h8
           obtain ⟨rfl, rfl, rfl, rfl⟩ := h8
           clear ho0
           go_wp2_with (first | (go_at_call 41; refine (dsums_calls HD.out HS2.out).mono ?_; rintro e' w6 ⟨A6, c6, rfl, hc6, hC6, hd6⟩; have HC6 := Aside0.mk hC6; have HL6 := Aside0.mk hc6; have HD6 := Aside0.mk hd6; clear hc6 hC6 hd6 HD) | (go_at_call 46; refine (nou_calls HBB.out A6 c6 _ HC6.out HL6.out).mono ?_; rintro e' w7 ⟨A7, c7, rfl, hc7, hC7, hb7⟩; have HC7 := Aside0.mk hC7; have HL7 := Aside0.mk hc7; have HD7 := Aside0.mk (HD6.out.move hb7); clear hc7 hC7 hb7 HD6) | (go_at_call 37; refine (bits_Ones.calls k A7 c7 b o _ HC7.out HL7.out HO.out).mono ?_; rintro e' w8 ⟨rfl, ⟨nd8, rfl⟩⟩; have HD8 := Aside0.mk (HD7.out.move (pw_below_drewN (Below.refl _ _) nd8)); have hcl1 : w7.cell? ⟨g, 1, none⟩ = some (.slice (some ⟨gd, 0, none⟩) dq.length cd) := (blk_cell HD7.out.ws.blk 1).trans rfl; have hcl2 : w7.cell? ⟨g, 2, none⟩ = some (.slice (some ⟨gm, 0, none⟩) mq.length cm) := (blk_cell HD7.out.ws.blk 2).trans rfl))
           go_region
           go_wp2
           refine bodyPost_ret (results_tmp4 rfl _ _ _) rfl ?_
           have HD9 := HD8.out.move (below_drew1 (Below.refl _ _))
           exact ⟨_, _, rfl, Kd.R_of_own (h1 := fun _ => rfl) HD9.ws.od (fun k hk e => HD9.ws.ne (Option.some.inj ((show some gd = some k from hk).trans (show some k = some gm from e)))), Kd.R_of_own (h1 := fun _ => rfl) HD9.ws.om (fun k hk e => HD9.ws.ne (Option.some.inj ((show some gm = some k from hk).trans (show some k = some gd from e))).symm), HD9.below⟩
         ·rw [if_neg ht3] at h6; exact absurd h6 (by simp)
        ·rw [if_neg hnl] at h5
         have hn1 : (nq == lc) = false := beq_eq_false_iff_ne.2 hnl
         have hn2 : (nq != lc) = true := bne_iff_ne.2 hnl
         simp only [Option.some.injEq, Prod.mk.injEq] at h5
         obtain ⟨rfl, rfl, rfl, rfl⟩ := h5
         clear hnl
         go_wp2
         refine bodyPost_ret (results_tmp4 rfl _ _ _) rfl ?_
         exact ⟨_, _, rfl, Kd.R_nil _ _ _ _ _, Kd.R_nil _ _ _ _ _, HD.out.below⟩
    ·rw [if_neg ht2] at h; exact absurd h (by simp)
  ·rw [if_neg ht1] at h; exact absurd h (by simp)
end Go.Proofs.Ytfpdloccmneabaa.P

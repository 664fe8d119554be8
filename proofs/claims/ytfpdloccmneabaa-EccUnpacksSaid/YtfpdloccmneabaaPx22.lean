/- What Go functions of the translation come to, and that their calls come to just that. No condition but that the plain function answers. -/
import Derived.Test.YtfpdloccmneabaaPx0
import Derived.Test.YtfpdloccmneabaaPx18
import Derived.Test.YtfpdloccmneabaaUp
import Derived.Test.YtfpdloccmneabaaPx6
import Derived.Test.YtfpdloccmneabaaPx10
namespace Go.Proofs.Ytfpdloccmneabaa.P
open Go.RowKit Go.Proofs.YtfpdloccmneabaaW.PrintWords Go.Proofs.YtfpdloccmneabaaW.PrintLast Go.Proofs.YtfpdloccmneabaaW.PrintMore
attribute [local go_sem] max2_int min2_int max_two min_two max_three min_three max_four min_four   -- for this text's walks alone
set_option linter.unusedVariables false
set_option linter.unusedSimpArgs false
def casemateref06_Near.j0 : Nat → List Int → Bool → Int → Int → Int → Int → Int → List Int → Int → Int → Option (Bool)
 | 0, _, _, _, _, _, _, _, _, _, _ => none
 | k + 1, x9, x49, x580000, x580001, x580002, x580003, x580004, x581000, x581001, x581002 => if x49 = true then (some false) else (if 0 ≤ x580003 then (if x580003 ≤ (x9.length : Int) then ((casemateref05_Word.f k x580004 (x9.take (x580003 : Int).toNat) (x9.drop (x580003 : Int).toNat)).bind fun t594 => ((casemateref05_Encode.f k x580004 x581000).bind fun t597 => ((casemateref05_Word.f k x580004 x581000 t597).bind fun t600 => ((casemateref05_Apart.f k t594 t600).bind fun t603 => (some (t603 == x581001)))))) else (none)) else (none))
def casemateref06_Near.f (k : Nat) (a0_0 : Int) (a0_1 : Int) (a0_2 : Int) (a0_3 : Int) (a0_4 : Int) (l1 : List Int) (a2 : Int) (l3_0 : List Int) (a3_1 : Int) (a3_2 : Int) : Option (Bool) := (casemateref06_sector.f a0_0 a0_1 a0_2 a0_3 a0_4 l1 a2).bind fun t581 => (if a3_2 = 0 then (if (l3_0.length : Int) = a0_3 then (if a3_1 < 0 then (casemateref06_Near.j0 k t581 true a0_0 a0_1 a0_2 a0_3 a0_4 l3_0 a3_1 a3_2) else (casemateref06_Near.j0 k t581 (decide (a3_1 > a0_4)) a0_0 a0_1 a0_2 a0_3 a0_4 l3_0 a3_1 a3_2)) else (casemateref06_Near.j0 k t581 true a0_0 a0_1 a0_2 a0_3 a0_4 l3_0 a3_1 a3_2)) else (if a3_2 = 50 then (if (l3_0.length : Int) = 0 then (some (a3_1 == 0)) else (some false)) else (some false)))
def casemateref06_Near.T6 : Bool × List (List Nat × List Nat) := (true, [([], []), ([0], [0]), ([], []), ([], []), ([3], [3]), ([2, 4], [2, 4]), ([], []), ([], []), ([7], [7]), ([6, 8], [6, 8]), ([1, 5, 9], [1, 5, 9]), ([10, 10, 0, 1, 2, 3, 4, 5, 6, 7, 8, 9, 10], [10])])
def casemateref06_Near.B6 : List Nat := [0, 1, 0, 0, 8, 28, 0, 0, 128, 448, 1023, 2047]
theorem casemateref06_Near.tab6 : rtab .any (opsOf Try.f24 6) = casemateref06_Near.T6 := by kernel_rfl
theorem casemateref06_Near.bits6 : waitsOk casemateref06_Near.T6.2 casemateref06_Near.B6 = true := by kernel_rfl
def casemateref06_Near.T7 : Bool × List (List Nat × List Nat) := (true, [([], []), ([], []), ([1], [1]), ([], []), ([3], [3]), ([], []), ([5], [5]), ([], []), ([7], [7]), ([6, 8], [6, 8]), ([2, 4, 9, 9], [2, 4, 9]), ([0, 10, 10], [0, 10]), ([], []), ([12], [12]), ([11, 13], [11, 13]), ([14, 11, 0, 1, 2, 3, 4, 5, 6, 7, 8, 9, 10, 11, 12, 13, 14], [14])])
def casemateref06_Near.B7 : List Nat := [0, 0, 2, 0, 8, 0, 32, 0, 128, 480, 1022, 2047, 0, 4096, 16383, 32767]
theorem casemateref06_Near.tab7 : rtab .any (opsOf Try.f24 7) = casemateref06_Near.T7 := by kernel_rfl
theorem casemateref06_Near.bits7 : waitsOk casemateref06_Near.T7.2 casemateref06_Near.B7 = true := by kernel_rfl
set_option maxHeartbeats 8000000 in
set_option maxRecDepth 100000 in
theorem casemateref06_Near.calls (k : Nat) (a0_0 : Int) (a0_1 : Int) (a0_2 : Int) (a0_3 : Int) (a0_4 : Int) (A1 : Option Addr) (c1 : Nat) (l1 : List Int) (a2 : Int) (A3_0 : Option Addr) (c3_0 : Nat) (l3_0 : List Int) (a3_1 : Int) (a3_2 : Int) (r : Bool) (w : World) (hr1 : Kd.C (Kd.int .u8) w A1 l1.length l1) (hc1 : l1.length ≤ c1) (hr3_0 : Kd.C (Kd.int .u8) w A3_0 l3_0.length l3_0) (hc3_0 : l3_0.length ≤ c3_0) (h : casemateref06_Near.f k a0_0 a0_1 a0_2 a0_3 a0_4 l1 a2 l3_0 a3_1 a3_2 = some r) :
  Calls Try.prog 24 #[.agg #[.int .i64 a0_0, .int .i64 a0_1, .int .i64 a0_2, .int .i64 a0_3, .int .i64 a0_4], .slice A1 l1.length c1, .int .i64 a2, .agg #[.slice A3_0 l3_0.length c3_0, .int .i64 a3_1, .int .i64 a3_2]] w fun e w' => e = .returned (.bool r) ∧ Below w.heap.size w w' := by
 have hu23 := Try.underlying23
 have hu39 := Try.underlying39
 have HR1 := Aside0.mk hr1
 have HC1 := Aside0.mk hc1
 clear hr1 hc1
 have HR3_0 := Aside0.mk hr3_0
 have HC3_0 := Aside0.mk hc3_0
 clear hr3_0 hc3_0
 have HB := Aside0.mk (Below.refl w.heap.size w)
 have H := h
 unfold casemateref06_Near.f at H
 clear h
 obtain ⟨t581, A5, H⟩ := uO H
 by_cases c6 : a3_2 = 0
 ·rw [if_pos c6] at H
  have c6b0 : (a3_2 == 0) = true := beq_iff_eq.mpr c6
  have c6b1 : (a3_2 != 0) = false := bne_eq_false_iff_eq.mpr c6
  clear c6
  have HC7 := Aside0.mk H
  clear H
  go_enter Try.func24, Try.ntmps24
  go_upto_region 4 with (first | ((with_reducible refine gate_dst (N := 4) rfl ?_); (try (refine gate_guard (by rfl) ?_; dsimp only)); refine uX 4 #[.int .i64 a0_0, .int .i64 a0_1, .int .i64 a0_2, .int .i64 a0_3, .int .i64 a0_4] 23 ?_; intro gb579 hg w8 hbox hb; have BK579 := uA hbox; have GW579 := uGe HB hg; have GE579 := uGe HB hg; replace HB := uBb HB hb; clear hg) | ((with_reducible refine gate_dst (N := 7) rfl ?_); (try (refine gate_guard (by rfl) ?_; dsimp only)); refine uX 7 #[.slice A3_0 l3_0.length c3_0, .int .i64 a3_1, .int .i64 a3_2] 39 ?_; intro gb580 hg w9 hbox hb; have BK580 := uA hbox; have GW580 := uGe HB hg; have GE580 := uGe HB hg; replace HB := uBb HB hb; have NB579_580 := uA (by rw [hg]; exact Nat.ne_of_lt (blk_lt (g := gb579) (o := .cells #[.int .i64 a0_0, .int .i64 a0_1, .int .i64 a0_2, .int .i64 a0_3, .int .i64 a0_4] 23 (0, 0)) (uK BK579.out)) : gb579 ≠ gb580); have NB580_579 := uA (by rw [hg]; exact Nat.ne_of_gt (blk_lt (g := gb579) (o := .cells #[.int .i64 a0_0, .int .i64 a0_1, .int .i64 a0_2, .int .i64 a0_3, .int .i64 a0_4] 23 (0, 0)) (uK BK579.out)) : gb580 ≠ gb579); replace BK579 := uKb BK579 hb; clear hg; have hnb10 := NB579_580.out; have hnc10 := NB580_579.out; obtain ⟨_, _, _, _, _, _, _, _, _, _⟩ := uZ BK579) | ((with_reducible refine gate_callee (f := 34) rfl ?_); refine uG (some 14) Try.func34 #[.agg #[.int .i64 a0_0, .int .i64 a0_1, .int .i64 a0_2, .int .i64 a0_3, .int .i64 a0_4], .slice A1 l1.length c1, .int .i64 a2] ?_; (with_reducible refine (casemateref06_sector.calls a0_0 a0_1 a0_2 a0_3 a0_4 (fun k_ => k_ < w.heap.size) _ _ l1 a2 t581 _ ?side1 A5.out).mono ?_); (case side1 => exact Kd.V_mk HC1.out (Kd.F_below (Kd.C_F (Kd.heap_int .u8) HR1.out) (uB HB.out))); rintro e w12 ⟨v582, rfl, ho0, hb⟩; refine ⟨_, rfl, ?_⟩; have HO583 := uA (Kd.V_lower (Kd.V_mono (ok' := fun k_ => k_ ≠ gb579 ∧ k_ ≠ gb580) ho0 (fun k_ hk_ => ⟨Or.elim hk_ (fun hs_ => fun e_ => Nat.not_le.2 hs_ (by rw [e_]; exact GW579.out)) (fun hn_ => (Kd.freshB (g := gb579) (o := .cells #[.int .i64 a0_0, .int .i64 a0_1, .int .i64 a0_2, .int .i64 a0_3, .int .i64 a0_4] 23 (0, 0)) (uK BK579.out) k_ hn_)), Or.elim hk_ (fun hs_ => fun e_ => Nat.not_le.2 hs_ (by rw [e_]; exact GW580.out)) (fun hn_ => (Kd.freshB (g := gb580) (o := .cells #[.slice A3_0 l3_0.length c3_0, .int .i64 a3_1, .int .i64 a3_2] 39 (0, 0)) (uK BK580.out) k_ hn_))⟩)) (below_size (uB HB.out))); replace BK579 := uKb BK579 hb; replace BK580 := uKb BK580 hb; replace HB := uBb HB hb; have hcz13_0 : w12.cell? ⟨gb580, 0, none⟩ = some (.slice A3_0 l3_0.length c3_0) := (blk_cell BK580.out 0).trans rfl; have hcz13_1 : w12.cell? ⟨gb580, 1, none⟩ = some (.int .i64 a3_1) := (blk_cell BK580.out 1).trans rfl; have hcz13_2 : w12.cell? ⟨gb580, 2, none⟩ = some (.int .i64 a3_2) := (blk_cell BK580.out 2).trans rfl; have hfz13_0 := blk_frozen BK580.out 0; have hfz13_1 := blk_frozen BK580.out 1; have hfz13_2 := blk_frozen BK580.out 2))
  (try simp only [Act.put, List.setIfInBounds_toArray, List.set_cons_zero, List.set_cons_succ])
  go_cut [49] (fun v49 wc => ∃ (kq : Nat) (x49_6 : Bool), v49 = .bool x49_6 ∧ Aside0 (casemateref06_Near.j0 kq t581 x49_6 a0_0 a0_1 a0_2 a0_3 a0_4 l3_0 a3_1 a3_2 = some r) ∧ Aside0 (kq ≤ k) ∧ Aside0 (Kd.V (Kd.int .u8) 5 wc w.heap.size (fun k_ => k_ ≠ gb579 ∧ k_ ≠ gb580) v582 t581) ∧ Aside0 (wc.heap[gb579]? = some (.cells #[.int .i64 a0_0, .int .i64 a0_1, .int .i64 a0_2, .int .i64 a0_3, .int .i64 a0_4] 23 (0, 0))) ∧ Aside0 (wc.heap[gb580]? = some (.cells #[(.slice A3_0 l3_0.length c3_0), .int .i64 a3_1, .int .i64 a3_2] 39 (0, 0))) ∧ Aside0 (Below w.heap.size w wc))
  case first =>
   have H := HC7.out
   clear HC7
   by_cases c14 : (l3_0.length : Int) = a0_3
   ·rw [if_pos c14] at H
    have c14b0 : ((l3_0.length : Int) == a0_3) = true := beq_iff_eq.mpr c14
    have c14b1 : ((l3_0.length : Int) != a0_3) = false := bne_eq_false_iff_eq.mpr c14
    clear c14
    (first | rw [c14b0] | (simp only [i64_w, i32_w]; rw [c14b0]) | skip)
    by_cases c15 : a3_1 < 0
    ·rw [if_pos c15] at H
     have c15b0 : decide (a3_1 < 0) = true := decide_eq_true c15
     clear c15
     have H' := Aside0.mk H
     clear H
     have hnb16 := NB580_579.out
     have hnc16 := NB579_580.out
     have hcz17_0 : w12.cell? ⟨gb580, 0, none⟩ = some (.slice A3_0 l3_0.length c3_0) := (blk_cell BK580.out 0).trans rfl
     have hcz17_1 : w12.cell? ⟨gb580, 1, none⟩ = some (.int .i64 a3_1) := (blk_cell BK580.out 1).trans rfl
     have hcz17_2 : w12.cell? ⟨gb580, 2, none⟩ = some (.int .i64 a3_2) := (blk_cell BK580.out 2).trans rfl
     have hfz17_0 := blk_frozen BK580.out 0
     have hfz17_1 := blk_frozen BK580.out 1
     have hfz17_2 := blk_frozen BK580.out 2
     obtain ⟨_, _, _, _, _, _, _, _, _, _⟩ := uZ BK579
     go_wp2
     go_meet
     case rel => exact ⟨_, (true), rfl, H', ⟨by omega⟩, ⟨uV HO583.out⟩, ⟨uK BK579.out⟩, ⟨uK BK580.out⟩, ⟨uB HB.out⟩⟩
    ·rw [if_neg c15] at H
     have c15b0 : decide (a3_1 < 0) = false := decide_eq_false c15
     clear c15
     have H' := Aside0.mk H
     clear H
     have hnb19 := NB580_579.out
     have hnc19 := NB579_580.out
     have hcz20_0 : w12.cell? ⟨gb580, 0, none⟩ = some (.slice A3_0 l3_0.length c3_0) := (blk_cell BK580.out 0).trans rfl
     have hcz20_1 : w12.cell? ⟨gb580, 1, none⟩ = some (.int .i64 a3_1) := (blk_cell BK580.out 1).trans rfl
     have hcz20_2 : w12.cell? ⟨gb580, 2, none⟩ = some (.int .i64 a3_2) := (blk_cell BK580.out 2).trans rfl
     have hfz20_0 := blk_frozen BK580.out 0
     have hfz20_1 := blk_frozen BK580.out 1
     have hfz20_2 := blk_frozen BK580.out 2
     obtain ⟨_, _, _, _, _, _, _, _, _, _⟩ := uZ BK579
     go_wp2
     go_meet
     case rel => exact ⟨_, (decide (a3_1 > a0_4)), rfl, H', ⟨by omega⟩, ⟨uV HO583.out⟩, ⟨uK BK579.out⟩, ⟨uK BK580.out⟩, ⟨uB HB.out⟩⟩
   ·rw [if_neg c14] at H
    have c14b0 : ((l3_0.length : Int) == a0_3) = false := beq_eq_false_iff_ne.mpr c14
    have c14b1 : ((l3_0.length : Int) != a0_3) = true := bne_iff_ne.mpr c14
    (first | rw [c14b0] | (simp only [i64_w, i32_w]; rw [c14b0]) | skip)
    have H' := Aside0.mk H
    clear H
    have hnb22 := NB580_579.out
    have hnc22 := NB579_580.out
    have hcz23_0 : w12.cell? ⟨gb580, 0, none⟩ = some (.slice A3_0 l3_0.length c3_0) := (blk_cell BK580.out 0).trans rfl
    have hcz23_1 : w12.cell? ⟨gb580, 1, none⟩ = some (.int .i64 a3_1) := (blk_cell BK580.out 1).trans rfl
    have hcz23_2 : w12.cell? ⟨gb580, 2, none⟩ = some (.int .i64 a3_2) := (blk_cell BK580.out 2).trans rfl
    have hfz23_0 := blk_frozen BK580.out 0
    have hfz23_1 := blk_frozen BK580.out 1
    have hfz23_2 := blk_frozen BK580.out 2
    obtain ⟨_, _, _, _, _, _, _, _, _, _⟩ := uZ BK579
    go_wp2
    go_meet
    case rel => exact ⟨_, (true), rfl, H', ⟨by omega⟩, ⟨uV HO583.out⟩, ⟨uK BK579.out⟩, ⟨uK BK580.out⟩, ⟨uB HB.out⟩⟩
  case rest =>
   clear HC7
   obtain ⟨kq, x49_6, rfl, HA, HJ6, HO_9, BK579, BK580, HB⟩ := hcut
   cases kq with
   | zero => exact absurd HA.out (by simp [casemateref06_Near.j0])
   | succ kj6 =>
    have H := HA.out
    clear HA
    simp only [casemateref06_Near.j0] at H
    by_cases c25 : x49_6 = true
    ·subst c25
     replace H := uI rfl H
     obtain rfl := Option.some.inj H
     go_wp2
     go_ret
     exact ⟨rfl, uB HB.out⟩
    ·replace c25 := Bool.eq_false_iff.mpr c25
     subst c25
     replace H := uJ uN0 H
     by_cases c26 : 0 ≤ a0_3
     ·rw [if_pos c26] at H
      have c26b0 := eq_true c26
      have c26b1 : decide (0 ≤ a0_3) = true := decide_eq_true c26
      clear c26
      by_cases c27 : a0_3 ≤ (t581.length : Int)
      ·rw [if_pos c27] at H
       have c27b0 := eq_true c27
       have c27b1 : decide (a0_3 ≤ (t581.length : Int)) = true := decide_eq_true c27
       clear c27
       obtain ⟨y584, Ny584⟩ := uEA ((t581.take (a0_3 : Int).toNat) : List Int)
       rw [← Ny584.out] at H
       have c28b0 := eq_true (of_decide_eq_true (by first | (with_reducible assumption) | assumption) : 0 ≤ a0_3)
       have c29b0 := eq_true (of_decide_eq_true (by first | (with_reducible assumption) | assumption) : a0_3 ≤ (t581.length : Int))
       obtain ⟨y589, Ny589⟩ := uEA ((t581.drop (a0_3 : Int).toNat) : List Int)
       rw [← Ny589.out] at H
       obtain ⟨t594, A30, H⟩ := uO H
       obtain ⟨t597, A31, H⟩ := uO H
       obtain ⟨t600, A32, H⟩ := uO H
       obtain ⟨t603, A33, H⟩ := uO H
       obtain rfl := Option.some.inj H
       try go_wp2
       replace HO_9 := uA (Kd.V_drew HO_9.out); replace BK579 := uA (blk_drew BK579.out); replace BK580 := uA (blk_drew BK580.out); replace HB := uA (below_drew1 HB.out)
       obtain ⟨Ao36, co36, eo36⟩ := Kd.V_slice HO_9.out
       (first | subst eo36 | (injection eo36 with f1_ f2_ f3_; have f4_ := f1_.symm; have f5_ := f3_.symm; clear f1_ f2_ f3_; subst f4_; subst f5_))
       have q35 : (a0_3 : Int) ≤ ((t581.length : Int) : Int) := of_decide_eq_true (by first | (with_reducible assumption) | assumption)
       obtain ⟨i035, hi035, _, hsz35, _⟩ := info_parts info5
       have hroom35 : t581.length ≤ co36 := (Kd.V_reads' HO_9.out).2.1
       have hC35 : Kd.F (Kd.int .u8) _ _ Ao36 t581.length t581 := (Kd.V_at (base := w.heap.size) HO_9.out).2.2
       have hcut35 := cut_to (P := Try.prog) 26 5 .i64 Try.underlying26 hi035 Ao36 t581.length co36 a0_3 (of_decide_eq_true (by first | (with_reducible assumption) | assumption)) q35 hroom35
       have hr35 := Kd.F_take (m := (a0_3 : Int).toNat) hC35 (by omega)
       have hy35 : y584.length = (a0_3 : Int).toNat := (by rw [Ny584.out, List.length_take]; omega)
       rw [← Ny584.out] at hr35
       rw [← hy35] at hcut35
       have HO588 := Aside0.mk (show Kd.V (Kd.int .u8) 5 _ w.heap.size _ (.slice Ao36 y584.length co36) y584 from Kd.V_mk (by omega) hr35)
       have HC588 := Aside0.mk (show y584.length ≤ co36 from by omega)
       clear hr35 hC35 hroom35 hi035 hsz35
       have KY35 := Aside0.mk hy35
       clear hy35
       replace q35 := eq_true q35
       have q37 : (a0_3 : Int) ≤ ((t581.length : Int) : Int) := of_decide_eq_true (by first | (with_reducible assumption) | assumption)
       obtain ⟨i037, hi037, _, hsz37, _⟩ := info_parts info5
       have hroom37 : t581.length ≤ co36 := (Kd.V_reads' HO_9.out).2.1
       have hC37 : Kd.F (Kd.int .u8) _ _ Ao36 t581.length t581 := (Kd.V_at (base := w.heap.size) HO_9.out).2.2
       have q037 : (0 : Int) ≤ (a0_3 : Int) := of_decide_eq_true (by first | (with_reducible assumption) | assumption)
       have hcut37 := cut_from (P := Try.prog) 26 5 .i64 Try.underlying26 hi037 1 hsz37 Ao36 t581.length co36 a0_3 q037 q37
       have hr37 := Kd.F_cut (m := (a0_3 : Int).toNat) (c := co36) hC37 (by omega) hroom37
       obtain ⟨A37, hA37⟩ : ∃ A1, A1 = (if co36 = (a0_3 : Int).toNat then Ao36 else (Ao36 : Option Addr).map (·.add ((a0_3 : Int).toNat * 1))) := ⟨_, rfl⟩
       obtain ⟨c37, hc37⟩ : ∃ c1, c1 = co36 - (a0_3 : Int).toNat := ⟨_, rfl⟩
       have hy37 : y589.length = t581.length - (a0_3 : Int).toNat := (by rw [Ny589.out, List.length_drop] <;> omega)
       rw [show (t581).drop (a0_3 : Int).toNat = y589 from Ny589.out.symm] at hr37
       replace hr37 : Kd.F (Kd.int .u8) _ _ A37 y589.length y589 := (by rw [hA37]; exact hr37)
       rw [← hy37, ← hA37, ← hc37] at hcut37
       have HO593 := Aside0.mk (show Kd.V (Kd.int .u8) 5 _ w.heap.size _ (.slice A37 y589.length c37) y589 from Kd.V_mk (by rw [hy37, hc37]; exact Nat.sub_le_sub_right hroom37 _) hr37)
       have HC593 := Aside0.mk (show y589.length ≤ c37 from by rw [hy37, hc37]; exact Nat.sub_le_sub_right hroom37 _)
       clear hr37 hC37 hroom37 hi037 hsz37 hc37
       have KY37 := Aside0.mk hy37
       have KA37 := Aside0.mk hA37
       clear hy37 hA37
       replace q37 := eq_true q37
       refine start_ (n := 12) (S := fun w' => w'.cell? ⟨gb579, 0, none⟩ = some (.int .i64 a0_0) ∧ w'.cell? ⟨gb579, 1, none⟩ = some (.int .i64 a0_1) ∧ w'.cell? ⟨gb579, 2, none⟩ = some (.int .i64 a0_2) ∧ w'.cell? ⟨gb579, 3, none⟩ = some (.int .i64 a0_3) ∧ w'.cell? ⟨gb579, 4, none⟩ = some (.int .i64 a0_4)) (ds := []) #[false, false, false, false, false, false, false, false, false, false, false, false] (by kernel_rfl) rfl rfl ⟨(blk_cell BK579.out 0).trans rfl, (blk_cell BK579.out 1).trans rfl, (blk_cell BK579.out 2).trans rfl, (blk_cell BK579.out 3).trans rfl, (blk_cell BK579.out 4).trans rfl⟩ (fun hHeld => ?_); refine with_tabW casemateref06_Near.tab6 casemateref06_Near.bits6 (fun HT_ HW_ => ?_)
       generalize wc.drew = w34 at HO_9 BK579 BK580 HB HO588 HO593 hHeld ⊢
       refine uP HT_ 0 (some 50) (lb 12 1) ?_
       refine uP HT_ 2 (some 52) (lb 12 5) ?_
       refine uP HT_ 3 (some 53) (lb 12 13) ?_
       refine uP HT_ 6 (some 56) (lb 12 77) ?_
       refine uP HT_ 7 (some 57) (lb 12 205) ?_
       refine uT HT_ HW_ 1 (some 51) (lb 12 207) rfl hHeld ?_ (by rintro w' ⟨s0, s1, s2, s3, s4⟩; go_simp; with_reducible rfl)
       refine uT HT_ HW_ 4 (some 54) (lb 12 223) rfl hHeld ?_ (by rintro w' ⟨s0, s1, s2, s3, s4⟩; go_simp; with_reducible rfl)
       refine uP HT_ 5 (some 55) (lb 12 255) ?_
       refine uT HT_ HW_ 8 (some 58) (lb 12 511) rfl hHeld ?_ (by rintro w' ⟨s0, s1, s2, s3, s4⟩; go_simp; with_reducible rfl)
       refine uP HT_ 9 (some 59) (lb 12 1023) ?_
       refine one_ (i := 10) (N := some 60) #[true, true, true, true, true, true, true, true, true, true, true, false] rfl rfl (one_of HT_.out (by kernel_rfl)) (by decide) (fun K hK => ?_)
       refine goes_ Try.func35 (by kernel_rfl) rfl #[.int .i64 a0_4, .slice Ao36 y584.length co36, .slice A37 y589.length c37] (by rfl) rfl rfl (by (try simp only [List.map_toArray, List.map_cons, List.map_nil]); first | done | rfl | (simp only [List.length_drop, List.length_take]; rfl)) ?_
       with_reducible refine (casemateref05_Word.calls kj6 a0_4 _ _ y584 _ _ y589 t594 _ ?side1 ?side2 ?side3 ?side4 A30.out).mono ?_
       (case side1 => exact uC (Kd.V_reads' HO588.out).2.2)
       (case side2 => exact (Kd.V_reads' HO588.out).2.1)
       (case side3 => exact uC (Kd.V_reads' HO593.out).2.2)
       (case side4 => exact (Kd.V_reads' HO593.out).2.1)
       rintro e w38 ⟨v595, rfl, ho0, hb⟩
       refine ⟨_, rfl, ?_⟩
       replace HO_9 := uA (Kd.V_elder' (uV HO_9.out) (Kd.R_base ho0) hb); replace HO588 := uA (Kd.V_elder' (uV HO588.out) (Kd.R_base ho0) hb); replace HO593 := uA (Kd.V_elder' (uV HO593.out) (Kd.R_base ho0) hb); have HO596 := uA (Kd.R_lower ho0 (below_size (uB HB.out))); replace BK579 := uKb BK579 hb; replace BK580 := uKb BK580 hb; replace HB := uBb HB hb
       refine hK.out _ _ ⟨(blk_cell BK579.out 0).trans rfl, (blk_cell BK579.out 1).trans rfl, (blk_cell BK579.out 2).trans rfl, (blk_cell BK579.out 3).trans rfl, (blk_cell BK579.out 4).trans rfl⟩ (fun hHeld => ?_)
       clear hK K
       refine uN (some 60) _ ?_
       refine uP HT_ 11 (some 10) (lb 12 4095) ?_
       refine done_ (done_of HT_.out (by kernel_rfl)) ?_
       try go_wp2
       replace HO_9 := uA (Kd.V_drew HO_9.out); replace HO588 := uA (Kd.V_drew HO588.out); replace HO593 := uA (Kd.V_drew HO593.out); replace HO596 := uA (Kd.R_drew HO596.out); replace BK579 := uA (blk_drew BK579.out); replace BK580 := uA (blk_drew BK580.out); replace HB := uA (below_drew1 HB.out)
       refine start_ (n := 16) (S := fun w' => w'.cell? ⟨gb579, 0, none⟩ = some (.int .i64 a0_0) ∧ w'.cell? ⟨gb579, 1, none⟩ = some (.int .i64 a0_1) ∧ w'.cell? ⟨gb579, 2, none⟩ = some (.int .i64 a0_2) ∧ w'.cell? ⟨gb579, 3, none⟩ = some (.int .i64 a0_3) ∧ w'.cell? ⟨gb579, 4, none⟩ = some (.int .i64 a0_4) ∧ w'.cell? ⟨gb580, 0, none⟩ = some (.slice A3_0 l3_0.length c3_0) ∧ w'.cell? ⟨gb580, 1, none⟩ = some (.int .i64 a3_1) ∧ w'.cell? ⟨gb580, 2, none⟩ = some (.int .i64 a3_2)) (ds := []) #[false, false, false, false, false, false, false, false, false, false, false, false, false, false, false, false] (by kernel_rfl) rfl rfl ⟨(blk_cell BK579.out 0).trans rfl, (blk_cell BK579.out 1).trans rfl, (blk_cell BK579.out 2).trans rfl, (blk_cell BK579.out 3).trans rfl, (blk_cell BK579.out 4).trans rfl, (blk_cell BK580.out 0).trans rfl, (blk_cell BK580.out 1).trans rfl, (blk_cell BK580.out 2).trans rfl⟩ (fun hHeld => ?_); refine with_tabW casemateref06_Near.tab7 casemateref06_Near.bits7 (fun HT_ HW_ => ?_)
       generalize w38.drew = w39 at HO_9 HO588 HO593 HO596 BK579 BK580 HB hHeld ⊢
       refine uP HT_ 0 (some 61) (lb 16 1) ?_
       refine uP HT_ 1 (some 62) (lb 16 3) ?_
       refine uP HT_ 3 (some 64) (lb 16 11) ?_
       refine uP HT_ 5 (some 66) (lb 16 43) ?_
       refine uP HT_ 7 (some 68) (lb 16 171) ?_
       refine uP HT_ 12 (some 73) (lb 16 4267) ?_
       refine uT HT_ HW_ 2 (some 63) (lb 16 4271) rfl hHeld ?_ (by rintro w' ⟨s0, s1, s2, s3, s4, s5, s6, s7⟩; go_simp; with_reducible rfl)
       refine uT HT_ HW_ 4 (some 65) (lb 16 4287) rfl hHeld ?_ (by rintro w' ⟨s0, s1, s2, s3, s4, s5, s6, s7⟩; go_simp; with_reducible rfl)
       refine uT HT_ HW_ 6 (some 67) (lb 16 4351) rfl hHeld ?_ (by rintro w' ⟨s0, s1, s2, s3, s4, s5, s6, s7⟩; go_simp; with_reducible rfl)
       refine uT HT_ HW_ 8 (some 69) (lb 16 4607) rfl hHeld ?_ (by rintro w' ⟨s0, s1, s2, s3, s4, s5, s6, s7⟩; go_simp; with_reducible rfl)
       refine uT HT_ HW_ 13 (some 74) (lb 16 12799) rfl hHeld ?_ (by rintro w' ⟨s0, s1, s2, s3, s4, s5, s6, s7⟩; go_simp; with_reducible rfl)
       refine one_ (i := 9) (N := some 70) #[true, true, true, true, true, true, true, true, true, true, false, false, true, true, false, false] rfl rfl (one_of HT_.out (by kernel_rfl)) (by decide) (fun K hK => ?_)
       refine goes_ Try.func32 (by kernel_rfl) rfl #[.int .i64 a0_4, .slice A3_0 l3_0.length c3_0] (by rfl) rfl rfl (by (try simp only [List.map_toArray, List.map_cons, List.map_nil]); first | done | rfl | (simp only [List.length_drop, List.length_take]; rfl)) ?_
       with_reducible refine (casemateref05_Encode.calls kj6 a0_4 _ _ l3_0 t597 _ ?side1 ?side2 A31.out).mono ?_
       (case side1 => exact uC (Kd.C_below HR3_0.out HB.out))
       (case side2 => exact HC3_0.out)
       rintro e w40 ⟨v598, rfl, ho0, hb⟩
       refine ⟨_, rfl, ?_⟩
       replace HO_9 := uA (Kd.V_elder' (uV HO_9.out) (Kd.R_base ho0) hb); replace HO588 := uA (Kd.V_elder' (uV HO588.out) (Kd.R_base ho0) hb); replace HO593 := uA (Kd.V_elder' (uV HO593.out) (Kd.R_base ho0) hb); replace HO596 := uRb HO596 hb; have HO599 := uA (Kd.R_lower ho0 (below_size (uB HB.out))); replace BK579 := uKb BK579 hb; replace BK580 := uKb BK580 hb; replace HB := uBb HB hb
       obtain ⟨Ao41, co41, eo41⟩ := Kd.R_slice HO599.out
       (first | subst eo41 | (injection eo41 with f1_ f2_ f3_; have f4_ := f1_.symm; have f5_ := f3_.symm; clear f1_ f2_ f3_; subst f4_; subst f5_))
       refine hK.out _ _ ⟨(blk_cell BK579.out 0).trans rfl, (blk_cell BK579.out 1).trans rfl, (blk_cell BK579.out 2).trans rfl, (blk_cell BK579.out 3).trans rfl, (blk_cell BK579.out 4).trans rfl, (blk_cell BK580.out 0).trans rfl, (blk_cell BK580.out 1).trans rfl, (blk_cell BK580.out 2).trans rfl⟩ (fun hHeld => ?_)
       clear hK K
       refine uN (some 70) _ ?_
       refine one_ (i := 10) (N := some 71) #[true, true, true, true, true, true, true, true, true, true, true, false, true, true, false, false] rfl rfl (one_of HT_.out (by kernel_rfl)) (by decide) (fun K hK => ?_)
       refine goes_ Try.func35 (by kernel_rfl) rfl #[.int .i64 a0_4, .slice A3_0 l3_0.length c3_0, .slice Ao41 t597.length co41] (by rfl) rfl rfl (by (try simp only [List.map_toArray, List.map_cons, List.map_nil]); first | done | rfl | (simp only [List.length_drop, List.length_take]; rfl)) ?_
       with_reducible refine (casemateref05_Word.calls kj6 a0_4 _ _ l3_0 _ _ t597 t600 _ ?side1 ?side2 ?side3 ?side4 A32.out).mono ?_
       (case side1 => exact uC (Kd.C_below HR3_0.out HB.out))
       (case side2 => exact HC3_0.out)
       (case side3 => exact uC (Kd.R_reads' HO599.out).2.2)
       (case side4 => exact (Kd.R_reads' HO599.out).2.1)
       rintro e w42 ⟨v601, rfl, ho0, hb⟩
       refine ⟨_, rfl, ?_⟩
       replace HO_9 := uA (Kd.V_elder' (uV HO_9.out) (Kd.R_base ho0) hb); replace HO588 := uA (Kd.V_elder' (uV HO588.out) (Kd.R_base ho0) hb); replace HO593 := uA (Kd.V_elder' (uV HO593.out) (Kd.R_base ho0) hb); replace HO599 := uRb HO599 hb; have HO602 := uA (Kd.R_lower (Kd.R_new' ho0 (Kd.R_lt (uR HO596.out))) (below_size (uB HB.out))); replace HO596 := uA (Kd.R_elder' (uR HO596.out) (Kd.R_base ho0) hb); replace BK579 := uKb BK579 hb; replace BK580 := uKb BK580 hb; replace HB := uBb HB hb
       obtain ⟨Ao43, co43, eo43⟩ := Kd.R_slice HO596.out
       (first | subst eo43 | (injection eo43 with f1_ f2_ f3_; have f4_ := f1_.symm; have f5_ := f3_.symm; clear f1_ f2_ f3_; subst f4_; subst f5_))
       obtain ⟨Ao44, co44, eo44⟩ := Kd.R_slice HO602.out
       (first | subst eo44 | (injection eo44 with f1_ f2_ f3_; have f4_ := f1_.symm; have f5_ := f3_.symm; clear f1_ f2_ f3_; subst f4_; subst f5_))
       refine hK.out _ _ ⟨(blk_cell BK579.out 0).trans rfl, (blk_cell BK579.out 1).trans rfl, (blk_cell BK579.out 2).trans rfl, (blk_cell BK579.out 3).trans rfl, (blk_cell BK579.out 4).trans rfl, (blk_cell BK580.out 0).trans rfl, (blk_cell BK580.out 1).trans rfl, (blk_cell BK580.out 2).trans rfl⟩ (fun hHeld => ?_)
       clear hK K
       refine uN (some 71) _ ?_
       refine one_ (i := 11) (N := some 72) #[true, true, true, true, true, true, true, true, true, true, true, true, true, true, false, false] rfl rfl (one_of HT_.out (by kernel_rfl)) (by decide) (fun K hK => ?_)
       refine goes_ Try.func36 (by kernel_rfl) rfl #[.slice Ao43 t594.length co43, .slice Ao44 t600.length co44] (by rfl) rfl rfl (by (try simp only [List.map_toArray, List.map_cons, List.map_nil]); first | done | rfl | (simp only [List.length_drop, List.length_take]; rfl)) ?_
       with_reducible refine (casemateref05_Apart.calls kj6 _ _ t594 _ _ t600 t603 _ ?side1 ?side2 ?side3 ?side4 A33.out).mono ?_
       (case side1 => exact uC (Kd.R_reads' HO596.out).2.2)
       (case side2 => exact (Kd.R_reads' HO596.out).2.1)
       (case side3 => exact uC (Kd.R_reads' HO602.out).2.2)
       (case side4 => exact (Kd.R_reads' HO602.out).2.1)
       rintro e w' ⟨rfl, ⟨nd, rfl⟩⟩
       refine ⟨_, rfl, ?_⟩
       refine hK.out _ _ ⟨(blk_cell BK579.out 0).trans rfl, (blk_cell BK579.out 1).trans rfl, (blk_cell BK579.out 2).trans rfl, (blk_cell BK579.out 3).trans rfl, (blk_cell BK579.out 4).trans rfl, (blk_cell BK580.out 0).trans rfl, (blk_cell BK580.out 1).trans rfl, (blk_cell BK580.out 2).trans rfl⟩ (fun hHeld => ?_)
       clear hK K
       refine uN (some 72) _ ?_
       refine uP HT_ 14 (some 75) (lb 16 32767) ?_
       refine uP HT_ 15 (some 8) (lb 16 65535) ?_
       refine done_ (done_of HT_.out (by kernel_rfl)) ?_
       try go_wp2
       go_ret
       exact ⟨rfl, uB HB.out⟩
      ·rw [if_neg c27] at H
       cases H
     ·rw [if_neg c26] at H
      cases H
 ·rw [if_neg c6] at H
  have c6b0 : (a3_2 == 0) = false := beq_eq_false_iff_ne.mpr c6
  have c6b1 : (a3_2 != 0) = true := bne_iff_ne.mpr c6
  by_cases c45 : a3_2 = 50
  ·rw [if_pos c45] at H
   have c45b0 : (a3_2 == 50) = true := beq_iff_eq.mpr c45
   have c45b1 : (a3_2 != 50) = false := bne_eq_false_iff_eq.mpr c45
   clear c45
   by_cases c46 : (l3_0.length : Int) = 0
   ·rw [if_pos c46] at H
    have c46b0 : ((l3_0.length : Int) == 0) = true := beq_iff_eq.mpr c46
    have c46b1 : ((l3_0.length : Int) != 0) = false := bne_eq_false_iff_eq.mpr c46
    clear c46
    obtain rfl := Option.some.inj H
    go_enter Try.func24, Try.ntmps24
    go_wp2_with (first | ((with_reducible refine gate_dst (N := 4) rfl ?_); (try (refine gate_guard (by rfl) ?_; dsimp only)); refine uX 4 #[.int .i64 a0_0, .int .i64 a0_1, .int .i64 a0_2, .int .i64 a0_3, .int .i64 a0_4] 23 ?_; intro gb579 hg w47 hbox hb; have BK579 := uA hbox; have GW579 := uGe HB hg; have GE579 := uGe HB hg; replace HB := uBb HB hb; clear hg) | ((with_reducible refine gate_dst (N := 7) rfl ?_); (try (refine gate_guard (by rfl) ?_; dsimp only)); refine uX 7 #[.slice A3_0 l3_0.length c3_0, .int .i64 a3_1, .int .i64 a3_2] 39 ?_; intro gb580 hg w48 hbox hb; have BK580 := uA hbox; have GW580 := uGe HB hg; have GE580 := uGe HB hg; replace HB := uBb HB hb; have NB579_580 := uA (by rw [hg]; exact Nat.ne_of_lt (blk_lt (g := gb579) (o := .cells #[.int .i64 a0_0, .int .i64 a0_1, .int .i64 a0_2, .int .i64 a0_3, .int .i64 a0_4] 23 (0, 0)) (uK BK579.out)) : gb579 ≠ gb580); have NB580_579 := uA (by rw [hg]; exact Nat.ne_of_gt (blk_lt (g := gb579) (o := .cells #[.int .i64 a0_0, .int .i64 a0_1, .int .i64 a0_2, .int .i64 a0_3, .int .i64 a0_4] 23 (0, 0)) (uK BK579.out)) : gb580 ≠ gb579); replace BK579 := uKb BK579 hb; clear hg; have hnb49 := NB579_580.out; have hnc49 := NB580_579.out; obtain ⟨_, _, _, _, _, _, _, _, _, _⟩ := uZ BK579) | ((with_reducible refine gate_callee (f := 34) rfl ?_); refine uG (some 14) Try.func34 #[.agg #[.int .i64 a0_0, .int .i64 a0_1, .int .i64 a0_2, .int .i64 a0_3, .int .i64 a0_4], .slice A1 l1.length c1, .int .i64 a2] ?_; (with_reducible refine (casemateref06_sector.calls a0_0 a0_1 a0_2 a0_3 a0_4 (fun k_ => k_ < w.heap.size) _ _ l1 a2 t581 _ ?side1 A5.out).mono ?_); (case side1 => exact Kd.V_mk HC1.out (Kd.F_below (Kd.C_F (Kd.heap_int .u8) HR1.out) (uB HB.out))); rintro e w51 ⟨v582, rfl, ho0, hb⟩; refine ⟨_, rfl, ?_⟩; have HO583 := uA (Kd.V_lower (Kd.V_mono (ok' := fun k_ => k_ ≠ gb579 ∧ k_ ≠ gb580) ho0 (fun k_ hk_ => ⟨Or.elim hk_ (fun hs_ => fun e_ => Nat.not_le.2 hs_ (by rw [e_]; exact GW579.out)) (fun hn_ => (Kd.freshB (g := gb579) (o := .cells #[.int .i64 a0_0, .int .i64 a0_1, .int .i64 a0_2, .int .i64 a0_3, .int .i64 a0_4] 23 (0, 0)) (uK BK579.out) k_ hn_)), Or.elim hk_ (fun hs_ => fun e_ => Nat.not_le.2 hs_ (by rw [e_]; exact GW580.out)) (fun hn_ => (Kd.freshB (g := gb580) (o := .cells #[.slice A3_0 l3_0.length c3_0, .int .i64 a3_1, .int .i64 a3_2] 39 (0, 0)) (uK BK580.out) k_ hn_))⟩)) (below_size (uB HB.out))); replace BK579 := uKb BK579 hb; replace BK580 := uKb BK580 hb; replace HB := uBb HB hb; have hcz52_0 : w51.cell? ⟨gb580, 0, none⟩ = some (.slice A3_0 l3_0.length c3_0) := (blk_cell BK580.out 0).trans rfl; have hcz52_1 : w51.cell? ⟨gb580, 1, none⟩ = some (.int .i64 a3_1) := (blk_cell BK580.out 1).trans rfl; have hcz52_2 : w51.cell? ⟨gb580, 2, none⟩ = some (.int .i64 a3_2) := (blk_cell BK580.out 2).trans rfl; have hfz52_0 := blk_frozen BK580.out 0; have hfz52_1 := blk_frozen BK580.out 1; have hfz52_2 := blk_frozen BK580.out 2))
    go_ret
    exact ⟨rfl, uB HB.out⟩
   ·rw [if_neg c46] at H
    have c46b0 : ((l3_0.length : Int) == 0) = false := beq_eq_false_iff_ne.mpr c46
    have c46b1 : ((l3_0.length : Int) != 0) = true := bne_iff_ne.mpr c46
    have c46b2 : ¬ (l3_0 = []) := fun h_ => c46 (by rw [h_]; rfl)
    obtain rfl := Option.some.inj H
    go_enter Try.func24, Try.ntmps24
    go_wp2_with (first | ((with_reducible refine gate_dst (N := 4) rfl ?_); (try (refine gate_guard (by rfl) ?_; dsimp only)); refine uX 4 #[.int .i64 a0_0, .int .i64 a0_1, .int .i64 a0_2, .int .i64 a0_3, .int .i64 a0_4] 23 ?_; intro gb579 hg w53 hbox hb; have BK579 := uA hbox; have GW579 := uGe HB hg; have GE579 := uGe HB hg; replace HB := uBb HB hb; clear hg) | ((with_reducible refine gate_dst (N := 7) rfl ?_); (try (refine gate_guard (by rfl) ?_; dsimp only)); refine uX 7 #[.slice A3_0 l3_0.length c3_0, .int .i64 a3_1, .int .i64 a3_2] 39 ?_; intro gb580 hg w54 hbox hb; have BK580 := uA hbox; have GW580 := uGe HB hg; have GE580 := uGe HB hg; replace HB := uBb HB hb; have NB579_580 := uA (by rw [hg]; exact Nat.ne_of_lt (blk_lt (g := gb579) (o := .cells #[.int .i64 a0_0, .int .i64 a0_1, .int .i64 a0_2, .int .i64 a0_3, .int .i64 a0_4] 23 (0, 0)) (uK BK579.out)) : gb579 ≠ gb580); have NB580_579 := uA (by rw [hg]; exact Nat.ne_of_gt (blk_lt (g := gb579) (o := .cells #[.int .i64 a0_0, .int .i64 a0_1, .int .i64 a0_2, .int .i64 a0_3, .int .i64 a0_4] 23 (0, 0)) (uK BK579.out)) : gb580 ≠ gb579); replace BK579 := uKb BK579 hb; clear hg; have hnb55 := NB579_580.out; have hnc55 := NB580_579.out; obtain ⟨_, _, _, _, _, _, _, _, _, _⟩ := uZ BK579) | ((with_reducible refine gate_callee (f := 34) rfl ?_); refine uG (some 14) Try.func34 #[.agg #[.int .i64 a0_0, .int .i64 a0_1, .int .i64 a0_2, .int .i64 a0_3, .int .i64 a0_4], .slice A1 l1.length c1, .int .i64 a2] ?_; (with_reducible refine (casemateref06_sector.calls a0_0 a0_1 a0_2 a0_3 a0_4 (fun k_ => k_ < w.heap.size) _ _ l1 a2 t581 _ ?side1 A5.out).mono ?_); (case side1 => exact Kd.V_mk HC1.out (Kd.F_below (Kd.C_F (Kd.heap_int .u8) HR1.out) (uB HB.out))); rintro e w57 ⟨v582, rfl, ho0, hb⟩; refine ⟨_, rfl, ?_⟩; have HO583 := uA (Kd.V_lower (Kd.V_mono (ok' := fun k_ => k_ ≠ gb579 ∧ k_ ≠ gb580) ho0 (fun k_ hk_ => ⟨Or.elim hk_ (fun hs_ => fun e_ => Nat.not_le.2 hs_ (by rw [e_]; exact GW579.out)) (fun hn_ => (Kd.freshB (g := gb579) (o := .cells #[.int .i64 a0_0, .int .i64 a0_1, .int .i64 a0_2, .int .i64 a0_3, .int .i64 a0_4] 23 (0, 0)) (uK BK579.out) k_ hn_)), Or.elim hk_ (fun hs_ => fun e_ => Nat.not_le.2 hs_ (by rw [e_]; exact GW580.out)) (fun hn_ => (Kd.freshB (g := gb580) (o := .cells #[.slice A3_0 l3_0.length c3_0, .int .i64 a3_1, .int .i64 a3_2] 39 (0, 0)) (uK BK580.out) k_ hn_))⟩)) (below_size (uB HB.out))); replace BK579 := uKb BK579 hb; replace BK580 := uKb BK580 hb; replace HB := uBb HB hb; have hcz58_0 : w57.cell? ⟨gb580, 0, none⟩ = some (.slice A3_0 l3_0.length c3_0) := (blk_cell BK580.out 0).trans rfl; have hcz58_1 : w57.cell? ⟨gb580, 1, none⟩ = some (.int .i64 a3_1) := (blk_cell BK580.out 1).trans rfl; have hcz58_2 : w57.cell? ⟨gb580, 2, none⟩ = some (.int .i64 a3_2) := (blk_cell BK580.out 2).trans rfl; have hfz58_0 := blk_frozen BK580.out 0; have hfz58_1 := blk_frozen BK580.out 1; have hfz58_2 := blk_frozen BK580.out 2))
    go_ret
    exact ⟨rfl, uB HB.out⟩
  ·rw [if_neg c45] at H
   have c45b0 : (a3_2 == 50) = false := beq_eq_false_iff_ne.mpr c45
   have c45b1 : (a3_2 != 50) = true := bne_iff_ne.mpr c45
   obtain rfl := Option.some.inj H
   go_enter Try.func24, Try.ntmps24
   go_wp2_with (first | ((with_reducible refine gate_dst (N := 4) rfl ?_); (try (refine gate_guard (by rfl) ?_; dsimp only)); refine uX 4 #[.int .i64 a0_0, .int .i64 a0_1, .int .i64 a0_2, .int .i64 a0_3, .int .i64 a0_4] 23 ?_; intro gb579 hg w59 hbox hb; have BK579 := uA hbox; have GW579 := uGe HB hg; have GE579 := uGe HB hg; replace HB := uBb HB hb; clear hg) | ((with_reducible refine gate_dst (N := 7) rfl ?_); (try (refine gate_guard (by rfl) ?_; dsimp only)); refine uX 7 #[.slice A3_0 l3_0.length c3_0, .int .i64 a3_1, .int .i64 a3_2] 39 ?_; intro gb580 hg w60 hbox hb; have BK580 := uA hbox; have GW580 := uGe HB hg; have GE580 := uGe HB hg; replace HB := uBb HB hb; have NB579_580 := uA (by rw [hg]; exact Nat.ne_of_lt (blk_lt (g := gb579) (o := .cells #[.int .i64 a0_0, .int .i64 a0_1, .int .i64 a0_2, .int .i64 a0_3, .int .i64 a0_4] 23 (0, 0)) (uK BK579.out)) : gb579 ≠ gb580); have NB580_579 := uA (by rw [hg]; exact Nat.ne_of_gt (blk_lt (g := gb579) (o := .cells #[.int .i64 a0_0, .int .i64 a0_1, .int .i64 a0_2, .int .i64 a0_3, .int .i64 a0_4] 23 (0, 0)) (uK BK579.out)) : gb580 ≠ gb579); replace BK579 := uKb BK579 hb; clear hg; have hnb61 := NB579_580.out; have hnc61 := NB580_579.out; obtain ⟨_, _, _, _, _, _, _, _, _, _⟩ := uZ BK579) | ((with_reducible refine gate_callee (f := 34) rfl ?_); refine uG (some 14) Try.func34 #[.agg #[.int .i64 a0_0, .int .i64 a0_1, .int .i64 a0_2, .int .i64 a0_3, .int .i64 a0_4], .slice A1 l1.length c1, .int .i64 a2] ?_; (with_reducible refine (casemateref06_sector.calls a0_0 a0_1 a0_2 a0_3 a0_4 (fun k_ => k_ < w.heap.size) _ _ l1 a2 t581 _ ?side1 A5.out).mono ?_); (case side1 => exact Kd.V_mk HC1.out (Kd.F_below (Kd.C_F (Kd.heap_int .u8) HR1.out) (uB HB.out))); rintro e w63 ⟨v582, rfl, ho0, hb⟩; refine ⟨_, rfl, ?_⟩; have HO583 := uA (Kd.V_lower (Kd.V_mono (ok' := fun k_ => k_ ≠ gb579 ∧ k_ ≠ gb580) ho0 (fun k_ hk_ => ⟨Or.elim hk_ (fun hs_ => fun e_ => Nat.not_le.2 hs_ (by rw [e_]; exact GW579.out)) (fun hn_ => (Kd.freshB (g := gb579) (o := .cells #[.int .i64 a0_0, .int .i64 a0_1, .int .i64 a0_2, .int .i64 a0_3, .int .i64 a0_4] 23 (0, 0)) (uK BK579.out) k_ hn_)), Or.elim hk_ (fun hs_ => fun e_ => Nat.not_le.2 hs_ (by rw [e_]; exact GW580.out)) (fun hn_ => (Kd.freshB (g := gb580) (o := .cells #[.slice A3_0 l3_0.length c3_0, .int .i64 a3_1, .int .i64 a3_2] 39 (0, 0)) (uK BK580.out) k_ hn_))⟩)) (below_size (uB HB.out))); replace BK579 := uKb BK579 hb; replace BK580 := uKb BK580 hb; replace HB := uBb HB hb; have hcz64_0 : w63.cell? ⟨gb580, 0, none⟩ = some (.slice A3_0 l3_0.length c3_0) := (blk_cell BK580.out 0).trans rfl; have hcz64_1 : w63.cell? ⟨gb580, 1, none⟩ = some (.int .i64 a3_1) := (blk_cell BK580.out 1).trans rfl; have hcz64_2 : w63.cell? ⟨gb580, 2, none⟩ = some (.int .i64 a3_2) := (blk_cell BK580.out 2).trans rfl; have hfz64_0 := blk_frozen BK580.out 0; have hfz64_1 := blk_frozen BK580.out 1; have hfz64_2 := blk_frozen BK580.out 2))
   go_ret
   exact ⟨rfl, uB HB.out⟩
mutual
def casematelaw06_EccUnpacks.j0 : Nat → List Int → Bool → Int → Int → Int → Int → Int → Option (Bool)
 | 0, _, _, _, _, _, _, _ => none
 | k + 1, x1, x23, x605000, x605001, x605002, x605003, x605004 => if x23 = true then (some true) else ((some (([] : List Int) : List Int)).bind fun y606 => (if y606.length + x1.length < 140737488355328 then ((some (y606 ++ x1 : List Int)).bind fun y609 => ((ecc_Unpack.f k x605000 x605001 x605002 x605003 x605004 y609).bind fun bt612 => ((ecc_Read.f k x605000 x605001 x605002 x605003 x605004 y609).bind fun bt616 => (if (strOfNums y609).toList = (strOfNums x1).toList then ((casemateref06_May.f x605000 x605001 x605002 x605003 x605004).bind fun t621 => (if t621 = true then ((casemateref06_Raw.f x605000 x605001 x605002 x605003 x605004).bind fun t622 => (casematelaw06_EccUnpacks.j1 k x1 bt612.1 bt612.2 bt616.1 bt616.2.1 bt616.2.2 ((x1.length : Int) != t622) x605000 x605001 x605002 x605003 x605004)) else (casematelaw06_EccUnpacks.j1 k x1 bt612.1 bt612.2 bt616.1 bt616.2.1 bt616.2.2 true x605000 x605001 x605002 x605003 x605004))) else (some false))))) else (none)))
def casematelaw06_EccUnpacks.j1 : Nat → List Int → List (S39) → Int → List Int → Int → Int → Bool → Int → Int → Int → Int → Int → Option (Bool)
 | 0, _, _, _, _, _, _, _, _, _, _, _, _ => none
 | k + 1, x1, x6, x7, x8, x9, x10, x54, x605000, x605001, x605002, x605003, x605004 => if x54 = true then ((casematelaw06_awake.f k).bind fun t623 => (if t623 = true then (if x7 = 1 then (if x10 = x7 then (some ((wrap64 ((wrap64 ((x6.length : Int) + (x8.length : Int))) + x9)) == 0)) else (some false)) else (some false)) else (some false))) else ((casemateref06_Marked.f k x605000 x605001 x605002 x605003 x605004 x1).bind fun t624 => (if t624 = 0 then (if x7 = 0 then (casematelaw06_EccUnpacks.j2 k x1 x6 x8 x9 x10 ((x6.length : Int) != x605002) x605000 x605001 x605002 x605003 x605004) else (casematelaw06_EccUnpacks.j2 k x1 x6 x8 x9 x10 true x605000 x605001 x605002 x605003 x605004)) else ((casematelaw06_awake.f k).bind fun t625 => (if t625 = true then (if x7 = t624 then (if x10 = t624 then (some ((wrap64 ((wrap64 ((x6.length : Int) + (x8.length : Int))) + x9)) == 0)) else (some false)) else (some false)) else (some false)))))
def casematelaw06_EccUnpacks.j2 : Nat → List Int → List (S39) → List Int → Int → Int → Bool → Int → Int → Int → Int → Int → Option (Bool)
 | 0, _, _, _, _, _, _, _, _, _, _, _ => none
 | k + 1, x1, x6, x8, x9, x10, x109, x605000, x605001, x605002, x605003, x605004 => if x109 = true then (some false) else (casematelaw06_EccUnpacks.l0 k x1 x6 x8 x9 x10 ([] : List Int) 0 false 0 x605000 x605001 x605002 x605003 x605004)
def casematelaw06_EccUnpacks.l0 : Nat → List Int → List (S39) → List Int → Int → Int → List Int → Int → Bool → Int → Int → Int → Int → Int → Int → Option (Bool)
 | 0, _, _, _, _, _, _, _, _, _, _, _, _, _, _ => none
 | k + 1, x1, x6, x8, x9, x10, x12, x13, x14, x15, x605000, x605001, x605002, x605003, x605004 => if x15 < (x6.length : Int) then (if 0 ≤ x15 then ((casemateref06_Near.f k x605000 x605001 x605002 x605003 x605004 x1 x15 ((rd_T39 x6 x15).f0) ((rd_T39 x6 x15).f1) ((rd_T39 x6 x15).f2)).bind fun t627 => (if t627 = true then (if x14 = true then (if x12.length + ((rd_T39 x6 x15).f0).length < 140737488355328 then (casematelaw06_EccUnpacks.l0 k x1 x6 x8 x9 x10 (x12 ++ ((rd_T39 x6 x15).f0)) (mx x13 ((rd_T39 x6 x15).f1)) true (wrap64 (x15 + 1)) x605000 x605001 x605002 x605003 x605004) else (none)) else (if x12.length + ((rd_T39 x6 x15).f0).length < 140737488355328 then (casematelaw06_EccUnpacks.l0 k x1 x6 x8 x9 x10 (x12 ++ ((rd_T39 x6 x15).f0)) (mx x13 ((rd_T39 x6 x15).f1)) (((rd_T39 x6 x15).f2) != 0) (wrap64 (x15 + 1)) x605000 x605001 x605002 x605003 x605004) else (none))) else (some false))) else (none)) else (if x14 = true then ((casematelaw06_awake.f k).bind fun t639 => (if t639 = true then (if x10 = 50 then (some ((wrap64 ((x8.length : Int) + x9)) == 0)) else (some false)) else (some false))) else ((casematelaw06_awake.f k).bind fun t640 => (if t640 = true then (if x10 = 0 then (if (strOfNums x8).toList = (strOfNums x12).toList then (some (x9 == x13)) else (some false)) else (some false)) else (some false))))
end
def casematelaw06_EccUnpacks.f (k : Nat) (a0_0 : Int) (a0_1 : Int) (a0_2 : Int) (a0_3 : Int) (a0_4 : Int) (l1 : List Int) : Option (Bool) := (casematelaw06_small.f a0_0 a0_1 a0_2 a0_3 a0_4).bind fun t605 => (if t605 = true then (casematelaw06_EccUnpacks.j0 k l1 (decide ((l1.length : Int) > 400)) a0_0 a0_1 a0_2 a0_3 a0_4) else (casematelaw06_EccUnpacks.j0 k l1 true a0_0 a0_1 a0_2 a0_3 a0_4))
def casematelaw06_EccUnpacks.T21 : Bool × List (List Nat × List Nat) := (true, [([], []), ([], []), ([], []), ([], []), ([], []), ([3, 4], [3, 4]), ([5], [5]), ([0, 1, 2, 6], [0, 1, 2, 6]), ([7], [7])])
def casematelaw06_EccUnpacks.B21 : List Nat := [0, 0, 0, 0, 0, 24, 56, 127, 255]
theorem casematelaw06_EccUnpacks.tab21 : rtab .any (opsOf Try.f6 21) = casematelaw06_EccUnpacks.T21 := by kernel_rfl
theorem casematelaw06_EccUnpacks.bits21 : waitsOk casematelaw06_EccUnpacks.T21.2 casematelaw06_EccUnpacks.B21 = true := by kernel_rfl
set_option maxHeartbeats 8000000 in
set_option maxRecDepth 100000 in
theorem casematelaw06_EccUnpacks.calls (k : Nat) (a0_0 : Int) (a0_1 : Int) (a0_2 : Int) (a0_3 : Int) (a0_4 : Int) (A1 : Option Addr) (c1 : Nat) (l1 : List Int) (r : Bool) (hr0_ : r = true) (w : World) (hr1 : Kd.C (Kd.int .u8) w A1 l1.length l1) (hc1 : l1.length ≤ c1) (h : casematelaw06_EccUnpacks.f k a0_0 a0_1 a0_2 a0_3 a0_4 l1 = some r) :
  Calls Try.prog 6 #[.agg #[.int .i64 a0_0, .int .i64 a0_1, .int .i64 a0_2, .int .i64 a0_3, .int .i64 a0_4], .slice A1 l1.length c1] w fun e w' => e = .returned (.bool r) ∧ Below w.heap.size w w' := by
 have hu23 := Try.underlying23
 have hu39 := Try.underlying39
 have HR1 := Aside0.mk hr1
 have HC1 := Aside0.mk hc1
 clear hr1 hc1
 have HB := Aside0.mk (Below.refl w.heap.size w)
 have hr_ := Aside0.mk hr0_
 have H := h
 unfold casematelaw06_EccUnpacks.f at H
 clear h
 have HC3 := Aside0.mk H
 clear H
 go_enter Try.func6, Try.ntmps6
 go_upto_region 1 with (first | ((with_reducible refine gate_dst (N := 2) rfl ?_); (try (refine gate_guard (by rfl) ?_; dsimp only)); refine uX 2 #[.int .i64 a0_0, .int .i64 a0_1, .int .i64 a0_2, .int .i64 a0_3, .int .i64 a0_4] 23 ?_; intro gb604 hg w4 hbox hb; have BK604 := uA hbox; have GW604 := uGe HB hg; have GE604 := uGe HB hg; replace HB := uBb HB hb; clear hg))
 (try simp only [Act.put, List.setIfInBounds_toArray, List.set_cons_zero, List.set_cons_succ])
 go_cut [23] (fun v23 wc => ∃ (kq : Nat) (x23_2 : Bool), v23 = .bool x23_2 ∧ Aside0 (casematelaw06_EccUnpacks.j0 kq l1 x23_2 a0_0 a0_1 a0_2 a0_3 a0_4 = some r) ∧ Aside0 (kq ≤ k) ∧ Aside0 (wc.heap[gb604]? = some (.cells #[.int .i64 a0_0, .int .i64 a0_1, .int .i64 a0_2, .int .i64 a0_3, .int .i64 a0_4] 23 (0, 0))) ∧ Aside0 (Below w.heap.size w wc))
 case first =>
  have H := HC3.out
  clear HC3
  obtain ⟨t605, A5, H⟩ := uO H
  by_cases c6 : t605 = true
  ·subst c6
   replace H := uI rfl H
   have H' := Aside0.mk H
   clear H
   obtain ⟨_, _, _, _, _, _, _, _, _, _⟩ := uZ BK604
   go_wp2_with (first | ((with_reducible refine gate_callee (f := 9) rfl ?_); refine uG (some 17) Try.func9 #[.agg #[.int .i64 a0_0, .int .i64 a0_1, .int .i64 a0_2, .int .i64 a0_3, .int .i64 a0_4]] ?_; (with_reducible refine (casematelaw06_small.calls a0_0 a0_1 a0_2 a0_3 a0_4 true _ A5.out).mono ?_); rintro e w8 ⟨rfl, hb⟩; refine ⟨_, rfl, ?_⟩; replace BK604 := uKb BK604 hb; replace HB := uBb HB hb))
   go_meet
   case rel => exact ⟨_, (decide ((l1.length : Int) > 400)), rfl, H', ⟨by omega⟩, ⟨uK BK604.out⟩, ⟨uB HB.out⟩⟩
  ·replace c6 := Bool.eq_false_iff.mpr c6
   subst c6
   replace H := uJ uN0 H
   have H' := Aside0.mk H
   clear H
   obtain ⟨_, _, _, _, _, _, _, _, _, _⟩ := uZ BK604
   go_wp2_with (first | ((with_reducible refine gate_callee (f := 9) rfl ?_); refine uG (some 17) Try.func9 #[.agg #[.int .i64 a0_0, .int .i64 a0_1, .int .i64 a0_2, .int .i64 a0_3, .int .i64 a0_4]] ?_; (with_reducible refine (casematelaw06_small.calls a0_0 a0_1 a0_2 a0_3 a0_4 false _ A5.out).mono ?_); rintro e w10 ⟨rfl, hb⟩; refine ⟨_, rfl, ?_⟩; replace BK604 := uKb BK604 hb; replace HB := uBb HB hb))
   go_meet
   case rel => exact ⟨_, (true), rfl, H', ⟨by omega⟩, ⟨uK BK604.out⟩, ⟨uB HB.out⟩⟩
 case rest =>
  clear HC3
  obtain ⟨kq, x23_2, rfl, HA, HJ2, BK604, HB⟩ := hcut
  cases kq with
  | zero => exact absurd HA.out (by simp [casematelaw06_EccUnpacks.j0])
  | succ kj2 =>
   have H := HA.out
   clear HA
   simp only [casematelaw06_EccUnpacks.j0] at H
   by_cases c11 : x23_2 = true
   ·subst c11
    replace H := uI rfl H
    obtain rfl := Option.some.inj H
    go_wp2
    go_ret
    exact ⟨rfl, uB HB.out⟩
   ·replace c11 := Bool.eq_false_iff.mpr c11
    subst c11
    replace H := uJ uN0 H
    rw [uY] at H
    obtain ⟨y606, Ny606, H⟩ := H
    by_cases c12 : y606.length + l1.length < 140737488355328
    ·rw [if_pos c12] at H
     have LMc12 := Aside0.mk c12
     clear c12
     rw [uY] at H
     obtain ⟨y609, Ny609, H⟩ := H
     obtain ⟨⟨t612, t615⟩, A13, H⟩ := uO H
     dsimp only at H
     obtain ⟨⟨t616, t619, t620⟩, A14, H⟩ := uO H
     dsimp only at H
     by_cases c15 : (strOfNums y609).toList = (strOfNums l1).toList
     ·rw [if_pos c15] at H
      have c15b0 : ((strOfNums y609).toList == (strOfNums l1).toList) = true := beq_iff_eq.mpr c15
      have c15b1 : ((strOfNums y609).toList != (strOfNums l1).toList) = false := bne_eq_false_iff_eq.mpr c15
      clear c15
      have HC16 := Aside0.mk H
      clear H
      go_upto_region 8 with (first | ((with_reducible refine gate_dst (N := 24) rfl ?_); (try (refine gate_guard (by rfl) ?_; dsimp only)); refine Kd.R_lit (Kd.int .u8) _ 5 ?hg (N := 24) ?hd (xs := ([] : List Int)) (inner := []) (ok := fun _ => True) (okp := fun _ => True) ?hr ?hp (fun _ hk => hk) trivial (Below.refl _ _) (Nat.le_refl _) (by simp) ?_; (case hd => rfl); (case hg => rfl); (case hr => first | (go_simp; done) | (go_simp; rfl)); (case hp => exact (Reps.none _ _)); intro v607 w17 ho18 hb hg_ hnew_; clear hg_ hnew_; (first | rw [← Ny606.out] at ho18 | (simp only [Int.reduceToNat] at ho18; rw [← Ny606.out] at ho18)); have HO608 := uA (Kd.R_lower ho18 (below_size (uB HB.out))); replace BK604 := uKb BK604 hb; replace HB := uBb HB hb; clear hb ho18) | ((with_reducible refine gate_builtin (b := .append) (xs := #[.tmp 24, .tmp 25]) rfl ?_); (try (refine gate_guard (by rfl) ?_; dsimp only)); at_builtin; refine Kd.R_append_rows (Kd.int .u8) (w0 := w) w.heap.size rfl (.tmp 24) (.tmp 25) 26 5 (.int .u8 0) 1 rfl Try.underlying26 info5 rfl (by decide) (by omega) v607 y606 l1 _ _ _ (fun _ => True) (fun _ => False) rfl rfl ?aO ?aR (fun _ _ h => h) (fun _ h => h.elim) ?aF ?aB ?aS ?aL ?_; (case aR => exact uC (Kd.C_below HR1.out HB.out)); (case aB => exact (uB HB.out)); (case aF => exact (fun _ _ => trivial)); (case aO => exact (uR HO608.out)); (case aS => exact (below_size (uB HB.out))); (case aL => have := LMc12.out; omega); intro v610 w19 ho hb hg hat; rw [← Ny609.out] at ho; have n0_ := Aside0.mk (blk_grown (g := gb604) (o := .cells #[.int .i64 a0_0, .int .i64 a0_1, .int .i64 a0_2, .int .i64 a0_3, .int .i64 a0_4] 23 (0, 0)) (uK BK604.out) hg (Kd.R_ne HO608.out BK604.out (by decide))); have n1_ := Aside0.mk (hb); have n2_ := Aside0.mk (ho); clear BK604; clear HB; clear HO608; have BK604 := n0_; have HB := n1_; have HO611 := n2_; clear n0_ n1_ n2_; clear ho hb hg hat; obtain ⟨_, _, _, _, _, _, _, _, _, _⟩ := uZ BK604; obtain ⟨Ao21, co21, eo21⟩ := Kd.R_slice HO611.out; subst eo21) | ((with_reducible refine gate_callee (f := 13) rfl ?_); refine uG (some 30) Try.func13 #[.agg #[.int .i64 a0_0, .int .i64 a0_1, .int .i64 a0_2, .int .i64 a0_3, .int .i64 a0_4], .slice Ao21 y609.length co21] ?_; (with_reducible refine (ecc_Unpack.calls kj2 a0_0 a0_1 a0_2 a0_3 a0_4 (fun k_ => some k_ = (.slice Ao21 y609.length co21 : Value).ownBlock) _ _ y609 t612 t615 _ ?side1 A13.out).mono ?_); (case side1 => exact Kd.R_V (Kd.R_tight rfl (Kd.R_types (HO611.out) BK604.out (by decide)))); rintro e w22 ⟨v613, rfl, ho0, hb⟩; refine ⟨_, rfl, ?_⟩; have HO614 := uA (Kd.S_lower (Kd.S_new' (Kd.S_mono (ok' := fun k_ => True) ho0 (fun _ hk_ => trivial)) (Kd.R_lt (uR HO611.out))) (below_size (uB HB.out))); replace HO611 := uRb HO611 hb; replace BK604 := uKb BK604 hb; replace HB := uBb HB hb; obtain ⟨_, _, _, _, _, _, _, _, _, _⟩ := uZ BK604) | ((with_reducible refine gate_callee (f := 15) rfl ?_); refine uG (some 36) Try.func15 #[.agg #[.int .i64 a0_0, .int .i64 a0_1, .int .i64 a0_2, .int .i64 a0_3, .int .i64 a0_4], .slice Ao21 y609.length co21] ?_; (with_reducible refine (ecc_Read.calls kj2 a0_0 a0_1 a0_2 a0_3 a0_4 _ _ y609 t616 t619 t620 _ ?side1 ?side2 A14.out).mono ?_); (case side1 => exact uC (Kd.R_reads' HO611.out).2.2); (case side2 => exact (Kd.R_reads' HO611.out).2.1); rintro e w24 ⟨v617, rfl, ho0, hb⟩; refine ⟨_, rfl, ?_⟩; replace HO614 := uA (Kd.S_elder' (uS HO614.out) (Kd.R_base ho0) hb); have HO618 := uA (Kd.R_lower (Kd.R_new' ho0 (Kd.R_lt (uR HO611.out))) (below_size (uB HB.out))); replace HO611 := uA (Kd.R_elder' (uR HO611.out) (Kd.R_base ho0) hb); replace BK604 := uKb BK604 hb; replace HB := uBb HB hb; have hcv25 := own_string (P := Try.prog) Try.underlying26 Try.underlying5 Try.underlying9 (Kd.own_of_R HO611.out); have hcv26 := Kd.C_string (P := Try.prog) (A := A1) (c := c1) Try.underlying26 Try.underlying5 Try.underlying9 (Kd.C_below HR1.out HB.out)))
      (try simp only [Act.put, List.setIfInBounds_toArray, List.set_cons_zero, List.set_cons_succ])
      go_cut [54] (fun v54 wc => ∃ (kq : Nat) (x54_15 : Bool), v54 = .bool x54_15 ∧ Aside0 (casematelaw06_EccUnpacks.j1 kq l1 t612 t615 t616 t619 t620 x54_15 a0_0 a0_1 a0_2 a0_3 a0_4 = some r) ∧ Aside0 (kq ≤ kj2) ∧ Aside0 (Kd.S k39 39 wc w.heap.size (fun k_ => some k_ ≠ (v617 : Value).ownBlock) v613 t612) ∧ Aside0 (Kd.R (Kd.int .u8) 5 wc w.heap.size (fun _ => True) v617 t616) ∧ Aside0 (wc.heap[gb604]? = some (.cells #[.int .i64 a0_0, .int .i64 a0_1, .int .i64 a0_2, .int .i64 a0_3, .int .i64 a0_4] 23 (0, 0))) ∧ Aside0 (Below w.heap.size w wc))
      case first =>
       have H := HC16.out
       clear HC16
       obtain ⟨t621, A27, H⟩ := uO H
       by_cases c28 : t621 = true
       ·subst c28
        replace H := uI rfl H
        obtain ⟨t622, A29, H⟩ := uO H
        have H' := Aside0.mk H
        clear H
        obtain ⟨_, _, _, _, _, _, _, _, _, _⟩ := uZ BK604
        go_wp2_with (first | ((with_reducible refine gate_callee (f := 10) rfl ?_); refine uG (some 46) Try.func10 #[.agg #[.int .i64 a0_0, .int .i64 a0_1, .int .i64 a0_2, .int .i64 a0_3, .int .i64 a0_4]] ?_; (with_reducible refine (casemateref06_May.calls a0_0 a0_1 a0_2 a0_3 a0_4 true _ A27.out).mono ?_); rintro e w31 ⟨rfl, hb⟩; refine ⟨_, rfl, ?_⟩; replace HO611 := uRb HO611 hb; replace HO614 := uSb HO614 hb; replace HO618 := uRb HO618 hb; replace BK604 := uKb BK604 hb; replace HB := uBb HB hb; obtain ⟨_, _, _, _, _, _, _, _, _, _⟩ := uZ BK604) | (go_at_call 12; (with_reducible refine (casemateref06_Raw.calls a0_0 a0_1 a0_2 a0_3 a0_4 t622 _ A29.out).mono ?_); rintro e w33 ⟨rfl, hb⟩; replace HO611 := uRb HO611 hb; replace HO614 := uSb HO614 hb; replace HO618 := uRb HO618 hb; replace BK604 := uKb BK604 hb; replace HB := uBb HB hb))
        go_meet
        case rel => exact ⟨_, (((l1.length : Int) != t622)), rfl, H', ⟨by have := HJ2.out; omega⟩, ⟨by (with_reducible repeat (first | apply Kd.S_alloc | apply Kd.S_drewN | apply Kd.S_drew)); exact Kd.S_mono HO614.out (fun _ hk => hk.2)⟩, ⟨by (with_reducible repeat (first | apply Kd.R_alloc | apply Kd.R_drewN | apply Kd.R_drew)); exact Kd.R_mono HO618.out (fun _ hk => trivial)⟩, ⟨uK BK604.out⟩, ⟨uB HB.out⟩⟩
       ·replace c28 := Bool.eq_false_iff.mpr c28
        subst c28
        replace H := uJ uN0 H
        have H' := Aside0.mk H
        clear H
        obtain ⟨_, _, _, _, _, _, _, _, _, _⟩ := uZ BK604
        go_wp2_with (first | ((with_reducible refine gate_callee (f := 10) rfl ?_); refine uG (some 46) Try.func10 #[.agg #[.int .i64 a0_0, .int .i64 a0_1, .int .i64 a0_2, .int .i64 a0_3, .int .i64 a0_4]] ?_; (with_reducible refine (casemateref06_May.calls a0_0 a0_1 a0_2 a0_3 a0_4 false _ A27.out).mono ?_); rintro e w35 ⟨rfl, hb⟩; refine ⟨_, rfl, ?_⟩; replace HO611 := uRb HO611 hb; replace HO614 := uSb HO614 hb; replace HO618 := uRb HO618 hb; replace BK604 := uKb BK604 hb; replace HB := uBb HB hb))
        go_meet
        case rel => exact ⟨_, (true), rfl, H', ⟨by have := HJ2.out; omega⟩, ⟨by (with_reducible repeat (first | apply Kd.S_alloc | apply Kd.S_drewN | apply Kd.S_drew)); exact Kd.S_mono HO614.out (fun _ hk => hk.2)⟩, ⟨by (with_reducible repeat (first | apply Kd.R_alloc | apply Kd.R_drewN | apply Kd.R_drew)); exact Kd.R_mono HO618.out (fun _ hk => trivial)⟩, ⟨uK BK604.out⟩, ⟨uB HB.out⟩⟩
      case rest =>
       clear HC16
       obtain ⟨kq, x54_15, rfl, HA, HJ15, HO_6, HO_8, BK604, HB⟩ := hcut
       cases kq with
       | zero => exact absurd HA.out (by simp [casematelaw06_EccUnpacks.j1])
       | succ kj15 =>
        have H := HA.out
        clear HA
        simp only [casematelaw06_EccUnpacks.j1] at H
        by_cases c36 : x54_15 = true
        ·subst c36
         replace H := uI rfl H
         obtain ⟨t623, A37, H⟩ := uO H
         by_cases c38 : t623 = true
         ·subst c38
          replace H := uI rfl H
          by_cases c39 : t615 = 1
          ·rw [if_pos c39] at H
           have c39b0 : (t615 == 1) = true := beq_iff_eq.mpr c39
           have c39b1 : (t615 != 1) = false := bne_eq_false_iff_eq.mpr c39
           clear c39
           by_cases c40 : t620 = t615
           ·rw [if_pos c40] at H
            have c40b0 : (t620 == t615) = true := beq_iff_eq.mpr c40
            have c40b1 : (t620 != t615) = false := bne_eq_false_iff_eq.mpr c40
            clear c40
            obtain rfl := Option.some.inj H
            go_wp2_with (first | ((with_reducible refine gate_callee (f := 16) rfl ?_); refine uG (some 55) Try.func16 #[] ?_; (with_reducible refine (casematelaw06_awake.calls kj15  true _ A37.out).mono ?_); rintro e w41 ⟨rfl, hb⟩; refine ⟨_, rfl, ?_⟩; replace HO_6 := uSb HO_6 hb; replace HO_8 := uRb HO_8 hb; replace BK604 := uKb BK604 hb; replace HB := uBb HB hb; obtain ⟨Ao42, co42, eo42⟩ := Kd.S_slice HO_6.out; subst eo42; obtain ⟨Ao43, co43, eo43⟩ := Kd.R_slice HO_8.out; subst eo43))
            go_ret
            exact ⟨rfl, uB HB.out⟩
           ·rw [if_neg c40] at H
            (try rw [hr_.out] at H)
            cases H
          ·rw [if_neg c39] at H
           (try rw [hr_.out] at H)
           cases H
         ·replace c38 := Bool.eq_false_iff.mpr c38
          subst c38
          have H1 : (some false) = some r := by rw [if_neg (show ¬ (false = true) by decide)] at H; exact H
          rw [hr_.out] at H1
          exact absurd H1 (by simp)
        ·replace c36 := Bool.eq_false_iff.mpr c36
         subst c36
         replace H := uJ uN0 H
         obtain ⟨t624, A47, H⟩ := uO H
         by_cases c48 : t624 = 0
         ·rw [if_pos c48] at H
          have c48b0 : (t624 == 0) = true := beq_iff_eq.mpr c48
          have c48b1 : (t624 != 0) = false := bne_eq_false_iff_eq.mpr c48
          clear c48
          have HC49 := Aside0.mk H
          clear H
          obtain ⟨_, _, _, _, _, _, _, _, _, _⟩ := uZ BK604
          go_upto_region 13 with (first | ((with_reducible refine gate_callee (f := 23) rfl ?_); refine uG (some 77) Try.func23 #[.agg #[.int .i64 a0_0, .int .i64 a0_1, .int .i64 a0_2, .int .i64 a0_3, .int .i64 a0_4], .slice A1 l1.length c1] ?_; (with_reducible refine (casemateref06_Marked.calls kj15 a0_0 a0_1 a0_2 a0_3 a0_4 _ _ l1 t624 _ ?side1 ?side2 A47.out).mono ?_); (case side1 => exact uC (Kd.C_below HR1.out HB.out)); (case side2 => exact HC1.out); rintro e w51 ⟨rfl, hb⟩; refine ⟨_, rfl, ?_⟩; replace HO_6 := uSb HO_6 hb; replace HO_8 := uRb HO_8 hb; replace BK604 := uKb BK604 hb; replace HB := uBb HB hb))
          (try simp only [Act.put, List.setIfInBounds_toArray, List.set_cons_zero, List.set_cons_succ])
          go_cut [109] (fun v109 wc => ∃ (kq : Nat) (x109_48 : Bool), v109 = .bool x109_48 ∧ Aside0 (casematelaw06_EccUnpacks.j2 kq l1 t612 t616 t619 t620 x109_48 a0_0 a0_1 a0_2 a0_3 a0_4 = some r) ∧ Aside0 (kq ≤ kj15) ∧ Aside0 (Kd.S k39 39 wc w.heap.size (fun k_ => some k_ ≠ (v617 : Value).ownBlock) v613 t612) ∧ Aside0 (Kd.R (Kd.int .u8) 5 wc w.heap.size (fun _ => True) v617 t616) ∧ Aside0 (wc.heap[gb604]? = some (.cells #[.int .i64 a0_0, .int .i64 a0_1, .int .i64 a0_2, .int .i64 a0_3, .int .i64 a0_4] 23 (0, 0))) ∧ Aside0 (Below w.heap.size w wc))
          case first =>
           have H := HC49.out
           clear HC49
           by_cases c52 : t615 = 0
           ·rw [if_pos c52] at H
            have c52b0 : (t615 == 0) = true := beq_iff_eq.mpr c52
            have c52b1 : (t615 != 0) = false := bne_eq_false_iff_eq.mpr c52
            clear c52
            (first | rw [c52b0] | (simp only [i64_w, i32_w]; rw [c52b0]) | skip)
            have H' := Aside0.mk H
            clear H
            obtain ⟨Ao53, co53, eo53⟩ := Kd.S_slice HO_6.out
            subst eo53
            obtain ⟨_, _, _, _, _, _, _, _, _, _⟩ := uZ BK604
            go_wp2
            go_meet
            case rel => exact ⟨_, (((t612.length : Int) != a0_2)), rfl, H', ⟨by have := HJ2.out; have := HJ15.out; omega⟩, ⟨uS HO_6.out⟩, ⟨uR HO_8.out⟩, ⟨uK BK604.out⟩, ⟨uB HB.out⟩⟩
           ·rw [if_neg c52] at H
            have c52b0 : (t615 == 0) = false := beq_eq_false_iff_ne.mpr c52
            have c52b1 : (t615 != 0) = true := bne_iff_ne.mpr c52
            (first | rw [c52b0] | (simp only [i64_w, i32_w]; rw [c52b0]) | skip)
            have H' := Aside0.mk H
            clear H
            go_wp2
            go_meet
            case rel => exact ⟨_, (true), rfl, H', ⟨by have := HJ2.out; have := HJ15.out; omega⟩, ⟨uS HO_6.out⟩, ⟨uR HO_8.out⟩, ⟨uK BK604.out⟩, ⟨uB HB.out⟩⟩
          case rest =>
           clear HC49
           obtain ⟨kq, x109_48, rfl, HA, HJ48, HO_6, HO_8, BK604, HB⟩ := hcut
           cases kq with
           | zero => exact absurd HA.out (by simp [casematelaw06_EccUnpacks.j2])
           | succ kj48 =>
            have H := HA.out
            clear HA
            simp only [casematelaw06_EccUnpacks.j2] at H
            by_cases c55 : x109_48 = true
            ·subst c55
             have H1 : (some false) = some r := by rw [if_pos rfl] at H; exact H
             rw [hr_.out] at H1
             exact absurd H1 (by simp)
            ·replace c55 := Bool.eq_false_iff.mpr c55
             subst c55
             replace H := uJ uN0 H
             have H' := Aside0.mk H
             clear H
             go_wp2
             go_loopg [12, 13, 14, 15] kj48 (fun kq v12 v13 v14 v15 w' => ∃ (x12_4 : List Int) (x13_4 : Int) (x14_4 : Bool) (x15_4 : Int), v13 = .int .i64 x13_4 ∧ v14 = .bool x14_4 ∧ v15 = .int .i64 x15_4 ∧ Aside0 (casematelaw06_EccUnpacks.l0 kq l1 t612 t616 t619 t620 x12_4 x13_4 x14_4 x15_4 a0_0 a0_1 a0_2 a0_3 a0_4 = some r) ∧ Aside0 (kq ≤ kj48) ∧ Aside0 (Kd.S k39 39 w' w.heap.size (fun k_ => some k_ ≠ (v617 : Value).ownBlock ∧ some k_ ≠ (v12 : Value).ownBlock) v613 t612) ∧ Aside0 (Kd.R (Kd.int .u8) 5 w' w.heap.size (fun k_ => some k_ ≠ (v12 : Value).ownBlock) v617 t616) ∧ Aside0 (Kd.R (Kd.int .u8) 5 w' w.heap.size (fun k_ => some k_ ≠ (v617 : Value).ownBlock) v12 x12_4) ∧ Aside0 (w'.heap[gb604]? = some (.cells #[.int .i64 a0_0, .int .i64 a0_1, .int .i64 a0_2, .int .i64 a0_3, .int .i64 a0_4] 23 (0, 0))) ∧ Aside0 (Below w.heap.size w w'))
             case atStart => exact ⟨(([] : List Int)), (0), (false), (0), rfl, rfl, rfl, H', ⟨Nat.le_refl _⟩, ⟨by (with_reducible repeat (first | apply Kd.S_alloc | apply Kd.S_drewN | apply Kd.S_drew)); exact Kd.S_mono HO_6.out (fun _ hk => ⟨hk, (by simp [Value.ownBlock])⟩)⟩, ⟨by (with_reducible repeat (first | apply Kd.R_alloc | apply Kd.R_drewN | apply Kd.R_drew)); exact Kd.R_mono HO_8.out (fun _ hk => (by simp [Value.ownBlock]))⟩, ⟨by first | exact Kd.R_nil _ _ _ _ _ | exact Kd.N_nil _ _ _ _ _ | exact Kd.V_nil _ _ _ _ _ | exact Kd.Q_nil _ _ _ _ _ | exact Kd.S_nil _ _ _ _ _⟩, ⟨uK BK604.out⟩, ⟨uB HB.out⟩⟩
             case round =>
              clear H'
              obtain ⟨x12_4, x13_4, x14_4, x15_4, rfl, rfl, rfl, HA, HK4, HO_6, HO_8, HO_12, BK604, HB⟩ := hrel
              cases gk with
              | zero => exact absurd HA.out (by simp [casematelaw06_EccUnpacks.l0])
              | succ k4 =>
               have H := HA.out
               clear HA
               simp only [casematelaw06_EccUnpacks.l0] at H
               by_cases c56 : x15_4 < (t612.length : Int)
               ·rw [if_pos c56] at H
                have c56b0 : decide (x15_4 < (t612.length : Int)) = true := decide_eq_true c56
                clear c56
                by_cases c57 : 0 ≤ x15_4
                ·rw [if_pos c57] at H
                 have c57b0 : decide (0 ≤ x15_4) = true := decide_eq_true c57
                 clear c57
                 obtain ⟨t627, A58, H⟩ := uO H
                 by_cases c59 : t627 = true
                 ·subst c59
                  replace H := uI rfl H
                  by_cases c60 : x14_4 = true
                  ·subst c60
                   replace H := uI rfl H
                   by_cases c61 : x12_4.length + ((rd_T39 t612 x15_4).f0).length < 140737488355328
                   ·rw [if_pos c61] at H
                    have LMc61 := Aside0.mk c61
                    clear c61
                    obtain ⟨y629, Ny629⟩ := uEA ((x12_4 ++ ((rd_T39 t612 x15_4).f0)) : List Int)
                    rw [← Ny629.out] at H
                    obtain ⟨ji62, hji62⟩ : ∃ j_ : Int, (mx x13_4 ((rd_T39 t612 x15_4).f1)) = j_ := ⟨_, rfl⟩
                    first | rw [hji62] at H | simp only [hji62] at H
                    (try rw [hji62] at A58)
                    have hji62_ : (if x13_4 < ((rd_T39 t612 x15_4).f1) then ((rd_T39 t612 x15_4).f1) else x13_4) = ji62 := hji62
                    have H' := Aside0.mk H
                    clear H
                    obtain ⟨Ao63, co63, eo63⟩ := Kd.S_slice HO_6.out
                    subst eo63
                    try go_wp2
                    replace HO_6 := uA (Kd.S_drew HO_6.out); replace HO_8 := uA (Kd.R_drew HO_8.out); replace HO_12 := uA (Kd.R_drew HO_12.out); replace BK604 := uA (blk_drew BK604.out); replace HB := uA (below_drew1 HB.out)
                    have p626 : 0 ≤ (x15_4 : Int) := of_decide_eq_true (by first | (with_reducible assumption) | assumption)
                    have q626 : x15_4 < (t612.length : Int) := of_decide_eq_true (by first | (with_reducible assumption) | assumption)
                    obtain ⟨ad626, A626_0, c626_0, e626, hx626_0, hx626_1, hx626_2, hl626_0, hi626_0⟩ := at_T39 (Kd.S_reads' HO_6.out).2.2 x15_4 p626 q626
                    cases e626
                    obtain ⟨ce626, hce626, hMe626, hcc626⟩ := Kd.S_get HO_6.out z39 x15_4 p626 (by first | exact q626 | exact of_decide_eq_true (by first | (with_reducible assumption) | assumption) | (have e_ := (Kd.S_reads' HO_6.out).1; omega))
                    obtain ⟨ve626_0, rfl, ge626_0⟩ := k39_openM hMe626
                    have hv626_0 := hcc626 0 _ rfl
                    rw [Nat.add_zero] at hv626_0
                    replace hv626_0 := Option.some.inj (hv626_0.symm.trans hx626_0)
                    rw [hv626_0] at ge626_0
                    have HL626_0 := Aside0.mk (show Kd.R (Kd.int .u8) 5 _ _ _ _ ((rd_T39 t612 x15_4).f0) from ge626_0)
                    clear hv626_0 ge626_0
                    clear hcc626 hce626
                    have HR626_0 := Aside0.mk hi626_0
                    have HC626_0 := Aside0.mk hl626_0
                    clear hi626_0 hl626_0
                    replace p626 := eq_true p626
                    replace q626 := eq_true q626
                    refine start_ (n := 9) (S := fun w' => w'.cell? ⟨gb604, 0, none⟩ = some (.int .i64 a0_0) ∧ w'.cell? ⟨gb604, 1, none⟩ = some (.int .i64 a0_1) ∧ w'.cell? ⟨gb604, 2, none⟩ = some (.int .i64 a0_2) ∧ w'.cell? ⟨gb604, 3, none⟩ = some (.int .i64 a0_3) ∧ w'.cell? ⟨gb604, 4, none⟩ = some (.int .i64 a0_4) ∧ w'.cell? (ad626.add ((x15_4).toNat * 3)) = some (.slice A626_0 ((rd_T39 t612 x15_4).f0).length c626_0) ∧ w'.cell? ⟨(ad626.add ((x15_4).toNat * 3)).block, (ad626.add ((x15_4).toNat * 3)).off + 1, none⟩ = some (.int .i64 ((rd_T39 t612 x15_4).f1)) ∧ w'.cell? ⟨(ad626.add ((x15_4).toNat * 3)).block, (ad626.add ((x15_4).toNat * 3)).off + 2, none⟩ = some (.int .i64 ((rd_T39 t612 x15_4).f2))) (ds := []) #[false, false, false, false, false, false, false, false, false] (by kernel_rfl) rfl rfl ⟨(blk_cell BK604.out 0).trans rfl, (blk_cell BK604.out 1).trans rfl, (blk_cell BK604.out 2).trans rfl, (blk_cell BK604.out 3).trans rfl, (blk_cell BK604.out 4).trans rfl, hx626_0, hx626_1, hx626_2⟩ (fun hHeld => ?_); refine with_tabW casematelaw06_EccUnpacks.tab21 casematelaw06_EccUnpacks.bits21 (fun HT_ HW_ => ?_)
                    generalize wr.drew = w64 at HO_6 HO_8 HO_12 BK604 HB HL626_0 HR626_0 hx626_0 hx626_1 hx626_2 hHeld ⊢
                    refine uP HT_ 1 (some 117) (lb 9 2) ?_
                    refine uP HT_ 2 (some 118) (lb 9 6) ?_
                    refine uP HT_ 3 (some 119) (lb 9 14) ?_
                    refine uP HT_ 4 (some 120) (lb 9 30) ?_
                    refine uP HT_ 5 (some 121) (lb 9 62) ?_
                    refine uT HT_ HW_ 0 (some 116) (lb 9 63) rfl hHeld ?_ (by rintro w' ⟨s0, s1, s2, s3, s4, s5, s6, s7⟩; go_simp; with_reducible rfl)
                    refine uT HT_ HW_ 6 (some 122) (lb 9 127) rfl hHeld ?_ (by rintro w' ⟨s0, s1, s2, s3, s4, s5, s6, s7⟩; go_simp; with_reducible rfl)
                    refine one_ (i := 7) (N := some 123) #[true, true, true, true, true, true, true, true, false] rfl rfl (one_of HT_.out (by kernel_rfl)) (by decide) (fun K hK => ?_)
                    refine goes_ Try.func24 (by kernel_rfl) rfl #[.agg #[.int .i64 a0_0, .int .i64 a0_1, .int .i64 a0_2, .int .i64 a0_3, .int .i64 a0_4], .slice A1 l1.length c1, .int .i64 x15_4, .agg #[.slice A626_0 ((rd_T39 t612 x15_4).f0).length c626_0, .int .i64 ((rd_T39 t612 x15_4).f1), .int .i64 ((rd_T39 t612 x15_4).f2)]] (by rfl) rfl rfl (by (try simp only [List.map_toArray, List.map_cons, List.map_nil]); first | done | rfl | (simp only [List.length_drop, List.length_take]; rfl)) ?_
                    with_reducible refine (casemateref06_Near.calls k4 a0_0 a0_1 a0_2 a0_3 a0_4 _ _ l1 x15_4 _ _ ((rd_T39 t612 x15_4).f0) ((rd_T39 t612 x15_4).f1) ((rd_T39 t612 x15_4).f2) true _ ?side1 ?side2 ?side3 ?side4 A58.out).mono ?_
                    (case side1 => exact uC (Kd.C_below HR1.out HB.out))
                    (case side2 => exact HC1.out)
                    (case side3 => repeat (first | exact (by repeat (first | (with_reducible exact HR626_0.out) | (with_reducible refine Kd.C_alloc ?_ _) | (with_reducible refine Kd.C_drewN ?_ _) | (with_reducible refine Kd.C_drew ?_) | exact HR626_0.out)) | (with_reducible refine Kd.C_alloc ?_ _) | (with_reducible refine Kd.C_drewN ?_ _) | (with_reducible refine Kd.C_drew ?_)))
                    (case side4 => exact HC626_0.out)
                    rintro e w65 ⟨rfl, hb⟩
                    have HS5_ := (hb.cell (World.block_lt_of_cell? _ _ (hHeld.2.2.2.2.2.1))).trans (hHeld.2.2.2.2.2.1)
                    have HS6_ := (hb.cell (World.block_lt_of_cell? _ _ (hHeld.2.2.2.2.2.2.1))).trans (hHeld.2.2.2.2.2.2.1)
                    have HS7_ := (hb.cell (World.block_lt_of_cell? _ _ (hHeld.2.2.2.2.2.2.2))).trans (hHeld.2.2.2.2.2.2.2)
                    refine ⟨_, rfl, ?_⟩
                    replace HO_6 := uSb HO_6 hb; replace HO_8 := uRb HO_8 hb; replace HO_12 := uRb HO_12 hb; replace HL626_0 := uRb HL626_0 hb; replace BK604 := uKb BK604 hb; replace HR626_0 := uA (Kd.C_below (by repeat (first | (with_reducible exact HR626_0.out) | (with_reducible refine Kd.C_alloc ?_ _) | (with_reducible refine Kd.C_drewN ?_ _) | (with_reducible refine Kd.C_drew ?_) | exact HR626_0.out)) hb); replace HB := uBb HB hb
                    refine hK.out _ _ ⟨(blk_cell BK604.out 0).trans rfl, (blk_cell BK604.out 1).trans rfl, (blk_cell BK604.out 2).trans rfl, (blk_cell BK604.out 3).trans rfl, (blk_cell BK604.out 4).trans rfl, HS5_, HS6_, HS7_⟩ (fun hHeld => ?_)
                    clear hK K
                    refine uN (some 123) _ ?_
                    refine uP HT_ 8 (some 124) (lb 9 511) ?_
                    refine done_ (done_of HT_.out (by kernel_rfl)) ?_
                    have p628 : 0 ≤ (x15_4 : Int) := of_decide_eq_true (by first | (with_reducible assumption) | assumption)
                    have q628 : x15_4 < (t612.length : Int) := of_decide_eq_true (by first | (with_reducible assumption) | assumption)
                    obtain ⟨ad628, A628_0, c628_0, e628, hx628_0, hx628_1, hx628_2, hl628_0, hi628_0⟩ := at_T39 (Kd.S_reads' HO_6.out).2.2 x15_4 p628 q628
                    obtain rfl : ad626 = ad628 := (by injection e628)
                    obtain ⟨ce628, hce628, hMe628, hcc628⟩ := Kd.S_get HO_6.out z39 x15_4 p628 (by first | exact q628 | exact of_decide_eq_true (by first | (with_reducible assumption) | assumption) | (have e_ := (Kd.S_reads' HO_6.out).1; omega))
                    obtain ⟨ve628_0, rfl, ge628_0⟩ := k39_openM hMe628
                    have hv628_0 := hcc628 0 _ rfl
                    rw [Nat.add_zero] at hv628_0
                    replace hv628_0 := Option.some.inj (hv628_0.symm.trans hx628_0)
                    rw [hv628_0] at ge628_0
                    have HL628_0 := Aside0.mk (show Kd.R (Kd.int .u8) 5 _ _ _ _ ((rd_T39 t612 x15_4).f0) from ge628_0)
                    clear hv628_0 ge628_0
                    clear hcc628 hce628
                    have HR628_0 := Aside0.mk hi628_0
                    have HC628_0 := Aside0.mk hl628_0
                    clear hi628_0 hl628_0
                    replace p628 := eq_true p628
                    replace q628 := eq_true q628
                    try go_wp2_with (first | ((with_reducible refine gate_builtin (b := .append) (xs := #[.tmp 134, .tmp 139]) rfl ?_); (try (refine gate_guard (by rfl) ?_; dsimp only)); at_builtin; refine Kd.R_append_rows (Kd.int .u8) (w0 := w) w.heap.size rfl (.tmp 134) (.tmp 139) 26 5 (.int .u8 0) 1 rfl Try.underlying26 info5 rfl (by decide) (by omega) u12 x12_4 ((rd_T39 t612 x15_4).f0) _ _ _ (fun k_ => some k_ ≠ (v617 : Value).ownBlock) (fun _ => False) rfl rfl ?aO ?aR (fun _ _ h => h) (fun _ h => h.elim) ?aF ?aB ?aS ?aL ?_; (case aR => repeat (first | exact (by repeat (first | (with_reducible exact HR628_0.out) | (with_reducible refine Kd.C_alloc ?_ _) | (with_reducible refine Kd.C_drewN ?_ _) | (with_reducible refine Kd.C_drew ?_) | exact HR628_0.out | exact HR626_0.out)) | (with_reducible refine Kd.C_alloc ?_ _) | (with_reducible refine Kd.C_drewN ?_ _) | (with_reducible refine Kd.C_drew ?_))); (case aB => exact (uB HB.out)); (case aF => exact (fun k_ hk => Kd.fresh' (Kd.R_lt (uR HO_8.out)) k_ hk)); (case aO => exact (uR HO_12.out)); (case aS => exact (below_size (uB HB.out))); (case aL => have := LMc61.out; omega); intro v630 w66 ho hb hg hat; rw [← Ny629.out] at ho; have n0_ := Aside0.mk (Kd.S_after (ok := (fun k_ => some k_ ≠ (v617 : Value).ownBlock)) (uS HO_6.out) hg hat); have n1_ := Aside0.mk (Kd.R_after (ok := (fun _ => True)) (by (with_reducible repeat (first | apply Kd.R_alloc | apply Kd.R_drewN | apply Kd.R_drew)); exact Kd.R_mono HO_8.out (fun _ hk => ⟨trivial, hk⟩)) hg hat); have n2_ := Aside0.mk (blk_grown (g := gb604) (o := .cells #[.int .i64 a0_0, .int .i64 a0_1, .int .i64 a0_2, .int .i64 a0_3, .int .i64 a0_4] 23 (0, 0)) (uK BK604.out) hg (Kd.R_ne HO_12.out BK604.out (by decide))); have n3_ := Aside0.mk (Kd.R_after (ok := (fun k_ => some k_ ≠ (.slice (some ad626) t612.length co63 : Value).ownBlock ∧ some k_ ≠ (v617 : Value).ownBlock)) (by (with_reducible repeat (first | apply Kd.R_alloc | apply Kd.R_drewN | apply Kd.R_drew)); exact Kd.R_mono HL626_0.out (fun _ hk => ⟨⟨hk.2, hk.1.1⟩, hk.1.2⟩)) hg hat); have n4_ := Aside0.mk (Kd.R_after (ok := (fun k_ => some k_ ≠ (.slice (some ad626) t612.length co63 : Value).ownBlock ∧ some k_ ≠ (v617 : Value).ownBlock)) (by (with_reducible repeat (first | apply Kd.R_alloc | apply Kd.R_drewN | apply Kd.R_drew)); exact Kd.R_mono HL628_0.out (fun _ hk => ⟨⟨hk.2, hk.1.1⟩, hk.1.2⟩)) hg hat); have n5_ := Aside0.mk (hb); have n6_ := Aside0.mk (ho); clear HO_6; clear HO_8; clear BK604; clear HL626_0; clear HL628_0; clear HB; clear HO_12; have HO_6 := n0_; have HO_8 := n1_; have BK604 := n2_; have HL626_0 := n3_; have HL628_0 := n4_; have HB := n5_; have HO631 := n6_; clear n0_ n1_ n2_ n3_ n4_ n5_ n6_; clear ho hb hg hat; have p632 : 0 ≤ (x15_4 : Int) := of_decide_eq_true (by first | (with_reducible assumption) | assumption); have q632 : x15_4 < (t612.length : Int) := of_decide_eq_true (by first | (with_reducible assumption) | assumption); obtain ⟨ad632, A632_0, c632_0, e632, hx632_0, hx632_1, hx632_2, hl632_0, hi632_0⟩ := at_T39 (Kd.S_reads' HO_6.out).2.2 x15_4 p632 q632; obtain rfl : ad626 = ad632 := (by injection e632); obtain ⟨ce632, hce632, hMe632, hcc632⟩ := Kd.S_get HO_6.out z39 x15_4 p632 (by first | exact q632 | exact of_decide_eq_true (by first | (with_reducible assumption) | assumption) | (have e_ := (Kd.S_reads' HO_6.out).1; omega)); obtain ⟨ve632_0, rfl, ge632_0⟩ := k39_openM hMe632; have hv632_0 := hcc632 0 _ rfl; rw [Nat.add_zero] at hv632_0; replace hv632_0 := Option.some.inj (hv632_0.symm.trans hx632_0); rw [hv632_0] at ge632_0; have HL632_0 := Aside0.mk (show Kd.R (Kd.int .u8) 5 _ _ _ _ ((rd_T39 t612 x15_4).f0) from ge632_0); clear hv632_0 ge632_0; clear hcc632 hce632; have HR632_0 := Aside0.mk hi632_0; have HC632_0 := Aside0.mk hl632_0; clear hi632_0 hl632_0; replace p632 := eq_true p632; replace q632 := eq_true q632))
                    go_roundg k4
                    case measure => have := HJ2.out; have := HJ15.out; have := HJ48.out; have := HK4.out; omega
                    case rel => exact ⟨(y629), (ji62), (true), (wrap64 (x15_4 + 1)), (by first | rfl | (simp; done) | (simp only [← hji62] <;> (first | rfl | simp)) | (simp [*]; done)), rfl, rfl, H', ⟨by have := HJ2.out; have := HJ15.out; have := HJ48.out; have := HK4.out; omega⟩, ⟨uS HO_6.out⟩, ⟨by (with_reducible repeat (first | apply Kd.R_alloc | apply Kd.R_drewN | apply Kd.R_drew)); exact Kd.R_mono HO_8.out (fun _ hk => hk.2)⟩, ⟨uR HO631.out⟩, ⟨uK BK604.out⟩, ⟨uB HB.out⟩⟩
                   ·rw [if_neg c61] at H
                    cases H
                  ·replace c60 := Bool.eq_false_iff.mpr c60
                   subst c60
                   replace H := uJ uN0 H
                   by_cases c67 : x12_4.length + ((rd_T39 t612 x15_4).f0).length < 140737488355328
                   ·rw [if_pos c67] at H
                    have LMc67 := Aside0.mk c67
                    clear c67
                    obtain ⟨y635, Ny635⟩ := uEA ((x12_4 ++ ((rd_T39 t612 x15_4).f0)) : List Int)
                    rw [← Ny635.out] at H
                    obtain ⟨ji68, hji68⟩ : ∃ j_ : Int, (mx x13_4 ((rd_T39 t612 x15_4).f1)) = j_ := ⟨_, rfl⟩
                    first | rw [hji68] at H | simp only [hji68] at H
                    (try rw [hji68] at A58)
                    have hji68_ : (if x13_4 < ((rd_T39 t612 x15_4).f1) then ((rd_T39 t612 x15_4).f1) else x13_4) = ji68 := hji68
                    have H' := Aside0.mk H
                    clear H
                    obtain ⟨Ao69, co69, eo69⟩ := Kd.S_slice HO_6.out
                    subst eo69
                    try go_wp2
                    replace HO_6 := uA (Kd.S_drew HO_6.out); replace HO_8 := uA (Kd.R_drew HO_8.out); replace HO_12 := uA (Kd.R_drew HO_12.out); replace BK604 := uA (blk_drew BK604.out); replace HB := uA (below_drew1 HB.out)
                    have p626 : 0 ≤ (x15_4 : Int) := of_decide_eq_true (by first | (with_reducible assumption) | assumption)
                    have q626 : x15_4 < (t612.length : Int) := of_decide_eq_true (by first | (with_reducible assumption) | assumption)
                    obtain ⟨ad626, A626_0, c626_0, e626, hx626_0, hx626_1, hx626_2, hl626_0, hi626_0⟩ := at_T39 (Kd.S_reads' HO_6.out).2.2 x15_4 p626 q626
                    cases e626
                    obtain ⟨ce626, hce626, hMe626, hcc626⟩ := Kd.S_get HO_6.out z39 x15_4 p626 (by first | exact q626 | exact of_decide_eq_true (by first | (with_reducible assumption) | assumption) | (have e_ := (Kd.S_reads' HO_6.out).1; omega))
                    obtain ⟨ve626_0, rfl, ge626_0⟩ := k39_openM hMe626
                    have hv626_0 := hcc626 0 _ rfl
                    rw [Nat.add_zero] at hv626_0
                    replace hv626_0 := Option.some.inj (hv626_0.symm.trans hx626_0)
                    rw [hv626_0] at ge626_0
                    have HL626_0 := Aside0.mk (show Kd.R (Kd.int .u8) 5 _ _ _ _ ((rd_T39 t612 x15_4).f0) from ge626_0)
                    clear hv626_0 ge626_0
                    clear hcc626 hce626
                    have HR626_0 := Aside0.mk hi626_0
                    have HC626_0 := Aside0.mk hl626_0
                    clear hi626_0 hl626_0
                    replace p626 := eq_true p626
                    replace q626 := eq_true q626
                    refine start_ (n := 9) (S := fun w' => w'.cell? ⟨gb604, 0, none⟩ = some (.int .i64 a0_0) ∧ w'.cell? ⟨gb604, 1, none⟩ = some (.int .i64 a0_1) ∧ w'.cell? ⟨gb604, 2, none⟩ = some (.int .i64 a0_2) ∧ w'.cell? ⟨gb604, 3, none⟩ = some (.int .i64 a0_3) ∧ w'.cell? ⟨gb604, 4, none⟩ = some (.int .i64 a0_4) ∧ w'.cell? (ad626.add ((x15_4).toNat * 3)) = some (.slice A626_0 ((rd_T39 t612 x15_4).f0).length c626_0) ∧ w'.cell? ⟨(ad626.add ((x15_4).toNat * 3)).block, (ad626.add ((x15_4).toNat * 3)).off + 1, none⟩ = some (.int .i64 ((rd_T39 t612 x15_4).f1)) ∧ w'.cell? ⟨(ad626.add ((x15_4).toNat * 3)).block, (ad626.add ((x15_4).toNat * 3)).off + 2, none⟩ = some (.int .i64 ((rd_T39 t612 x15_4).f2))) (ds := []) #[false, false, false, false, false, false, false, false, false] (by kernel_rfl) rfl rfl ⟨(blk_cell BK604.out 0).trans rfl, (blk_cell BK604.out 1).trans rfl, (blk_cell BK604.out 2).trans rfl, (blk_cell BK604.out 3).trans rfl, (blk_cell BK604.out 4).trans rfl, hx626_0, hx626_1, hx626_2⟩ (fun hHeld => ?_); refine with_tabW casematelaw06_EccUnpacks.tab21 casematelaw06_EccUnpacks.bits21 (fun HT_ HW_ => ?_)
                    generalize wr.drew = w70 at HO_6 HO_8 HO_12 BK604 HB HL626_0 HR626_0 hx626_0 hx626_1 hx626_2 hHeld ⊢
                    refine uP HT_ 1 (some 117) (lb 9 2) ?_
                    refine uP HT_ 2 (some 118) (lb 9 6) ?_
                    refine uP HT_ 3 (some 119) (lb 9 14) ?_
                    refine uP HT_ 4 (some 120) (lb 9 30) ?_
                    refine uP HT_ 5 (some 121) (lb 9 62) ?_
                    refine uT HT_ HW_ 0 (some 116) (lb 9 63) rfl hHeld ?_ (by rintro w' ⟨s0, s1, s2, s3, s4, s5, s6, s7⟩; go_simp; with_reducible rfl)
                    refine uT HT_ HW_ 6 (some 122) (lb 9 127) rfl hHeld ?_ (by rintro w' ⟨s0, s1, s2, s3, s4, s5, s6, s7⟩; go_simp; with_reducible rfl)
                    refine one_ (i := 7) (N := some 123) #[true, true, true, true, true, true, true, true, false] rfl rfl (one_of HT_.out (by kernel_rfl)) (by decide) (fun K hK => ?_)
                    refine goes_ Try.func24 (by kernel_rfl) rfl #[.agg #[.int .i64 a0_0, .int .i64 a0_1, .int .i64 a0_2, .int .i64 a0_3, .int .i64 a0_4], .slice A1 l1.length c1, .int .i64 x15_4, .agg #[.slice A626_0 ((rd_T39 t612 x15_4).f0).length c626_0, .int .i64 ((rd_T39 t612 x15_4).f1), .int .i64 ((rd_T39 t612 x15_4).f2)]] (by rfl) rfl rfl (by (try simp only [List.map_toArray, List.map_cons, List.map_nil]); first | done | rfl | (simp only [List.length_drop, List.length_take]; rfl)) ?_
                    with_reducible refine (casemateref06_Near.calls k4 a0_0 a0_1 a0_2 a0_3 a0_4 _ _ l1 x15_4 _ _ ((rd_T39 t612 x15_4).f0) ((rd_T39 t612 x15_4).f1) ((rd_T39 t612 x15_4).f2) true _ ?side1 ?side2 ?side3 ?side4 A58.out).mono ?_
                    (case side1 => exact uC (Kd.C_below HR1.out HB.out))
                    (case side2 => exact HC1.out)
                    (case side3 => repeat (first | exact (by repeat (first | (with_reducible exact HR626_0.out) | (with_reducible refine Kd.C_alloc ?_ _) | (with_reducible refine Kd.C_drewN ?_ _) | (with_reducible refine Kd.C_drew ?_) | exact HR626_0.out)) | (with_reducible refine Kd.C_alloc ?_ _) | (with_reducible refine Kd.C_drewN ?_ _) | (with_reducible refine Kd.C_drew ?_)))
                    (case side4 => exact HC626_0.out)
                    rintro e w71 ⟨rfl, hb⟩
                    have HS5_ := (hb.cell (World.block_lt_of_cell? _ _ (hHeld.2.2.2.2.2.1))).trans (hHeld.2.2.2.2.2.1)
                    have HS6_ := (hb.cell (World.block_lt_of_cell? _ _ (hHeld.2.2.2.2.2.2.1))).trans (hHeld.2.2.2.2.2.2.1)
                    have HS7_ := (hb.cell (World.block_lt_of_cell? _ _ (hHeld.2.2.2.2.2.2.2))).trans (hHeld.2.2.2.2.2.2.2)
                    refine ⟨_, rfl, ?_⟩
                    replace HO_6 := uSb HO_6 hb; replace HO_8 := uRb HO_8 hb; replace HO_12 := uRb HO_12 hb; replace HL626_0 := uRb HL626_0 hb; replace BK604 := uKb BK604 hb; replace HR626_0 := uA (Kd.C_below (by repeat (first | (with_reducible exact HR626_0.out) | (with_reducible refine Kd.C_alloc ?_ _) | (with_reducible refine Kd.C_drewN ?_ _) | (with_reducible refine Kd.C_drew ?_) | exact HR626_0.out)) hb); replace HB := uBb HB hb
                    refine hK.out _ _ ⟨(blk_cell BK604.out 0).trans rfl, (blk_cell BK604.out 1).trans rfl, (blk_cell BK604.out 2).trans rfl, (blk_cell BK604.out 3).trans rfl, (blk_cell BK604.out 4).trans rfl, HS5_, HS6_, HS7_⟩ (fun hHeld => ?_)
                    clear hK K
                    refine uN (some 123) _ ?_
                    refine uP HT_ 8 (some 124) (lb 9 511) ?_
                    refine done_ (done_of HT_.out (by kernel_rfl)) ?_
                    have p633 : 0 ≤ (x15_4 : Int) := of_decide_eq_true (by first | (with_reducible assumption) | assumption)
                    have q633 : x15_4 < (t612.length : Int) := of_decide_eq_true (by first | (with_reducible assumption) | assumption)
                    obtain ⟨ad633, A633_0, c633_0, e633, hx633_0, hx633_1, hx633_2, hl633_0, hi633_0⟩ := at_T39 (Kd.S_reads' HO_6.out).2.2 x15_4 p633 q633
                    obtain rfl : ad626 = ad633 := (by injection e633)
                    obtain ⟨ce633, hce633, hMe633, hcc633⟩ := Kd.S_get HO_6.out z39 x15_4 p633 (by first | exact q633 | exact of_decide_eq_true (by first | (with_reducible assumption) | assumption) | (have e_ := (Kd.S_reads' HO_6.out).1; omega))
                    obtain ⟨ve633_0, rfl, ge633_0⟩ := k39_openM hMe633
                    have hv633_0 := hcc633 0 _ rfl
                    rw [Nat.add_zero] at hv633_0
                    replace hv633_0 := Option.some.inj (hv633_0.symm.trans hx633_0)
                    rw [hv633_0] at ge633_0
                    have HL633_0 := Aside0.mk (show Kd.R (Kd.int .u8) 5 _ _ _ _ ((rd_T39 t612 x15_4).f0) from ge633_0)
                    clear hv633_0 ge633_0
                    clear hcc633 hce633
                    have HR633_0 := Aside0.mk hi633_0
                    have HC633_0 := Aside0.mk hl633_0
                    clear hi633_0 hl633_0
                    replace p633 := eq_true p633
                    replace q633 := eq_true q633
                    have p634 : 0 ≤ (x15_4 : Int) := of_decide_eq_true (by first | (with_reducible assumption) | assumption)
                    have q634 : x15_4 < (t612.length : Int) := of_decide_eq_true (by first | (with_reducible assumption) | assumption)
                    obtain ⟨ad634, A634_0, c634_0, e634, hx634_0, hx634_1, hx634_2, hl634_0, hi634_0⟩ := at_T39 (Kd.S_reads' HO_6.out).2.2 x15_4 p634 q634
                    obtain rfl : ad626 = ad634 := (by injection e634)
                    obtain ⟨ce634, hce634, hMe634, hcc634⟩ := Kd.S_get HO_6.out z39 x15_4 p634 (by first | exact q634 | exact of_decide_eq_true (by first | (with_reducible assumption) | assumption) | (have e_ := (Kd.S_reads' HO_6.out).1; omega))
                    obtain ⟨ve634_0, rfl, ge634_0⟩ := k39_openM hMe634
                    have hv634_0 := hcc634 0 _ rfl
                    rw [Nat.add_zero] at hv634_0
                    replace hv634_0 := Option.some.inj (hv634_0.symm.trans hx634_0)
                    rw [hv634_0] at ge634_0
                    have HL634_0 := Aside0.mk (show Kd.R (Kd.int .u8) 5 _ _ _ _ ((rd_T39 t612 x15_4).f0) from ge634_0)
                    clear hv634_0 ge634_0
                    clear hcc634 hce634
                    have HR634_0 := Aside0.mk hi634_0
                    have HC634_0 := Aside0.mk hl634_0
                    clear hi634_0 hl634_0
                    replace p634 := eq_true p634
                    replace q634 := eq_true q634
                    have ea_ := Option.some.inj (hx633_0.symm.trans hx634_0)
                    injection ea_ with ea_ en_ ec_
                    subst ea_
                    subst ec_
                    clear en_
                    try go_wp2_with (first | ((with_reducible refine gate_builtin (b := .append) (xs := #[.tmp 134, .tmp 139]) rfl ?_); (try (refine gate_guard (by rfl) ?_; dsimp only)); at_builtin; refine Kd.R_append_rows (Kd.int .u8) (w0 := w) w.heap.size rfl (.tmp 134) (.tmp 139) 26 5 (.int .u8 0) 1 rfl Try.underlying26 info5 rfl (by decide) (by omega) u12 x12_4 ((rd_T39 t612 x15_4).f0) _ _ _ (fun k_ => some k_ ≠ (v617 : Value).ownBlock) (fun _ => False) rfl rfl ?aO ?aR (fun _ _ h => h) (fun _ h => h.elim) ?aF ?aB ?aS ?aL ?_; (case aR => repeat (first | exact (by repeat (first | (with_reducible exact HR634_0.out) | (with_reducible refine Kd.C_alloc ?_ _) | (with_reducible refine Kd.C_drewN ?_ _) | (with_reducible refine Kd.C_drew ?_) | exact HR634_0.out | exact HR626_0.out)) | (with_reducible refine Kd.C_alloc ?_ _) | (with_reducible refine Kd.C_drewN ?_ _) | (with_reducible refine Kd.C_drew ?_))); (case aB => exact (uB HB.out)); (case aF => exact (fun k_ hk => Kd.fresh' (Kd.R_lt (uR HO_8.out)) k_ hk)); (case aO => exact (uR HO_12.out)); (case aS => exact (below_size (uB HB.out))); (case aL => have := LMc67.out; omega); intro v636 w72 ho hb hg hat; rw [← Ny635.out] at ho; have n0_ := Aside0.mk (Kd.S_after (ok := (fun k_ => some k_ ≠ (v617 : Value).ownBlock)) (uS HO_6.out) hg hat); have n1_ := Aside0.mk (Kd.R_after (ok := (fun _ => True)) (by (with_reducible repeat (first | apply Kd.R_alloc | apply Kd.R_drewN | apply Kd.R_drew)); exact Kd.R_mono HO_8.out (fun _ hk => ⟨trivial, hk⟩)) hg hat); have n2_ := Aside0.mk (blk_grown (g := gb604) (o := .cells #[.int .i64 a0_0, .int .i64 a0_1, .int .i64 a0_2, .int .i64 a0_3, .int .i64 a0_4] 23 (0, 0)) (uK BK604.out) hg (Kd.R_ne HO_12.out BK604.out (by decide))); have n3_ := Aside0.mk (Kd.R_after (ok := (fun k_ => some k_ ≠ (.slice (some ad626) t612.length co69 : Value).ownBlock ∧ some k_ ≠ (v617 : Value).ownBlock)) (by (with_reducible repeat (first | apply Kd.R_alloc | apply Kd.R_drewN | apply Kd.R_drew)); exact Kd.R_mono HL626_0.out (fun _ hk => ⟨⟨hk.2, hk.1.1⟩, hk.1.2⟩)) hg hat); have n4_ := Aside0.mk (Kd.R_after (ok := (fun k_ => some k_ ≠ (.slice (some ad626) t612.length co69 : Value).ownBlock ∧ some k_ ≠ (v617 : Value).ownBlock)) (by (with_reducible repeat (first | apply Kd.R_alloc | apply Kd.R_drewN | apply Kd.R_drew)); exact Kd.R_mono HL633_0.out (fun _ hk => ⟨⟨hk.2, hk.1.1⟩, hk.1.2⟩)) hg hat); have n5_ := Aside0.mk (Kd.R_after (ok := (fun k_ => some k_ ≠ (.slice (some ad626) t612.length co69 : Value).ownBlock ∧ some k_ ≠ (v617 : Value).ownBlock)) (by (with_reducible repeat (first | apply Kd.R_alloc | apply Kd.R_drewN | apply Kd.R_drew)); exact Kd.R_mono HL634_0.out (fun _ hk => ⟨⟨hk.2, hk.1.1⟩, hk.1.2⟩)) hg hat); have n6_ := Aside0.mk (hb); have n7_ := Aside0.mk (ho); clear HO_6; clear HO_8; clear BK604; clear HL626_0; clear HL633_0; clear HL634_0; clear HB; clear HO_12; have HO_6 := n0_; have HO_8 := n1_; have BK604 := n2_; have HL626_0 := n3_; have HL633_0 := n4_; have HL634_0 := n5_; have HB := n6_; have HO637 := n7_; clear n0_ n1_ n2_ n3_ n4_ n5_ n6_ n7_; clear ho hb hg hat; have p638 : 0 ≤ (x15_4 : Int) := of_decide_eq_true (by first | (with_reducible assumption) | assumption); have q638 : x15_4 < (t612.length : Int) := of_decide_eq_true (by first | (with_reducible assumption) | assumption); obtain ⟨ad638, A638_0, c638_0, e638, hx638_0, hx638_1, hx638_2, hl638_0, hi638_0⟩ := at_T39 (Kd.S_reads' HO_6.out).2.2 x15_4 p638 q638; obtain rfl : ad626 = ad638 := (by injection e638); obtain ⟨ce638, hce638, hMe638, hcc638⟩ := Kd.S_get HO_6.out z39 x15_4 p638 (by first | exact q638 | exact of_decide_eq_true (by first | (with_reducible assumption) | assumption) | (have e_ := (Kd.S_reads' HO_6.out).1; omega)); obtain ⟨ve638_0, rfl, ge638_0⟩ := k39_openM hMe638; have hv638_0 := hcc638 0 _ rfl; rw [Nat.add_zero] at hv638_0; replace hv638_0 := Option.some.inj (hv638_0.symm.trans hx638_0); rw [hv638_0] at ge638_0; have HL638_0 := Aside0.mk (show Kd.R (Kd.int .u8) 5 _ _ _ _ ((rd_T39 t612 x15_4).f0) from ge638_0); clear hv638_0 ge638_0; clear hcc638 hce638; have HR638_0 := Aside0.mk hi638_0; have HC638_0 := Aside0.mk hl638_0; clear hi638_0 hl638_0; replace p638 := eq_true p638; replace q638 := eq_true q638))
                    go_roundg k4
                    case measure => have := HJ2.out; have := HJ15.out; have := HJ48.out; have := HK4.out; omega
                    case rel => exact ⟨(y635), (ji68), ((((rd_T39 t612 x15_4).f2) != 0)), (wrap64 (x15_4 + 1)), (by first | rfl | (simp; done) | (simp only [← hji68] <;> (first | rfl | simp)) | (simp [*]; done)), rfl, rfl, H', ⟨by have := HJ2.out; have := HJ15.out; have := HJ48.out; have := HK4.out; omega⟩, ⟨uS HO_6.out⟩, ⟨by (with_reducible repeat (first | apply Kd.R_alloc | apply Kd.R_drewN | apply Kd.R_drew)); exact Kd.R_mono HO_8.out (fun _ hk => hk.2)⟩, ⟨uR HO637.out⟩, ⟨uK BK604.out⟩, ⟨uB HB.out⟩⟩
                   ·rw [if_neg c67] at H
                    cases H
                 ·replace c59 := Bool.eq_false_iff.mpr c59
                  subst c59
                  have H1 : (some false) = some r := by rw [if_neg (show ¬ (false = true) by decide)] at H; exact H
                  rw [hr_.out] at H1
                  exact absurd H1 (by simp)
                ·rw [if_neg c57] at H
                 cases H
               ·rw [if_neg c56] at H
                have c56b0 : decide (x15_4 < (t612.length : Int)) = false := decide_eq_false c56
                clear c56
                by_cases c76 : x14_4 = true
                ·subst c76
                 replace H := uI rfl H
                 obtain ⟨t639, A77, H⟩ := uO H
                 by_cases c78 : t639 = true
                 ·subst c78
                  replace H := uI rfl H
                  by_cases c79 : t620 = 50
                  ·rw [if_pos c79] at H
                   have c79b0 : (t620 == 50) = true := beq_iff_eq.mpr c79
                   have c79b1 : (t620 != 50) = false := bne_eq_false_iff_eq.mpr c79
                   clear c79
                   obtain rfl := Option.some.inj H
                   obtain ⟨Ao80, co80, eo80⟩ := Kd.S_slice HO_6.out
                   subst eo80
                   go_wp2_with (first | ((with_reducible refine gate_callee (f := 16) rfl ?_); refine uG (some 149) Try.func16 #[] ?_; (with_reducible refine (casematelaw06_awake.calls k4  true _ A77.out).mono ?_); rintro e w81 ⟨rfl, hb⟩; refine ⟨_, rfl, ?_⟩; replace HO_6 := uSb HO_6 hb; replace HO_8 := uRb HO_8 hb; replace HO_12 := uRb HO_12 hb; replace BK604 := uKb BK604 hb; replace HB := uBb HB hb; obtain ⟨Ao82, co82, eo82⟩ := Kd.R_slice HO_8.out; subst eo82))
                   go_ret
                   exact ⟨rfl, uB HB.out⟩
                  ·rw [if_neg c79] at H
                   (try rw [hr_.out] at H)
                   cases H
                 ·replace c78 := Bool.eq_false_iff.mpr c78
                  subst c78
                  have H1 : (some false) = some r := by rw [if_neg (show ¬ (false = true) by decide)] at H; exact H
                  rw [hr_.out] at H1
                  exact absurd H1 (by simp)
                ·replace c76 := Bool.eq_false_iff.mpr c76
                 subst c76
                 replace H := uJ uN0 H
                 obtain ⟨t640, A87, H⟩ := uO H
                 by_cases c88 : t640 = true
                 ·subst c88
                  replace H := uI rfl H
                  by_cases c89 : t620 = 0
                  ·rw [if_pos c89] at H
                   have c89b0 : (t620 == 0) = true := beq_iff_eq.mpr c89
                   have c89b1 : (t620 != 0) = false := bne_eq_false_iff_eq.mpr c89
                   clear c89
                   by_cases c90 : (strOfNums t616).toList = (strOfNums x12_4).toList
                   ·rw [if_pos c90] at H
                    have c90b0 : ((strOfNums t616).toList == (strOfNums x12_4).toList) = true := beq_iff_eq.mpr c90
                    have c90b1 : ((strOfNums t616).toList != (strOfNums x12_4).toList) = false := bne_eq_false_iff_eq.mpr c90
                    clear c90
                    obtain rfl := Option.some.inj H
                    obtain ⟨Ao91, co91, eo91⟩ := Kd.S_slice HO_6.out
                    subst eo91
                    go_wp2_with (first | ((with_reducible refine gate_callee (f := 16) rfl ?_); refine uG (some 161) Try.func16 #[] ?_; (with_reducible refine (casematelaw06_awake.calls k4  true _ A87.out).mono ?_); rintro e w92 ⟨rfl, hb⟩; refine ⟨_, rfl, ?_⟩; replace HO_6 := uSb HO_6 hb; replace HO_8 := uRb HO_8 hb; replace HO_12 := uRb HO_12 hb; replace BK604 := uKb BK604 hb; replace HB := uBb HB hb; have hcv93 := own_string (P := Try.prog) Try.underlying26 Try.underlying5 Try.underlying9 (Kd.own_of_R HO_8.out); have hcv94 := own_string (P := Try.prog) Try.underlying26 Try.underlying5 Try.underlying9 (Kd.own_of_R HO_12.out)))
                    go_ret
                    exact ⟨rfl, uB HB.out⟩
                   ·rw [if_neg c90] at H
                    (try rw [hr_.out] at H)
                    cases H
                  ·rw [if_neg c89] at H
                   (try rw [hr_.out] at H)
                   cases H
                 ·replace c88 := Bool.eq_false_iff.mpr c88
                  subst c88
                  have H1 : (some false) = some r := by rw [if_neg (show ¬ (false = true) by decide)] at H; exact H
                  rw [hr_.out] at H1
                  exact absurd H1 (by simp)
         ·rw [if_neg c48] at H
          have c48b0 : (t624 == 0) = false := beq_eq_false_iff_ne.mpr c48
          have c48b1 : (t624 != 0) = true := bne_iff_ne.mpr c48
          obtain ⟨t625, A103, H⟩ := uO H
          by_cases c104 : t625 = true
          ·subst c104
           replace H := uI rfl H
           by_cases c105 : t615 = t624
           ·rw [if_pos c105] at H
            have c105b0 : (t615 == t624) = true := beq_iff_eq.mpr c105
            have c105b1 : (t615 != t624) = false := bne_eq_false_iff_eq.mpr c105
            clear c105
            by_cases c106 : t620 = t624
            ·rw [if_pos c106] at H
             have c106b0 : (t620 == t624) = true := beq_iff_eq.mpr c106
             have c106b1 : (t620 != t624) = false := bne_eq_false_iff_eq.mpr c106
             clear c106
             obtain rfl := Option.some.inj H
             obtain ⟨_, _, _, _, _, _, _, _, _, _⟩ := uZ BK604
             go_wp2_with (first | ((with_reducible refine gate_callee (f := 23) rfl ?_); refine uG (some 77) Try.func23 #[.agg #[.int .i64 a0_0, .int .i64 a0_1, .int .i64 a0_2, .int .i64 a0_3, .int .i64 a0_4], .slice A1 l1.length c1] ?_; (with_reducible refine (casemateref06_Marked.calls kj15 a0_0 a0_1 a0_2 a0_3 a0_4 _ _ l1 t624 _ ?side1 ?side2 A47.out).mono ?_); (case side1 => exact uC (Kd.C_below HR1.out HB.out)); (case side2 => exact HC1.out); rintro e w108 ⟨rfl, hb⟩; refine ⟨_, rfl, ?_⟩; replace HO_6 := uSb HO_6 hb; replace HO_8 := uRb HO_8 hb; replace BK604 := uKb BK604 hb; replace HB := uBb HB hb) | ((with_reducible refine gate_callee (f := 16) rfl ?_); refine uG (some 80) Try.func16 #[] ?_; (with_reducible refine (casematelaw06_awake.calls kj15  true _ A103.out).mono ?_); rintro e w109 ⟨rfl, hb⟩; refine ⟨_, rfl, ?_⟩; replace HO_6 := uSb HO_6 hb; replace HO_8 := uRb HO_8 hb; replace BK604 := uKb BK604 hb; replace HB := uBb HB hb; obtain ⟨Ao110, co110, eo110⟩ := Kd.S_slice HO_6.out; subst eo110; obtain ⟨Ao111, co111, eo111⟩ := Kd.R_slice HO_8.out; subst eo111))
             go_ret
             exact ⟨rfl, uB HB.out⟩
            ·rw [if_neg c106] at H
             (try rw [hr_.out] at H)
             cases H
           ·rw [if_neg c105] at H
            (try rw [hr_.out] at H)
            cases H
          ·replace c104 := Bool.eq_false_iff.mpr c104
           subst c104
           have H1 : (some false) = some r := by rw [if_neg (show ¬ (false = true) by decide)] at H; exact H
           rw [hr_.out] at H1
           exact absurd H1 (by simp)
     ·rw [if_neg c15] at H
      (try rw [hr_.out] at H)
      cases H
    ·rw [if_neg c12] at H
     cases H
end Go.Proofs.Ytfpdloccmneabaa.P

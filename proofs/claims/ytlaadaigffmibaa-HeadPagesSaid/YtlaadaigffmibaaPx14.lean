/- What Go functions of the translation come to, as plain functions, and that their calls come to just that. No condition but that the plain function answers. (Written by a program of this session.) -/
import Derived.Test.YtlaadaigffmibaaPx0
import Derived.Test.YtlaadaigffmibaaPx2
import Derived.Test.YtlaadaigffmibaaPx4
namespace Go.Proofs.Ytlaadaigffmibaa.P
open Go.RowKit Go.Proofs.YtlaadaigffmibaaW.PrintWords Go.Proofs.YtlaadaigffmibaaW.PrintLast Go.Proofs.YtlaadaigffmibaaW.PrintMore
attribute [local go_sem] max2_int min2_int max_two min_two max_three min_three max_four min_four   -- for this text's walks alone
set_option linter.unusedVariables false
set_option linter.unusedSimpArgs false

/-! ### casematelaw09_HeadPages: function 7 -/
def casematelaw09_HeadPages.j0 : Nat → Int → Int → Int → Int → Int → Bool → Int → Int → Int → Int → Int → Option (Bool)
  | 0, _, _, _, _, _, _, _, _, _, _, _ => none
  | k + 1, x1, x2, x7, x9, x11, x42, x257000, x257001, x257002, x257003, x257004 => if x42 = true then ((casematelaw09_awake.f).bind fun t263 => (some t263)) else ((head_Pages.f x257000 x257001 x257002 x257003 x257004 x11).bind fun bt264 => ((casematelaw09_awake.f).bind fun t266 => (if t266 = true then (if bt264.2 = 0 then (if x1 > x2 then (if (wrap64 (x7 * (wrap64 (x257002 * x257003)))) ≥ x1 then (if x7 = 0 then (some (bt264.1 == (wrap64 (x257001 - 1)))) else (if (wrap64 ((wrap64 (x7 - 1)) * (wrap64 (x257002 * x257003)))) < x1 then (some (bt264.1 == (wrap64 (x257001 - 1)))) else (some false))) else (some false)) else (if x7 ≤ x9 then (if (wrap64 (x7 * (wrap64 (x257002 * x257003)))) ≥ x1 then (if x7 = 0 then (some (bt264.1 == (wrap64 (x257001 - 1)))) else (if (wrap64 ((wrap64 (x7 - 1)) * (wrap64 (x257002 * x257003)))) < x1 then (some (bt264.1 == (wrap64 (x257001 - 1)))) else (some false))) else (some false)) else (some false))) else (some false)) else (some false))))
def casematelaw09_HeadPages.f (k : Nat) (a0_0 : Int) (a0_1 : Int) (a0_2 : Int) (a0_3 : Int) (a0_4 : Int) (a1 : Int) (a2 : Int) : Option (Bool) := (head_Pages.f a0_0 a0_1 a0_2 a0_3 a0_4 a1).bind fun bt257 => ((head_Pages.f a0_0 a0_1 a0_2 a0_3 a0_4 a2).bind fun bt259 => ((head_Cap.f a0_0 a0_1 a0_2 a0_3 a0_4).bind fun bt261 => (if bt257.2 = 0 then (if bt259.2 = 0 then (casematelaw09_HeadPages.j0 k a1 a2 bt257.1 bt259.1 bt261.1 (bt261.2 != 0) a0_0 a0_1 a0_2 a0_3 a0_4) else (casematelaw09_HeadPages.j0 k a1 a2 bt257.1 bt259.1 bt261.1 true a0_0 a0_1 a0_2 a0_3 a0_4)) else (casematelaw09_HeadPages.j0 k a1 a2 bt257.1 bt259.1 bt261.1 true a0_0 a0_1 a0_2 a0_3 a0_4))))
theorem casematelaw09_HeadPages.mono_l : ∀ k, (∀ y0 y1 y2 y3 y4 y5 y6 y7 y8 y9 y10, LeO (casematelaw09_HeadPages.j0 k y0 y1 y2 y3 y4 y5 y6 y7 y8 y9 y10) (casematelaw09_HeadPages.j0 (k + 1) y0 y1 y2 y3 y4 y5 y6 y7 y8 y9 y10))
  | 0 => fun _ _ _ _ _ _ _ _ _ _ _ r h => by simp [casematelaw09_HeadPages.j0] at h
  | k + 1 => by
    have ih0 := casematelaw09_HeadPages.mono_l k
    · intro y0 y1 y2 y3 y4 y5 y6 y7 y8 y9 y10
      unfold casematelaw09_HeadPages.j0
      repeat' first
      | (with_reducible exact ih0 _ _ _ _ _ _ _ _ _ _ _)
      | (with_reducible exact LeO.refl _)
      | (with_reducible exact LeO.none _)
      | (with_reducible refine LeO.ite ?_ ?_)
      | (with_reducible refine LeO.bind ?_ (fun _ => ?_))
      | exact ih0 _ _ _ _ _ _ _ _ _ _ _
      | exact LeO.none _
      | refine LeO.ite ?_ ?_
      | refine LeO.bind ?_ (fun _ => ?_)
theorem casematelaw09_HeadPages.mono : ∀ a0 a1 a2 a3 a4 a5 a6 k, LeO (casematelaw09_HeadPages.f k a0 a1 a2 a3 a4 a5 a6) (casematelaw09_HeadPages.f (k + 1) a0 a1 a2 a3 a4 a5 a6) := by
  intro a0 a1 a2 a3 a4 a5 a6 k
  have ih0 := casematelaw09_HeadPages.mono_l k
  unfold casematelaw09_HeadPages.f
  repeat' first
      | (with_reducible exact ih0 _ _ _ _ _ _ _ _ _ _ _)
      | (with_reducible exact LeO.refl _)
      | (with_reducible exact LeO.none _)
      | (with_reducible refine LeO.ite ?_ ?_)
      | (with_reducible refine LeO.bind ?_ (fun _ => ?_))
      | exact ih0 _ _ _ _ _ _ _ _ _ _ _
      | exact LeO.none _
      | refine LeO.ite ?_ ?_
      | refine LeO.bind ?_ (fun _ => ?_)
set_option maxHeartbeats 8000000 in
set_option maxRecDepth 100000 in
theorem casematelaw09_HeadPages.calls (k : Nat) (a0_0 : Int) (a0_1 : Int) (a0_2 : Int) (a0_3 : Int) (a0_4 : Int) (a1 : Int) (a2 : Int) (r : Bool) (w : World) (h : casematelaw09_HeadPages.f k a0_0 a0_1 a0_2 a0_3 a0_4 a1 a2 = some r) :
    Calls Try.prog 7 #[.agg #[.int .i64 a0_0, .int .i64 a0_1, .int .i64 a0_2, .int .i64 a0_3, .int .i64 a0_4], .int .i64 a1, .int .i64 a2] w fun e w' => e = .returned (.bool r) ∧ Below w.heap.size w w' := by
  have hu23 := Try.underlying23
  have HB := Aside0.mk (Below.refl w.heap.size w)
  have H : ((head_Pages.f a0_0 a0_1 a0_2 a0_3 a0_4 a1).bind fun bt257 => ((head_Pages.f a0_0 a0_1 a0_2 a0_3 a0_4 a2).bind fun bt259 => ((head_Cap.f a0_0 a0_1 a0_2 a0_3 a0_4).bind fun bt261 => (if bt257.2 = 0 then (if bt259.2 = 0 then (casematelaw09_HeadPages.j0 k a1 a2 bt257.1 bt259.1 bt261.1 (bt261.2 != 0) a0_0 a0_1 a0_2 a0_3 a0_4) else (casematelaw09_HeadPages.j0 k a1 a2 bt257.1 bt259.1 bt261.1 true a0_0 a0_1 a0_2 a0_3 a0_4)) else (casematelaw09_HeadPages.j0 k a1 a2 bt257.1 bt259.1 bt261.1 true a0_0 a0_1 a0_2 a0_3 a0_4))))) = some r := h
  clear h
  replace H := Option.bind_eq_some_iff.mp H
  obtain ⟨⟨t257, t258⟩, A40, H⟩ := H
  replace H : ((head_Pages.f a0_0 a0_1 a0_2 a0_3 a0_4 a2).bind fun bt259 => ((head_Cap.f a0_0 a0_1 a0_2 a0_3 a0_4).bind fun bt261 => (if t258 = 0 then (if bt259.2 = 0 then (casematelaw09_HeadPages.j0 k a1 a2 t257 bt259.1 bt261.1 (bt261.2 != 0) a0_0 a0_1 a0_2 a0_3 a0_4) else (casematelaw09_HeadPages.j0 k a1 a2 t257 bt259.1 bt261.1 true a0_0 a0_1 a0_2 a0_3 a0_4)) else (casematelaw09_HeadPages.j0 k a1 a2 t257 bt259.1 bt261.1 true a0_0 a0_1 a0_2 a0_3 a0_4)))) = some r := H
  have A4 := Aside0.mk A40
  clear A40
  replace H := Option.bind_eq_some_iff.mp H
  obtain ⟨⟨t259, t260⟩, A50, H⟩ := H
  replace H : ((head_Cap.f a0_0 a0_1 a0_2 a0_3 a0_4).bind fun bt261 => (if t258 = 0 then (if t260 = 0 then (casematelaw09_HeadPages.j0 k a1 a2 t257 t259 bt261.1 (bt261.2 != 0) a0_0 a0_1 a0_2 a0_3 a0_4) else (casematelaw09_HeadPages.j0 k a1 a2 t257 t259 bt261.1 true a0_0 a0_1 a0_2 a0_3 a0_4)) else (casematelaw09_HeadPages.j0 k a1 a2 t257 t259 bt261.1 true a0_0 a0_1 a0_2 a0_3 a0_4))) = some r := H
  have A5 := Aside0.mk A50
  clear A50
  replace H := Option.bind_eq_some_iff.mp H
  obtain ⟨⟨t261, t262⟩, A60, H⟩ := H
  replace H : (if t258 = 0 then (if t260 = 0 then (casematelaw09_HeadPages.j0 k a1 a2 t257 t259 t261 (t262 != 0) a0_0 a0_1 a0_2 a0_3 a0_4) else (casematelaw09_HeadPages.j0 k a1 a2 t257 t259 t261 true a0_0 a0_1 a0_2 a0_3 a0_4)) else (casematelaw09_HeadPages.j0 k a1 a2 t257 t259 t261 true a0_0 a0_1 a0_2 a0_3 a0_4)) = some r := H
  have A6 := Aside0.mk A60
  clear A60
  have HC7 := Aside0.mk H
  clear H
  go_enter Try.func7, Try.ntmps7
  go_upto_region 4 with (first | ((with_reducible refine gate_dst (N := 3) rfl ?_); refine box_event ?hg (N := 3) ?hd (cs := #[.int .i64 a0_0, .int .i64 a0_1, .int .i64 a0_2, .int .i64 a0_3, .int .i64 a0_4]) (t := 23) ?hr ?_; (case hd => rfl); (case hg => rfl); (case hr => first | (go_simp; done) | (go_simp; rfl)); intro gb256 hg w8 hbox hb; have n0_ := Aside0.mk (below_step (by repeat (first | (with_reducible first | exact HB.out | apply below_alloc | apply pw_below_drewN | apply below_drew1) | exact HB.out)) hb); have n1_ := Aside0.mk (hbox); have n2_ := Aside0.mk ((by rw [hg]; exact (below_size (by repeat (first | (with_reducible first | exact HB.out | apply below_alloc | apply pw_below_drewN | apply below_drew1) | exact HB.out))) : w.heap.size ≤ gb256)); have n3_ := Aside0.mk ((by rw [hg]; exact (below_size (by repeat (first | (with_reducible first | exact HB.out | apply below_alloc | apply pw_below_drewN | apply below_drew1) | exact HB.out))) : w.heap.size ≤ gb256)); clear HB; have HB := n0_; have BK256 := n1_; have GW256 := n2_; have GE256 := n3_; clear n0_ n1_ n2_ n3_; clear hb hbox hg; have hcz9_0 : w8.cell? ⟨gb256, 0, none⟩ = some (.int .i64 a0_0) := (blk_cell BK256.out 0).trans rfl; have hcz9_1 : w8.cell? ⟨gb256, 1, none⟩ = some (.int .i64 a0_1) := (blk_cell BK256.out 1).trans rfl; have hcz9_2 : w8.cell? ⟨gb256, 2, none⟩ = some (.int .i64 a0_2) := (blk_cell BK256.out 2).trans rfl; have hcz9_3 : w8.cell? ⟨gb256, 3, none⟩ = some (.int .i64 a0_3) := (blk_cell BK256.out 3).trans rfl; have hcz9_4 : w8.cell? ⟨gb256, 4, none⟩ = some (.int .i64 a0_4) := (blk_cell BK256.out 4).trans rfl; have hfz9_0 := blk_frozen BK256.out 0; have hfz9_1 := blk_frozen BK256.out 1; have hfz9_2 := blk_frozen BK256.out 2; have hfz9_3 := blk_frozen BK256.out 3; have hfz9_4 := blk_frozen BK256.out 4) | ((with_reducible refine gate_callee (f := 9) rfl ?_); refine goesL_ (some 19) rfl rfl Try.func9 (by kernel_rfl) rfl #[.agg #[.int .i64 a0_0, .int .i64 a0_1, .int .i64 a0_2, .int .i64 a0_3, .int .i64 a0_4], .int .i64 a1] rfl (by (try simp only [List.map_toArray, List.map_cons, List.map_nil]); first | done | rfl | (simp only [List.length_drop, List.length_take]; rfl)) ?_; (with_reducible refine (head_Pages.calls a0_0 a0_1 a0_2 a0_3 a0_4 a1 t257 t258 _ A4.out).mono ?_); rintro e w10 ⟨rfl, hb⟩; refine ⟨_, rfl, ?_⟩; have n0_ := Aside0.mk (blk_below (g := gb256) (o := .cells #[.int .i64 a0_0, .int .i64 a0_1, .int .i64 a0_2, .int .i64 a0_3, .int .i64 a0_4] 23 (0, 0)) (by (with_reducible repeat (first | refine blk_drewN ?_ _ | refine blk_drew ?_ | refine blk_alloc ?_ _)); exact BK256.out) hb); have n1_ := Aside0.mk (below_step (by repeat (first | (with_reducible first | exact HB.out | apply below_alloc | apply pw_below_drewN | apply below_drew1 | refine below_set ?_ GE256.out) | exact HB.out)) hb); clear BK256; clear HB; have BK256 := n0_; have HB := n1_; clear n0_ n1_; (try clear hb); (try clear hb2); (try clear hk); (try clear hi); have hcz11_0 : w10.cell? ⟨gb256, 0, none⟩ = some (.int .i64 a0_0) := (blk_cell BK256.out 0).trans rfl; have hcz11_1 : w10.cell? ⟨gb256, 1, none⟩ = some (.int .i64 a0_1) := (blk_cell BK256.out 1).trans rfl; have hcz11_2 : w10.cell? ⟨gb256, 2, none⟩ = some (.int .i64 a0_2) := (blk_cell BK256.out 2).trans rfl; have hcz11_3 : w10.cell? ⟨gb256, 3, none⟩ = some (.int .i64 a0_3) := (blk_cell BK256.out 3).trans rfl; have hcz11_4 : w10.cell? ⟨gb256, 4, none⟩ = some (.int .i64 a0_4) := (blk_cell BK256.out 4).trans rfl; have hfz11_0 := blk_frozen BK256.out 0; have hfz11_1 := blk_frozen BK256.out 1; have hfz11_2 := blk_frozen BK256.out 2; have hfz11_3 := blk_frozen BK256.out 3; have hfz11_4 := blk_frozen BK256.out 4) | ((with_reducible refine gate_callee (f := 9) rfl ?_); refine goesL_ (some 25) rfl rfl Try.func9 (by kernel_rfl) rfl #[.agg #[.int .i64 a0_0, .int .i64 a0_1, .int .i64 a0_2, .int .i64 a0_3, .int .i64 a0_4], .int .i64 a2] rfl (by (try simp only [List.map_toArray, List.map_cons, List.map_nil]); first | done | rfl | (simp only [List.length_drop, List.length_take]; rfl)) ?_; (with_reducible refine (head_Pages.calls a0_0 a0_1 a0_2 a0_3 a0_4 a2 t259 t260 _ A5.out).mono ?_); rintro e w12 ⟨rfl, hb⟩; refine ⟨_, rfl, ?_⟩; have n0_ := Aside0.mk (blk_below (g := gb256) (o := .cells #[.int .i64 a0_0, .int .i64 a0_1, .int .i64 a0_2, .int .i64 a0_3, .int .i64 a0_4] 23 (0, 0)) (by (with_reducible repeat (first | refine blk_drewN ?_ _ | refine blk_drew ?_ | refine blk_alloc ?_ _)); exact BK256.out) hb); have n1_ := Aside0.mk (below_step (by repeat (first | (with_reducible first | exact HB.out | apply below_alloc | apply pw_below_drewN | apply below_drew1 | refine below_set ?_ GE256.out) | exact HB.out)) hb); clear BK256; clear HB; have BK256 := n0_; have HB := n1_; clear n0_ n1_; (try clear hb); (try clear hb2); (try clear hk); (try clear hi); have hcz13_0 : w12.cell? ⟨gb256, 0, none⟩ = some (.int .i64 a0_0) := (blk_cell BK256.out 0).trans rfl; have hcz13_1 : w12.cell? ⟨gb256, 1, none⟩ = some (.int .i64 a0_1) := (blk_cell BK256.out 1).trans rfl; have hcz13_2 : w12.cell? ⟨gb256, 2, none⟩ = some (.int .i64 a0_2) := (blk_cell BK256.out 2).trans rfl; have hcz13_3 : w12.cell? ⟨gb256, 3, none⟩ = some (.int .i64 a0_3) := (blk_cell BK256.out 3).trans rfl; have hcz13_4 : w12.cell? ⟨gb256, 4, none⟩ = some (.int .i64 a0_4) := (blk_cell BK256.out 4).trans rfl; have hfz13_0 := blk_frozen BK256.out 0; have hfz13_1 := blk_frozen BK256.out 1; have hfz13_2 := blk_frozen BK256.out 2; have hfz13_3 := blk_frozen BK256.out 3; have hfz13_4 := blk_frozen BK256.out 4) | ((with_reducible refine gate_callee (f := 8) rfl ?_); refine goesL_ (some 30) rfl rfl Try.func8 (by kernel_rfl) rfl #[.agg #[.int .i64 a0_0, .int .i64 a0_1, .int .i64 a0_2, .int .i64 a0_3, .int .i64 a0_4]] rfl (by (try simp only [List.map_toArray, List.map_cons, List.map_nil]); first | done | rfl | (simp only [List.length_drop, List.length_take]; rfl)) ?_; (with_reducible refine (head_Cap.calls a0_0 a0_1 a0_2 a0_3 a0_4 t261 t262 _ A6.out).mono ?_); rintro e w14 ⟨rfl, hb⟩; refine ⟨_, rfl, ?_⟩; have n0_ := Aside0.mk (blk_below (g := gb256) (o := .cells #[.int .i64 a0_0, .int .i64 a0_1, .int .i64 a0_2, .int .i64 a0_3, .int .i64 a0_4] 23 (0, 0)) (by (with_reducible repeat (first | refine blk_drewN ?_ _ | refine blk_drew ?_ | refine blk_alloc ?_ _)); exact BK256.out) hb); have n1_ := Aside0.mk (below_step (by repeat (first | (with_reducible first | exact HB.out | apply below_alloc | apply pw_below_drewN | apply below_drew1 | refine below_set ?_ GE256.out) | exact HB.out)) hb); clear BK256; clear HB; have BK256 := n0_; have HB := n1_; clear n0_ n1_; (try clear hb); (try clear hb2); (try clear hk); (try clear hi)))
  (try simp only [Act.put, List.setIfInBounds_toArray, List.set_cons_zero, List.set_cons_succ])
  go_cut [42] (fun v42 wc => ∃ (kq : Nat) (x42_6 : Bool), v42 = .bool x42_6 ∧ Aside0 (casematelaw09_HeadPages.j0 kq a1 a2 t257 t259 t261 x42_6 a0_0 a0_1 a0_2 a0_3 a0_4 = some r) ∧ Aside0 (kq ≤ k) ∧ Aside0 (wc.heap[gb256]? = some (.cells #[.int .i64 a0_0, .int .i64 a0_1, .int .i64 a0_2, .int .i64 a0_3, .int .i64 a0_4] 23 (0, 0))) ∧ Aside0 (Below w.heap.size w wc))
  case first =>
    have H := HC7.out
    clear HC7
    by_cases c15 : t258 = 0
    · rw [if_pos c15] at H
      have c15b0 : (t258 == 0) = true := beq_iff_eq.mpr c15
      have c15b1 : (t258 != 0) = false := bne_eq_false_iff_eq.mpr c15
      clear c15
      (first | rw [c15b0] | (simp only [i64_w, i32_w]; rw [c15b0]) | skip)
      by_cases c16 : t260 = 0
      · rw [if_pos c16] at H
        have c16b0 : (t260 == 0) = true := beq_iff_eq.mpr c16
        have c16b1 : (t260 != 0) = false := bne_eq_false_iff_eq.mpr c16
        clear c16
        have H' := Aside0.mk H
        clear H
        go_wp2
        go_meet
        case rel => exact ⟨_, ((t262 != 0)), (by first | rfl | (simp; done) | (simp [*]; done)), H', ⟨by first | omega | exact Nat.le_refl _⟩, ⟨by (with_reducible repeat (first | refine blk_drewN ?_ _ | refine blk_drew ?_ | refine blk_alloc ?_ _)); exact BK256.out⟩, ⟨by repeat (first | (with_reducible first | exact HB.out | apply below_alloc | apply pw_below_drewN | apply below_drew1 | refine below_set ?_ GE256.out) | exact HB.out)⟩⟩
      · rw [if_neg c16] at H
        have c16b0 : (t260 == 0) = false := beq_eq_false_iff_ne.mpr c16
        have c16b1 : (t260 != 0) = true := bne_iff_ne.mpr c16
        have H' := Aside0.mk H
        clear H
        go_wp2
        go_meet
        case rel => exact ⟨_, (true), (by first | rfl | (simp; done) | (simp [*]; done)), H', ⟨by first | omega | exact Nat.le_refl _⟩, ⟨by (with_reducible repeat (first | refine blk_drewN ?_ _ | refine blk_drew ?_ | refine blk_alloc ?_ _)); exact BK256.out⟩, ⟨by repeat (first | (with_reducible first | exact HB.out | apply below_alloc | apply pw_below_drewN | apply below_drew1 | refine below_set ?_ GE256.out) | exact HB.out)⟩⟩
    · rw [if_neg c15] at H
      have c15b0 : (t258 == 0) = false := beq_eq_false_iff_ne.mpr c15
      have c15b1 : (t258 != 0) = true := bne_iff_ne.mpr c15
      (first | rw [c15b0] | (simp only [i64_w, i32_w]; rw [c15b0]) | skip)
      have H' := Aside0.mk H
      clear H
      go_wp2
      go_meet
      case rel => exact ⟨_, (true), (by first | rfl | (simp; done) | (simp [*]; done)), H', ⟨by first | omega | exact Nat.le_refl _⟩, ⟨by (with_reducible repeat (first | refine blk_drewN ?_ _ | refine blk_drew ?_ | refine blk_alloc ?_ _)); exact BK256.out⟩, ⟨by repeat (first | (with_reducible first | exact HB.out | apply below_alloc | apply pw_below_drewN | apply below_drew1 | refine below_set ?_ GE256.out) | exact HB.out)⟩⟩
  case rest =>
    clear HC7
    try clear c1
    try clear p2
    try clear c7
    try clear c8
    try clear c9
    try clear c15
    try clear c15b0
    try clear c15b1
    try clear c16
    try clear c16b0
    try clear c16b1
    try clear hcz11_0
    try clear hcz11_1
    try clear hcz11_2
    try clear hcz11_3
    try clear hcz11_4
    try clear hcz13_0
    try clear hcz13_1
    try clear hcz13_2
    try clear hcz13_3
    try clear hcz13_4
    try clear hcz9_0
    try clear hcz9_1
    try clear hcz9_2
    try clear hcz9_3
    try clear hcz9_4
    try clear hfz11_0
    try clear hfz11_1
    try clear hfz11_2
    try clear hfz11_3
    try clear hfz11_4
    try clear hfz13_0
    try clear hfz13_1
    try clear hfz13_2
    try clear hfz13_3
    try clear hfz13_4
    try clear hfz9_0
    try clear hfz9_1
    try clear hfz9_2
    try clear hfz9_3
    try clear hfz9_4
    obtain ⟨kq, x42_6, rfl, HA, HJ6, BK256, HB⟩ := hcut
    cases kq with
    | zero => exact absurd HA.out (by simp [casematelaw09_HeadPages.j0])
    | succ kj6 =>
      have H := HA.out
      clear HA
      simp only [casematelaw09_HeadPages.j0] at H
      by_cases c17 : x42_6 = true
      · subst c17
        have H1 : ((casematelaw09_awake.f).bind fun t263 => (some t263)) = some r := by rw [if_pos rfl] at H; exact H
        clear H
        have H := H1
        clear H1
        replace H := Option.bind_eq_some_iff.mp H
        obtain ⟨t263, A180, H⟩ := H
        replace H : (some t263) = some r := H
        have A18 := Aside0.mk A180
        clear A180
        obtain rfl := Option.some.inj H
        go_wp2_with (first | ((with_reducible refine gate_callee (f := 12) rfl ?_); refine goesL_ (some 43) rfl rfl Try.func12 (by kernel_rfl) rfl #[] rfl (by (try simp only [List.map_toArray, List.map_cons, List.map_nil]); first | done | rfl | (simp only [List.length_drop, List.length_take]; rfl)) ?_; (with_reducible refine (casematelaw09_awake.calls  t263 _ A18.out).mono ?_); rintro e w19 ⟨rfl, hb⟩; refine ⟨_, rfl, ?_⟩; have n0_ := Aside0.mk (blk_below (g := gb256) (o := .cells #[.int .i64 a0_0, .int .i64 a0_1, .int .i64 a0_2, .int .i64 a0_3, .int .i64 a0_4] 23 (0, 0)) (by (with_reducible repeat (first | refine blk_drewN ?_ _ | refine blk_drew ?_ | refine blk_alloc ?_ _)); exact BK256.out) hb); have n1_ := Aside0.mk (below_step (by repeat (first | (with_reducible first | exact HB.out | apply below_alloc | apply pw_below_drewN | apply below_drew1 | refine below_set ?_ GE256.out) | exact HB.out)) hb); clear BK256; clear HB; have BK256 := n0_; have HB := n1_; clear n0_ n1_; (try clear hb); (try clear hb2); (try clear hk); (try clear hi)))
        go_ret
        exact ⟨by first | rfl | (simp [errW_none, errW_some] <;> rfl) | (simp [*, errW_none, errW_some] <;> rfl), by repeat (first | (with_reducible first | exact HB.out | apply below_alloc | apply pw_below_drewN | apply below_drew1 | refine below_set ?_ GE256.out) | exact HB.out)⟩
      · replace c17 := Bool.eq_false_iff.mpr c17
        subst c17
        have H1 : ((head_Pages.f a0_0 a0_1 a0_2 a0_3 a0_4 t261).bind fun bt264 => ((casematelaw09_awake.f).bind fun t266 => (if t266 = true then (if bt264.2 = 0 then (if a1 > a2 then (if (wrap64 (t257 * (wrap64 (a0_2 * a0_3)))) ≥ a1 then (if t257 = 0 then (some (bt264.1 == (wrap64 (a0_1 - 1)))) else (if (wrap64 ((wrap64 (t257 - 1)) * (wrap64 (a0_2 * a0_3)))) < a1 then (some (bt264.1 == (wrap64 (a0_1 - 1)))) else (some false))) else (some false)) else (if t257 ≤ t259 then (if (wrap64 (t257 * (wrap64 (a0_2 * a0_3)))) ≥ a1 then (if t257 = 0 then (some (bt264.1 == (wrap64 (a0_1 - 1)))) else (if (wrap64 ((wrap64 (t257 - 1)) * (wrap64 (a0_2 * a0_3)))) < a1 then (some (bt264.1 == (wrap64 (a0_1 - 1)))) else (some false))) else (some false)) else (some false))) else (some false)) else (some false)))) = some r := by rw [if_neg (show ¬ (false = true) by decide)] at H; exact H
        clear H
        have H := H1
        clear H1
        replace H := Option.bind_eq_some_iff.mp H
        obtain ⟨⟨t264, t265⟩, A200, H⟩ := H
        replace H : ((casematelaw09_awake.f).bind fun t266 => (if t266 = true then (if t265 = 0 then (if a1 > a2 then (if (wrap64 (t257 * (wrap64 (a0_2 * a0_3)))) ≥ a1 then (if t257 = 0 then (some (t264 == (wrap64 (a0_1 - 1)))) else (if (wrap64 ((wrap64 (t257 - 1)) * (wrap64 (a0_2 * a0_3)))) < a1 then (some (t264 == (wrap64 (a0_1 - 1)))) else (some false))) else (some false)) else (if t257 ≤ t259 then (if (wrap64 (t257 * (wrap64 (a0_2 * a0_3)))) ≥ a1 then (if t257 = 0 then (some (t264 == (wrap64 (a0_1 - 1)))) else (if (wrap64 ((wrap64 (t257 - 1)) * (wrap64 (a0_2 * a0_3)))) < a1 then (some (t264 == (wrap64 (a0_1 - 1)))) else (some false))) else (some false)) else (some false))) else (some false)) else (some false))) = some r := H
        have A20 := Aside0.mk A200
        clear A200
        replace H := Option.bind_eq_some_iff.mp H
        obtain ⟨t266, A210, H⟩ := H
        replace H : (if t266 = true then (if t265 = 0 then (if a1 > a2 then (if (wrap64 (t257 * (wrap64 (a0_2 * a0_3)))) ≥ a1 then (if t257 = 0 then (some (t264 == (wrap64 (a0_1 - 1)))) else (if (wrap64 ((wrap64 (t257 - 1)) * (wrap64 (a0_2 * a0_3)))) < a1 then (some (t264 == (wrap64 (a0_1 - 1)))) else (some false))) else (some false)) else (if t257 ≤ t259 then (if (wrap64 (t257 * (wrap64 (a0_2 * a0_3)))) ≥ a1 then (if t257 = 0 then (some (t264 == (wrap64 (a0_1 - 1)))) else (if (wrap64 ((wrap64 (t257 - 1)) * (wrap64 (a0_2 * a0_3)))) < a1 then (some (t264 == (wrap64 (a0_1 - 1)))) else (some false))) else (some false)) else (some false))) else (some false)) else (some false)) = some r := H
        have A21 := Aside0.mk A210
        clear A210
        by_cases c22 : t266 = true
        · subst c22
          have H1 : (if t265 = 0 then (if a1 > a2 then (if (wrap64 (t257 * (wrap64 (a0_2 * a0_3)))) ≥ a1 then (if t257 = 0 then (some (t264 == (wrap64 (a0_1 - 1)))) else (if (wrap64 ((wrap64 (t257 - 1)) * (wrap64 (a0_2 * a0_3)))) < a1 then (some (t264 == (wrap64 (a0_1 - 1)))) else (some false))) else (some false)) else (if t257 ≤ t259 then (if (wrap64 (t257 * (wrap64 (a0_2 * a0_3)))) ≥ a1 then (if t257 = 0 then (some (t264 == (wrap64 (a0_1 - 1)))) else (if (wrap64 ((wrap64 (t257 - 1)) * (wrap64 (a0_2 * a0_3)))) < a1 then (some (t264 == (wrap64 (a0_1 - 1)))) else (some false))) else (some false)) else (some false))) else (some false)) = some r := by rw [if_pos rfl] at H; exact H
          clear H
          have H := H1
          clear H1
          by_cases c23 : t265 = 0
          · rw [if_pos c23] at H
            have c23b0 : (t265 == 0) = true := beq_iff_eq.mpr c23
            have c23b1 : (t265 != 0) = false := bne_eq_false_iff_eq.mpr c23
            clear c23
            by_cases c24 : a1 > a2
            · rw [if_pos c24] at H
              have c24b0 : decide (a2 < a1) = true := decide_eq_true c24
              clear c24
              by_cases c25 : (wrap64 (t257 * (wrap64 (a0_2 * a0_3)))) ≥ a1
              · rw [if_pos c25] at H
                have c25b0 : decide (a1 ≤ (wrap64 (t257 * (wrap64 (a0_2 * a0_3))))) = true := decide_eq_true c25
                clear c25
                by_cases c26 : t257 = 0
                · rw [if_pos c26] at H
                  have c26b0 : (t257 == 0) = true := beq_iff_eq.mpr c26
                  have c26b1 : (t257 != 0) = false := bne_eq_false_iff_eq.mpr c26
                  clear c26
                  obtain rfl := Option.some.inj H
                  have hcz27_0 : wc.cell? ⟨gb256, 0, none⟩ = some (.int .i64 a0_0) := (blk_cell BK256.out 0).trans rfl
                  have hcz27_1 : wc.cell? ⟨gb256, 1, none⟩ = some (.int .i64 a0_1) := (blk_cell BK256.out 1).trans rfl
                  have hcz27_2 : wc.cell? ⟨gb256, 2, none⟩ = some (.int .i64 a0_2) := (blk_cell BK256.out 2).trans rfl
                  have hcz27_3 : wc.cell? ⟨gb256, 3, none⟩ = some (.int .i64 a0_3) := (blk_cell BK256.out 3).trans rfl
                  have hcz27_4 : wc.cell? ⟨gb256, 4, none⟩ = some (.int .i64 a0_4) := (blk_cell BK256.out 4).trans rfl
                  have hfz27_0 := blk_frozen BK256.out 0
                  have hfz27_1 := blk_frozen BK256.out 1
                  have hfz27_2 := blk_frozen BK256.out 2
                  have hfz27_3 := blk_frozen BK256.out 3
                  have hfz27_4 := blk_frozen BK256.out 4
                  go_wp2_with (first | ((with_reducible refine gate_callee (f := 9) rfl ?_); refine goesL_ (some 47) rfl rfl Try.func9 (by kernel_rfl) rfl #[.agg #[.int .i64 a0_0, .int .i64 a0_1, .int .i64 a0_2, .int .i64 a0_3, .int .i64 a0_4], .int .i64 t261] rfl (by (try simp only [List.map_toArray, List.map_cons, List.map_nil]); first | done | rfl | (simp only [List.length_drop, List.length_take]; rfl)) ?_; (with_reducible refine (head_Pages.calls a0_0 a0_1 a0_2 a0_3 a0_4 t261 t264 t265 _ A20.out).mono ?_); rintro e w28 ⟨rfl, hb⟩; refine ⟨_, rfl, ?_⟩; have n0_ := Aside0.mk (blk_below (g := gb256) (o := .cells #[.int .i64 a0_0, .int .i64 a0_1, .int .i64 a0_2, .int .i64 a0_3, .int .i64 a0_4] 23 (0, 0)) (by (with_reducible repeat (first | refine blk_drewN ?_ _ | refine blk_drew ?_ | refine blk_alloc ?_ _)); exact BK256.out) hb); have n1_ := Aside0.mk (below_step (by repeat (first | (with_reducible first | exact HB.out | apply below_alloc | apply pw_below_drewN | apply below_drew1 | refine below_set ?_ GE256.out) | exact HB.out)) hb); clear BK256; clear HB; have BK256 := n0_; have HB := n1_; clear n0_ n1_; (try clear hb); (try clear hb2); (try clear hk); (try clear hi); have hcz29_0 : w28.cell? ⟨gb256, 0, none⟩ = some (.int .i64 a0_0) := (blk_cell BK256.out 0).trans rfl; have hcz29_1 : w28.cell? ⟨gb256, 1, none⟩ = some (.int .i64 a0_1) := (blk_cell BK256.out 1).trans rfl; have hcz29_2 : w28.cell? ⟨gb256, 2, none⟩ = some (.int .i64 a0_2) := (blk_cell BK256.out 2).trans rfl; have hcz29_3 : w28.cell? ⟨gb256, 3, none⟩ = some (.int .i64 a0_3) := (blk_cell BK256.out 3).trans rfl; have hcz29_4 : w28.cell? ⟨gb256, 4, none⟩ = some (.int .i64 a0_4) := (blk_cell BK256.out 4).trans rfl; have hfz29_0 := blk_frozen BK256.out 0; have hfz29_1 := blk_frozen BK256.out 1; have hfz29_2 := blk_frozen BK256.out 2; have hfz29_3 := blk_frozen BK256.out 3; have hfz29_4 := blk_frozen BK256.out 4) | ((with_reducible refine gate_callee (f := 12) rfl ?_); refine goesL_ (some 55) rfl rfl Try.func12 (by kernel_rfl) rfl #[] rfl (by (try simp only [List.map_toArray, List.map_cons, List.map_nil]); first | done | rfl | (simp only [List.length_drop, List.length_take]; rfl)) ?_; (with_reducible refine (casematelaw09_awake.calls  true _ A21.out).mono ?_); rintro e w30 ⟨rfl, hb⟩; refine ⟨_, rfl, ?_⟩; have n0_ := Aside0.mk (blk_below (g := gb256) (o := .cells #[.int .i64 a0_0, .int .i64 a0_1, .int .i64 a0_2, .int .i64 a0_3, .int .i64 a0_4] 23 (0, 0)) (by (with_reducible repeat (first | refine blk_drewN ?_ _ | refine blk_drew ?_ | refine blk_alloc ?_ _)); exact BK256.out) hb); have n1_ := Aside0.mk (below_step (by repeat (first | (with_reducible first | exact HB.out | apply below_alloc | apply pw_below_drewN | apply below_drew1 | refine below_set ?_ GE256.out) | exact HB.out)) hb); clear BK256; clear HB; have BK256 := n0_; have HB := n1_; clear n0_ n1_; (try clear hb); (try clear hb2); (try clear hk); (try clear hi); have hcz31_0 : w30.cell? ⟨gb256, 0, none⟩ = some (.int .i64 a0_0) := (blk_cell BK256.out 0).trans rfl; have hcz31_1 : w30.cell? ⟨gb256, 1, none⟩ = some (.int .i64 a0_1) := (blk_cell BK256.out 1).trans rfl; have hcz31_2 : w30.cell? ⟨gb256, 2, none⟩ = some (.int .i64 a0_2) := (blk_cell BK256.out 2).trans rfl; have hcz31_3 : w30.cell? ⟨gb256, 3, none⟩ = some (.int .i64 a0_3) := (blk_cell BK256.out 3).trans rfl; have hcz31_4 : w30.cell? ⟨gb256, 4, none⟩ = some (.int .i64 a0_4) := (blk_cell BK256.out 4).trans rfl; have hfz31_0 := blk_frozen BK256.out 0; have hfz31_1 := blk_frozen BK256.out 1; have hfz31_2 := blk_frozen BK256.out 2; have hfz31_3 := blk_frozen BK256.out 3; have hfz31_4 := blk_frozen BK256.out 4))
                  go_ret
                  exact ⟨by first | rfl | (simp [errW_none, errW_some] <;> rfl) | (simp [*, errW_none, errW_some] <;> rfl), by repeat (first | (with_reducible first | exact HB.out | apply below_alloc | apply pw_below_drewN | apply below_drew1 | refine below_set ?_ GE256.out) | exact HB.out)⟩
                · rw [if_neg c26] at H
                  have c26b0 : (t257 == 0) = false := beq_eq_false_iff_ne.mpr c26
                  have c26b1 : (t257 != 0) = true := bne_iff_ne.mpr c26
                  by_cases c32 : (wrap64 ((wrap64 (t257 - 1)) * (wrap64 (a0_2 * a0_3)))) < a1
                  · rw [if_pos c32] at H
                    have c32b0 : decide ((wrap64 ((wrap64 (t257 - 1)) * (wrap64 (a0_2 * a0_3)))) < a1) = true := decide_eq_true c32
                    clear c32
                    obtain rfl := Option.some.inj H
                    have hcz33_0 : wc.cell? ⟨gb256, 0, none⟩ = some (.int .i64 a0_0) := (blk_cell BK256.out 0).trans rfl
                    have hcz33_1 : wc.cell? ⟨gb256, 1, none⟩ = some (.int .i64 a0_1) := (blk_cell BK256.out 1).trans rfl
                    have hcz33_2 : wc.cell? ⟨gb256, 2, none⟩ = some (.int .i64 a0_2) := (blk_cell BK256.out 2).trans rfl
                    have hcz33_3 : wc.cell? ⟨gb256, 3, none⟩ = some (.int .i64 a0_3) := (blk_cell BK256.out 3).trans rfl
                    have hcz33_4 : wc.cell? ⟨gb256, 4, none⟩ = some (.int .i64 a0_4) := (blk_cell BK256.out 4).trans rfl
                    have hfz33_0 := blk_frozen BK256.out 0
                    have hfz33_1 := blk_frozen BK256.out 1
                    have hfz33_2 := blk_frozen BK256.out 2
                    have hfz33_3 := blk_frozen BK256.out 3
                    have hfz33_4 := blk_frozen BK256.out 4
                    go_wp2_with (first | ((with_reducible refine gate_callee (f := 9) rfl ?_); refine goesL_ (some 47) rfl rfl Try.func9 (by kernel_rfl) rfl #[.agg #[.int .i64 a0_0, .int .i64 a0_1, .int .i64 a0_2, .int .i64 a0_3, .int .i64 a0_4], .int .i64 t261] rfl (by (try simp only [List.map_toArray, List.map_cons, List.map_nil]); first | done | rfl | (simp only [List.length_drop, List.length_take]; rfl)) ?_; (with_reducible refine (head_Pages.calls a0_0 a0_1 a0_2 a0_3 a0_4 t261 t264 t265 _ A20.out).mono ?_); rintro e w34 ⟨rfl, hb⟩; refine ⟨_, rfl, ?_⟩; have n0_ := Aside0.mk (blk_below (g := gb256) (o := .cells #[.int .i64 a0_0, .int .i64 a0_1, .int .i64 a0_2, .int .i64 a0_3, .int .i64 a0_4] 23 (0, 0)) (by (with_reducible repeat (first | refine blk_drewN ?_ _ | refine blk_drew ?_ | refine blk_alloc ?_ _)); exact BK256.out) hb); have n1_ := Aside0.mk (below_step (by repeat (first | (with_reducible first | exact HB.out | apply below_alloc | apply pw_below_drewN | apply below_drew1 | refine below_set ?_ GE256.out) | exact HB.out)) hb); clear BK256; clear HB; have BK256 := n0_; have HB := n1_; clear n0_ n1_; (try clear hb); (try clear hb2); (try clear hk); (try clear hi); have hcz35_0 : w34.cell? ⟨gb256, 0, none⟩ = some (.int .i64 a0_0) := (blk_cell BK256.out 0).trans rfl; have hcz35_1 : w34.cell? ⟨gb256, 1, none⟩ = some (.int .i64 a0_1) := (blk_cell BK256.out 1).trans rfl; have hcz35_2 : w34.cell? ⟨gb256, 2, none⟩ = some (.int .i64 a0_2) := (blk_cell BK256.out 2).trans rfl; have hcz35_3 : w34.cell? ⟨gb256, 3, none⟩ = some (.int .i64 a0_3) := (blk_cell BK256.out 3).trans rfl; have hcz35_4 : w34.cell? ⟨gb256, 4, none⟩ = some (.int .i64 a0_4) := (blk_cell BK256.out 4).trans rfl; have hfz35_0 := blk_frozen BK256.out 0; have hfz35_1 := blk_frozen BK256.out 1; have hfz35_2 := blk_frozen BK256.out 2; have hfz35_3 := blk_frozen BK256.out 3; have hfz35_4 := blk_frozen BK256.out 4) | ((with_reducible refine gate_callee (f := 12) rfl ?_); refine goesL_ (some 55) rfl rfl Try.func12 (by kernel_rfl) rfl #[] rfl (by (try simp only [List.map_toArray, List.map_cons, List.map_nil]); first | done | rfl | (simp only [List.length_drop, List.length_take]; rfl)) ?_; (with_reducible refine (casematelaw09_awake.calls  true _ A21.out).mono ?_); rintro e w36 ⟨rfl, hb⟩; refine ⟨_, rfl, ?_⟩; have n0_ := Aside0.mk (blk_below (g := gb256) (o := .cells #[.int .i64 a0_0, .int .i64 a0_1, .int .i64 a0_2, .int .i64 a0_3, .int .i64 a0_4] 23 (0, 0)) (by (with_reducible repeat (first | refine blk_drewN ?_ _ | refine blk_drew ?_ | refine blk_alloc ?_ _)); exact BK256.out) hb); have n1_ := Aside0.mk (below_step (by repeat (first | (with_reducible first | exact HB.out | apply below_alloc | apply pw_below_drewN | apply below_drew1 | refine below_set ?_ GE256.out) | exact HB.out)) hb); clear BK256; clear HB; have BK256 := n0_; have HB := n1_; clear n0_ n1_; (try clear hb); (try clear hb2); (try clear hk); (try clear hi); have hcz37_0 : w36.cell? ⟨gb256, 0, none⟩ = some (.int .i64 a0_0) := (blk_cell BK256.out 0).trans rfl; have hcz37_1 : w36.cell? ⟨gb256, 1, none⟩ = some (.int .i64 a0_1) := (blk_cell BK256.out 1).trans rfl; have hcz37_2 : w36.cell? ⟨gb256, 2, none⟩ = some (.int .i64 a0_2) := (blk_cell BK256.out 2).trans rfl; have hcz37_3 : w36.cell? ⟨gb256, 3, none⟩ = some (.int .i64 a0_3) := (blk_cell BK256.out 3).trans rfl; have hcz37_4 : w36.cell? ⟨gb256, 4, none⟩ = some (.int .i64 a0_4) := (blk_cell BK256.out 4).trans rfl; have hfz37_0 := blk_frozen BK256.out 0; have hfz37_1 := blk_frozen BK256.out 1; have hfz37_2 := blk_frozen BK256.out 2; have hfz37_3 := blk_frozen BK256.out 3; have hfz37_4 := blk_frozen BK256.out 4))
                    go_ret
                    exact ⟨by first | rfl | (simp [errW_none, errW_some] <;> rfl) | (simp [*, errW_none, errW_some] <;> rfl), by repeat (first | (with_reducible first | exact HB.out | apply below_alloc | apply pw_below_drewN | apply below_drew1 | refine below_set ?_ GE256.out) | exact HB.out)⟩
                  · rw [if_neg c32] at H
                    have c32b0 : decide ((wrap64 ((wrap64 (t257 - 1)) * (wrap64 (a0_2 * a0_3)))) < a1) = false := decide_eq_false c32
                    clear c32
                    obtain rfl := Option.some.inj H
                    have hcz38_0 : wc.cell? ⟨gb256, 0, none⟩ = some (.int .i64 a0_0) := (blk_cell BK256.out 0).trans rfl
                    have hcz38_1 : wc.cell? ⟨gb256, 1, none⟩ = some (.int .i64 a0_1) := (blk_cell BK256.out 1).trans rfl
                    have hcz38_2 : wc.cell? ⟨gb256, 2, none⟩ = some (.int .i64 a0_2) := (blk_cell BK256.out 2).trans rfl
                    have hcz38_3 : wc.cell? ⟨gb256, 3, none⟩ = some (.int .i64 a0_3) := (blk_cell BK256.out 3).trans rfl
                    have hcz38_4 : wc.cell? ⟨gb256, 4, none⟩ = some (.int .i64 a0_4) := (blk_cell BK256.out 4).trans rfl
                    have hfz38_0 := blk_frozen BK256.out 0
                    have hfz38_1 := blk_frozen BK256.out 1
                    have hfz38_2 := blk_frozen BK256.out 2
                    have hfz38_3 := blk_frozen BK256.out 3
                    have hfz38_4 := blk_frozen BK256.out 4
                    go_wp2_with (first | ((with_reducible refine gate_callee (f := 9) rfl ?_); refine goesL_ (some 47) rfl rfl Try.func9 (by kernel_rfl) rfl #[.agg #[.int .i64 a0_0, .int .i64 a0_1, .int .i64 a0_2, .int .i64 a0_3, .int .i64 a0_4], .int .i64 t261] rfl (by (try simp only [List.map_toArray, List.map_cons, List.map_nil]); first | done | rfl | (simp only [List.length_drop, List.length_take]; rfl)) ?_; (with_reducible refine (head_Pages.calls a0_0 a0_1 a0_2 a0_3 a0_4 t261 t264 t265 _ A20.out).mono ?_); rintro e w39 ⟨rfl, hb⟩; refine ⟨_, rfl, ?_⟩; have n0_ := Aside0.mk (blk_below (g := gb256) (o := .cells #[.int .i64 a0_0, .int .i64 a0_1, .int .i64 a0_2, .int .i64 a0_3, .int .i64 a0_4] 23 (0, 0)) (by (with_reducible repeat (first | refine blk_drewN ?_ _ | refine blk_drew ?_ | refine blk_alloc ?_ _)); exact BK256.out) hb); have n1_ := Aside0.mk (below_step (by repeat (first | (with_reducible first | exact HB.out | apply below_alloc | apply pw_below_drewN | apply below_drew1 | refine below_set ?_ GE256.out) | exact HB.out)) hb); clear BK256; clear HB; have BK256 := n0_; have HB := n1_; clear n0_ n1_; (try clear hb); (try clear hb2); (try clear hk); (try clear hi); have hcz40_0 : w39.cell? ⟨gb256, 0, none⟩ = some (.int .i64 a0_0) := (blk_cell BK256.out 0).trans rfl; have hcz40_1 : w39.cell? ⟨gb256, 1, none⟩ = some (.int .i64 a0_1) := (blk_cell BK256.out 1).trans rfl; have hcz40_2 : w39.cell? ⟨gb256, 2, none⟩ = some (.int .i64 a0_2) := (blk_cell BK256.out 2).trans rfl; have hcz40_3 : w39.cell? ⟨gb256, 3, none⟩ = some (.int .i64 a0_3) := (blk_cell BK256.out 3).trans rfl; have hcz40_4 : w39.cell? ⟨gb256, 4, none⟩ = some (.int .i64 a0_4) := (blk_cell BK256.out 4).trans rfl; have hfz40_0 := blk_frozen BK256.out 0; have hfz40_1 := blk_frozen BK256.out 1; have hfz40_2 := blk_frozen BK256.out 2; have hfz40_3 := blk_frozen BK256.out 3; have hfz40_4 := blk_frozen BK256.out 4) | ((with_reducible refine gate_callee (f := 12) rfl ?_); refine goesL_ (some 55) rfl rfl Try.func12 (by kernel_rfl) rfl #[] rfl (by (try simp only [List.map_toArray, List.map_cons, List.map_nil]); first | done | rfl | (simp only [List.length_drop, List.length_take]; rfl)) ?_; (with_reducible refine (casematelaw09_awake.calls  true _ A21.out).mono ?_); rintro e w41 ⟨rfl, hb⟩; refine ⟨_, rfl, ?_⟩; have n0_ := Aside0.mk (blk_below (g := gb256) (o := .cells #[.int .i64 a0_0, .int .i64 a0_1, .int .i64 a0_2, .int .i64 a0_3, .int .i64 a0_4] 23 (0, 0)) (by (with_reducible repeat (first | refine blk_drewN ?_ _ | refine blk_drew ?_ | refine blk_alloc ?_ _)); exact BK256.out) hb); have n1_ := Aside0.mk (below_step (by repeat (first | (with_reducible first | exact HB.out | apply below_alloc | apply pw_below_drewN | apply below_drew1 | refine below_set ?_ GE256.out) | exact HB.out)) hb); clear BK256; clear HB; have BK256 := n0_; have HB := n1_; clear n0_ n1_; (try clear hb); (try clear hb2); (try clear hk); (try clear hi)))
                    go_ret
                    exact ⟨by first | rfl | (simp [errW_none, errW_some] <;> rfl) | (simp [*, errW_none, errW_some] <;> rfl), by repeat (first | (with_reducible first | exact HB.out | apply below_alloc | apply pw_below_drewN | apply below_drew1 | refine below_set ?_ GE256.out) | exact HB.out)⟩
              · rw [if_neg c25] at H
                have c25b0 : decide (a1 ≤ (wrap64 (t257 * (wrap64 (a0_2 * a0_3))))) = false := decide_eq_false c25
                clear c25
                obtain rfl := Option.some.inj H
                have hcz42_0 : wc.cell? ⟨gb256, 0, none⟩ = some (.int .i64 a0_0) := (blk_cell BK256.out 0).trans rfl
                have hcz42_1 : wc.cell? ⟨gb256, 1, none⟩ = some (.int .i64 a0_1) := (blk_cell BK256.out 1).trans rfl
                have hcz42_2 : wc.cell? ⟨gb256, 2, none⟩ = some (.int .i64 a0_2) := (blk_cell BK256.out 2).trans rfl
                have hcz42_3 : wc.cell? ⟨gb256, 3, none⟩ = some (.int .i64 a0_3) := (blk_cell BK256.out 3).trans rfl
                have hcz42_4 : wc.cell? ⟨gb256, 4, none⟩ = some (.int .i64 a0_4) := (blk_cell BK256.out 4).trans rfl
                have hfz42_0 := blk_frozen BK256.out 0
                have hfz42_1 := blk_frozen BK256.out 1
                have hfz42_2 := blk_frozen BK256.out 2
                have hfz42_3 := blk_frozen BK256.out 3
                have hfz42_4 := blk_frozen BK256.out 4
                go_wp2_with (first | ((with_reducible refine gate_callee (f := 9) rfl ?_); refine goesL_ (some 47) rfl rfl Try.func9 (by kernel_rfl) rfl #[.agg #[.int .i64 a0_0, .int .i64 a0_1, .int .i64 a0_2, .int .i64 a0_3, .int .i64 a0_4], .int .i64 t261] rfl (by (try simp only [List.map_toArray, List.map_cons, List.map_nil]); first | done | rfl | (simp only [List.length_drop, List.length_take]; rfl)) ?_; (with_reducible refine (head_Pages.calls a0_0 a0_1 a0_2 a0_3 a0_4 t261 t264 t265 _ A20.out).mono ?_); rintro e w43 ⟨rfl, hb⟩; refine ⟨_, rfl, ?_⟩; have n0_ := Aside0.mk (blk_below (g := gb256) (o := .cells #[.int .i64 a0_0, .int .i64 a0_1, .int .i64 a0_2, .int .i64 a0_3, .int .i64 a0_4] 23 (0, 0)) (by (with_reducible repeat (first | refine blk_drewN ?_ _ | refine blk_drew ?_ | refine blk_alloc ?_ _)); exact BK256.out) hb); have n1_ := Aside0.mk (below_step (by repeat (first | (with_reducible first | exact HB.out | apply below_alloc | apply pw_below_drewN | apply below_drew1 | refine below_set ?_ GE256.out) | exact HB.out)) hb); clear BK256; clear HB; have BK256 := n0_; have HB := n1_; clear n0_ n1_; (try clear hb); (try clear hb2); (try clear hk); (try clear hi); have hcz44_0 : w43.cell? ⟨gb256, 0, none⟩ = some (.int .i64 a0_0) := (blk_cell BK256.out 0).trans rfl; have hcz44_1 : w43.cell? ⟨gb256, 1, none⟩ = some (.int .i64 a0_1) := (blk_cell BK256.out 1).trans rfl; have hcz44_2 : w43.cell? ⟨gb256, 2, none⟩ = some (.int .i64 a0_2) := (blk_cell BK256.out 2).trans rfl; have hcz44_3 : w43.cell? ⟨gb256, 3, none⟩ = some (.int .i64 a0_3) := (blk_cell BK256.out 3).trans rfl; have hcz44_4 : w43.cell? ⟨gb256, 4, none⟩ = some (.int .i64 a0_4) := (blk_cell BK256.out 4).trans rfl; have hfz44_0 := blk_frozen BK256.out 0; have hfz44_1 := blk_frozen BK256.out 1; have hfz44_2 := blk_frozen BK256.out 2; have hfz44_3 := blk_frozen BK256.out 3; have hfz44_4 := blk_frozen BK256.out 4) | ((with_reducible refine gate_callee (f := 12) rfl ?_); refine goesL_ (some 55) rfl rfl Try.func12 (by kernel_rfl) rfl #[] rfl (by (try simp only [List.map_toArray, List.map_cons, List.map_nil]); first | done | rfl | (simp only [List.length_drop, List.length_take]; rfl)) ?_; (with_reducible refine (casematelaw09_awake.calls  true _ A21.out).mono ?_); rintro e w45 ⟨rfl, hb⟩; refine ⟨_, rfl, ?_⟩; have n0_ := Aside0.mk (blk_below (g := gb256) (o := .cells #[.int .i64 a0_0, .int .i64 a0_1, .int .i64 a0_2, .int .i64 a0_3, .int .i64 a0_4] 23 (0, 0)) (by (with_reducible repeat (first | refine blk_drewN ?_ _ | refine blk_drew ?_ | refine blk_alloc ?_ _)); exact BK256.out) hb); have n1_ := Aside0.mk (below_step (by repeat (first | (with_reducible first | exact HB.out | apply below_alloc | apply pw_below_drewN | apply below_drew1 | refine below_set ?_ GE256.out) | exact HB.out)) hb); clear BK256; clear HB; have BK256 := n0_; have HB := n1_; clear n0_ n1_; (try clear hb); (try clear hb2); (try clear hk); (try clear hi)))
                go_ret
                exact ⟨by first | rfl | (simp [errW_none, errW_some] <;> rfl) | (simp [*, errW_none, errW_some] <;> rfl), by repeat (first | (with_reducible first | exact HB.out | apply below_alloc | apply pw_below_drewN | apply below_drew1 | refine below_set ?_ GE256.out) | exact HB.out)⟩
            · rw [if_neg c24] at H
              have c24b0 : decide (a2 < a1) = false := decide_eq_false c24
              clear c24
              by_cases c46 : t257 ≤ t259
              · rw [if_pos c46] at H
                have c46b0 : decide (t257 ≤ t259) = true := decide_eq_true c46
                clear c46
                by_cases c47 : (wrap64 (t257 * (wrap64 (a0_2 * a0_3)))) ≥ a1
                · rw [if_pos c47] at H
                  have c47b0 : decide (a1 ≤ (wrap64 (t257 * (wrap64 (a0_2 * a0_3))))) = true := decide_eq_true c47
                  clear c47
                  by_cases c48 : t257 = 0
                  · rw [if_pos c48] at H
                    have c48b0 : (t257 == 0) = true := beq_iff_eq.mpr c48
                    have c48b1 : (t257 != 0) = false := bne_eq_false_iff_eq.mpr c48
                    clear c48
                    obtain rfl := Option.some.inj H
                    have hcz49_0 : wc.cell? ⟨gb256, 0, none⟩ = some (.int .i64 a0_0) := (blk_cell BK256.out 0).trans rfl
                    have hcz49_1 : wc.cell? ⟨gb256, 1, none⟩ = some (.int .i64 a0_1) := (blk_cell BK256.out 1).trans rfl
                    have hcz49_2 : wc.cell? ⟨gb256, 2, none⟩ = some (.int .i64 a0_2) := (blk_cell BK256.out 2).trans rfl
                    have hcz49_3 : wc.cell? ⟨gb256, 3, none⟩ = some (.int .i64 a0_3) := (blk_cell BK256.out 3).trans rfl
                    have hcz49_4 : wc.cell? ⟨gb256, 4, none⟩ = some (.int .i64 a0_4) := (blk_cell BK256.out 4).trans rfl
                    have hfz49_0 := blk_frozen BK256.out 0
                    have hfz49_1 := blk_frozen BK256.out 1
                    have hfz49_2 := blk_frozen BK256.out 2
                    have hfz49_3 := blk_frozen BK256.out 3
                    have hfz49_4 := blk_frozen BK256.out 4
                    go_wp2_with (first | ((with_reducible refine gate_callee (f := 9) rfl ?_); refine goesL_ (some 47) rfl rfl Try.func9 (by kernel_rfl) rfl #[.agg #[.int .i64 a0_0, .int .i64 a0_1, .int .i64 a0_2, .int .i64 a0_3, .int .i64 a0_4], .int .i64 t261] rfl (by (try simp only [List.map_toArray, List.map_cons, List.map_nil]); first | done | rfl | (simp only [List.length_drop, List.length_take]; rfl)) ?_; (with_reducible refine (head_Pages.calls a0_0 a0_1 a0_2 a0_3 a0_4 t261 t264 t265 _ A20.out).mono ?_); rintro e w50 ⟨rfl, hb⟩; refine ⟨_, rfl, ?_⟩; have n0_ := Aside0.mk (blk_below (g := gb256) (o := .cells #[.int .i64 a0_0, .int .i64 a0_1, .int .i64 a0_2, .int .i64 a0_3, .int .i64 a0_4] 23 (0, 0)) (by (with_reducible repeat (first | refine blk_drewN ?_ _ | refine blk_drew ?_ | refine blk_alloc ?_ _)); exact BK256.out) hb); have n1_ := Aside0.mk (below_step (by repeat (first | (with_reducible first | exact HB.out | apply below_alloc | apply pw_below_drewN | apply below_drew1 | refine below_set ?_ GE256.out) | exact HB.out)) hb); clear BK256; clear HB; have BK256 := n0_; have HB := n1_; clear n0_ n1_; (try clear hb); (try clear hb2); (try clear hk); (try clear hi); have hcz51_0 : w50.cell? ⟨gb256, 0, none⟩ = some (.int .i64 a0_0) := (blk_cell BK256.out 0).trans rfl; have hcz51_1 : w50.cell? ⟨gb256, 1, none⟩ = some (.int .i64 a0_1) := (blk_cell BK256.out 1).trans rfl; have hcz51_2 : w50.cell? ⟨gb256, 2, none⟩ = some (.int .i64 a0_2) := (blk_cell BK256.out 2).trans rfl; have hcz51_3 : w50.cell? ⟨gb256, 3, none⟩ = some (.int .i64 a0_3) := (blk_cell BK256.out 3).trans rfl; have hcz51_4 : w50.cell? ⟨gb256, 4, none⟩ = some (.int .i64 a0_4) := (blk_cell BK256.out 4).trans rfl; have hfz51_0 := blk_frozen BK256.out 0; have hfz51_1 := blk_frozen BK256.out 1; have hfz51_2 := blk_frozen BK256.out 2; have hfz51_3 := blk_frozen BK256.out 3; have hfz51_4 := blk_frozen BK256.out 4) | ((with_reducible refine gate_callee (f := 12) rfl ?_); refine goesL_ (some 55) rfl rfl Try.func12 (by kernel_rfl) rfl #[] rfl (by (try simp only [List.map_toArray, List.map_cons, List.map_nil]); first | done | rfl | (simp only [List.length_drop, List.length_take]; rfl)) ?_; (with_reducible refine (casematelaw09_awake.calls  true _ A21.out).mono ?_); rintro e w52 ⟨rfl, hb⟩; refine ⟨_, rfl, ?_⟩; have n0_ := Aside0.mk (blk_below (g := gb256) (o := .cells #[.int .i64 a0_0, .int .i64 a0_1, .int .i64 a0_2, .int .i64 a0_3, .int .i64 a0_4] 23 (0, 0)) (by (with_reducible repeat (first | refine blk_drewN ?_ _ | refine blk_drew ?_ | refine blk_alloc ?_ _)); exact BK256.out) hb); have n1_ := Aside0.mk (below_step (by repeat (first | (with_reducible first | exact HB.out | apply below_alloc | apply pw_below_drewN | apply below_drew1 | refine below_set ?_ GE256.out) | exact HB.out)) hb); clear BK256; clear HB; have BK256 := n0_; have HB := n1_; clear n0_ n1_; (try clear hb); (try clear hb2); (try clear hk); (try clear hi); have hcz53_0 : w52.cell? ⟨gb256, 0, none⟩ = some (.int .i64 a0_0) := (blk_cell BK256.out 0).trans rfl; have hcz53_1 : w52.cell? ⟨gb256, 1, none⟩ = some (.int .i64 a0_1) := (blk_cell BK256.out 1).trans rfl; have hcz53_2 : w52.cell? ⟨gb256, 2, none⟩ = some (.int .i64 a0_2) := (blk_cell BK256.out 2).trans rfl; have hcz53_3 : w52.cell? ⟨gb256, 3, none⟩ = some (.int .i64 a0_3) := (blk_cell BK256.out 3).trans rfl; have hcz53_4 : w52.cell? ⟨gb256, 4, none⟩ = some (.int .i64 a0_4) := (blk_cell BK256.out 4).trans rfl; have hfz53_0 := blk_frozen BK256.out 0; have hfz53_1 := blk_frozen BK256.out 1; have hfz53_2 := blk_frozen BK256.out 2; have hfz53_3 := blk_frozen BK256.out 3; have hfz53_4 := blk_frozen BK256.out 4))
                    go_ret
                    exact ⟨by first | rfl | (simp [errW_none, errW_some] <;> rfl) | (simp [*, errW_none, errW_some] <;> rfl), by repeat (first | (with_reducible first | exact HB.out | apply below_alloc | apply pw_below_drewN | apply below_drew1 | refine below_set ?_ GE256.out) | exact HB.out)⟩
                  · rw [if_neg c48] at H
                    have c48b0 : (t257 == 0) = false := beq_eq_false_iff_ne.mpr c48
                    have c48b1 : (t257 != 0) = true := bne_iff_ne.mpr c48
                    by_cases c54 : (wrap64 ((wrap64 (t257 - 1)) * (wrap64 (a0_2 * a0_3)))) < a1
                    · rw [if_pos c54] at H
                      have c54b0 : decide ((wrap64 ((wrap64 (t257 - 1)) * (wrap64 (a0_2 * a0_3)))) < a1) = true := decide_eq_true c54
                      clear c54
                      obtain rfl := Option.some.inj H
                      have hcz55_0 : wc.cell? ⟨gb256, 0, none⟩ = some (.int .i64 a0_0) := (blk_cell BK256.out 0).trans rfl
                      have hcz55_1 : wc.cell? ⟨gb256, 1, none⟩ = some (.int .i64 a0_1) := (blk_cell BK256.out 1).trans rfl
                      have hcz55_2 : wc.cell? ⟨gb256, 2, none⟩ = some (.int .i64 a0_2) := (blk_cell BK256.out 2).trans rfl
                      have hcz55_3 : wc.cell? ⟨gb256, 3, none⟩ = some (.int .i64 a0_3) := (blk_cell BK256.out 3).trans rfl
                      have hcz55_4 : wc.cell? ⟨gb256, 4, none⟩ = some (.int .i64 a0_4) := (blk_cell BK256.out 4).trans rfl
                      have hfz55_0 := blk_frozen BK256.out 0
                      have hfz55_1 := blk_frozen BK256.out 1
                      have hfz55_2 := blk_frozen BK256.out 2
                      have hfz55_3 := blk_frozen BK256.out 3
                      have hfz55_4 := blk_frozen BK256.out 4
                      go_wp2_with (first | ((with_reducible refine gate_callee (f := 9) rfl ?_); refine goesL_ (some 47) rfl rfl Try.func9 (by kernel_rfl) rfl #[.agg #[.int .i64 a0_0, .int .i64 a0_1, .int .i64 a0_2, .int .i64 a0_3, .int .i64 a0_4], .int .i64 t261] rfl (by (try simp only [List.map_toArray, List.map_cons, List.map_nil]); first | done | rfl | (simp only [List.length_drop, List.length_take]; rfl)) ?_; (with_reducible refine (head_Pages.calls a0_0 a0_1 a0_2 a0_3 a0_4 t261 t264 t265 _ A20.out).mono ?_); rintro e w56 ⟨rfl, hb⟩; refine ⟨_, rfl, ?_⟩; have n0_ := Aside0.mk (blk_below (g := gb256) (o := .cells #[.int .i64 a0_0, .int .i64 a0_1, .int .i64 a0_2, .int .i64 a0_3, .int .i64 a0_4] 23 (0, 0)) (by (with_reducible repeat (first | refine blk_drewN ?_ _ | refine blk_drew ?_ | refine blk_alloc ?_ _)); exact BK256.out) hb); have n1_ := Aside0.mk (below_step (by repeat (first | (with_reducible first | exact HB.out | apply below_alloc | apply pw_below_drewN | apply below_drew1 | refine below_set ?_ GE256.out) | exact HB.out)) hb); clear BK256; clear HB; have BK256 := n0_; have HB := n1_; clear n0_ n1_; (try clear hb); (try clear hb2); (try clear hk); (try clear hi); have hcz57_0 : w56.cell? ⟨gb256, 0, none⟩ = some (.int .i64 a0_0) := (blk_cell BK256.out 0).trans rfl; have hcz57_1 : w56.cell? ⟨gb256, 1, none⟩ = some (.int .i64 a0_1) := (blk_cell BK256.out 1).trans rfl; have hcz57_2 : w56.cell? ⟨gb256, 2, none⟩ = some (.int .i64 a0_2) := (blk_cell BK256.out 2).trans rfl; have hcz57_3 : w56.cell? ⟨gb256, 3, none⟩ = some (.int .i64 a0_3) := (blk_cell BK256.out 3).trans rfl; have hcz57_4 : w56.cell? ⟨gb256, 4, none⟩ = some (.int .i64 a0_4) := (blk_cell BK256.out 4).trans rfl; have hfz57_0 := blk_frozen BK256.out 0; have hfz57_1 := blk_frozen BK256.out 1; have hfz57_2 := blk_frozen BK256.out 2; have hfz57_3 := blk_frozen BK256.out 3; have hfz57_4 := blk_frozen BK256.out 4) | ((with_reducible refine gate_callee (f := 12) rfl ?_); refine goesL_ (some 55) rfl rfl Try.func12 (by kernel_rfl) rfl #[] rfl (by (try simp only [List.map_toArray, List.map_cons, List.map_nil]); first | done | rfl | (simp only [List.length_drop, List.length_take]; rfl)) ?_; (with_reducible refine (casematelaw09_awake.calls  true _ A21.out).mono ?_); rintro e w58 ⟨rfl, hb⟩; refine ⟨_, rfl, ?_⟩; have n0_ := Aside0.mk (blk_below (g := gb256) (o := .cells #[.int .i64 a0_0, .int .i64 a0_1, .int .i64 a0_2, .int .i64 a0_3, .int .i64 a0_4] 23 (0, 0)) (by (with_reducible repeat (first | refine blk_drewN ?_ _ | refine blk_drew ?_ | refine blk_alloc ?_ _)); exact BK256.out) hb); have n1_ := Aside0.mk (below_step (by repeat (first | (with_reducible first | exact HB.out | apply below_alloc | apply pw_below_drewN | apply below_drew1 | refine below_set ?_ GE256.out) | exact HB.out)) hb); clear BK256; clear HB; have BK256 := n0_; have HB := n1_; clear n0_ n1_; (try clear hb); (try clear hb2); (try clear hk); (try clear hi); have hcz59_0 : w58.cell? ⟨gb256, 0, none⟩ = some (.int .i64 a0_0) := (blk_cell BK256.out 0).trans rfl; have hcz59_1 : w58.cell? ⟨gb256, 1, none⟩ = some (.int .i64 a0_1) := (blk_cell BK256.out 1).trans rfl; have hcz59_2 : w58.cell? ⟨gb256, 2, none⟩ = some (.int .i64 a0_2) := (blk_cell BK256.out 2).trans rfl; have hcz59_3 : w58.cell? ⟨gb256, 3, none⟩ = some (.int .i64 a0_3) := (blk_cell BK256.out 3).trans rfl; have hcz59_4 : w58.cell? ⟨gb256, 4, none⟩ = some (.int .i64 a0_4) := (blk_cell BK256.out 4).trans rfl; have hfz59_0 := blk_frozen BK256.out 0; have hfz59_1 := blk_frozen BK256.out 1; have hfz59_2 := blk_frozen BK256.out 2; have hfz59_3 := blk_frozen BK256.out 3; have hfz59_4 := blk_frozen BK256.out 4))
                      go_ret
                      exact ⟨by first | rfl | (simp [errW_none, errW_some] <;> rfl) | (simp [*, errW_none, errW_some] <;> rfl), by repeat (first | (with_reducible first | exact HB.out | apply below_alloc | apply pw_below_drewN | apply below_drew1 | refine below_set ?_ GE256.out) | exact HB.out)⟩
                    · rw [if_neg c54] at H
                      have c54b0 : decide ((wrap64 ((wrap64 (t257 - 1)) * (wrap64 (a0_2 * a0_3)))) < a1) = false := decide_eq_false c54
                      clear c54
                      obtain rfl := Option.some.inj H
                      have hcz60_0 : wc.cell? ⟨gb256, 0, none⟩ = some (.int .i64 a0_0) := (blk_cell BK256.out 0).trans rfl
                      have hcz60_1 : wc.cell? ⟨gb256, 1, none⟩ = some (.int .i64 a0_1) := (blk_cell BK256.out 1).trans rfl
                      have hcz60_2 : wc.cell? ⟨gb256, 2, none⟩ = some (.int .i64 a0_2) := (blk_cell BK256.out 2).trans rfl
                      have hcz60_3 : wc.cell? ⟨gb256, 3, none⟩ = some (.int .i64 a0_3) := (blk_cell BK256.out 3).trans rfl
                      have hcz60_4 : wc.cell? ⟨gb256, 4, none⟩ = some (.int .i64 a0_4) := (blk_cell BK256.out 4).trans rfl
                      have hfz60_0 := blk_frozen BK256.out 0
                      have hfz60_1 := blk_frozen BK256.out 1
                      have hfz60_2 := blk_frozen BK256.out 2
                      have hfz60_3 := blk_frozen BK256.out 3
                      have hfz60_4 := blk_frozen BK256.out 4
                      go_wp2_with (first | ((with_reducible refine gate_callee (f := 9) rfl ?_); refine goesL_ (some 47) rfl rfl Try.func9 (by kernel_rfl) rfl #[.agg #[.int .i64 a0_0, .int .i64 a0_1, .int .i64 a0_2, .int .i64 a0_3, .int .i64 a0_4], .int .i64 t261] rfl (by (try simp only [List.map_toArray, List.map_cons, List.map_nil]); first | done | rfl | (simp only [List.length_drop, List.length_take]; rfl)) ?_; (with_reducible refine (head_Pages.calls a0_0 a0_1 a0_2 a0_3 a0_4 t261 t264 t265 _ A20.out).mono ?_); rintro e w61 ⟨rfl, hb⟩; refine ⟨_, rfl, ?_⟩; have n0_ := Aside0.mk (blk_below (g := gb256) (o := .cells #[.int .i64 a0_0, .int .i64 a0_1, .int .i64 a0_2, .int .i64 a0_3, .int .i64 a0_4] 23 (0, 0)) (by (with_reducible repeat (first | refine blk_drewN ?_ _ | refine blk_drew ?_ | refine blk_alloc ?_ _)); exact BK256.out) hb); have n1_ := Aside0.mk (below_step (by repeat (first | (with_reducible first | exact HB.out | apply below_alloc | apply pw_below_drewN | apply below_drew1 | refine below_set ?_ GE256.out) | exact HB.out)) hb); clear BK256; clear HB; have BK256 := n0_; have HB := n1_; clear n0_ n1_; (try clear hb); (try clear hb2); (try clear hk); (try clear hi); have hcz62_0 : w61.cell? ⟨gb256, 0, none⟩ = some (.int .i64 a0_0) := (blk_cell BK256.out 0).trans rfl; have hcz62_1 : w61.cell? ⟨gb256, 1, none⟩ = some (.int .i64 a0_1) := (blk_cell BK256.out 1).trans rfl; have hcz62_2 : w61.cell? ⟨gb256, 2, none⟩ = some (.int .i64 a0_2) := (blk_cell BK256.out 2).trans rfl; have hcz62_3 : w61.cell? ⟨gb256, 3, none⟩ = some (.int .i64 a0_3) := (blk_cell BK256.out 3).trans rfl; have hcz62_4 : w61.cell? ⟨gb256, 4, none⟩ = some (.int .i64 a0_4) := (blk_cell BK256.out 4).trans rfl; have hfz62_0 := blk_frozen BK256.out 0; have hfz62_1 := blk_frozen BK256.out 1; have hfz62_2 := blk_frozen BK256.out 2; have hfz62_3 := blk_frozen BK256.out 3; have hfz62_4 := blk_frozen BK256.out 4) | ((with_reducible refine gate_callee (f := 12) rfl ?_); refine goesL_ (some 55) rfl rfl Try.func12 (by kernel_rfl) rfl #[] rfl (by (try simp only [List.map_toArray, List.map_cons, List.map_nil]); first | done | rfl | (simp only [List.length_drop, List.length_take]; rfl)) ?_; (with_reducible refine (casematelaw09_awake.calls  true _ A21.out).mono ?_); rintro e w63 ⟨rfl, hb⟩; refine ⟨_, rfl, ?_⟩; have n0_ := Aside0.mk (blk_below (g := gb256) (o := .cells #[.int .i64 a0_0, .int .i64 a0_1, .int .i64 a0_2, .int .i64 a0_3, .int .i64 a0_4] 23 (0, 0)) (by (with_reducible repeat (first | refine blk_drewN ?_ _ | refine blk_drew ?_ | refine blk_alloc ?_ _)); exact BK256.out) hb); have n1_ := Aside0.mk (below_step (by repeat (first | (with_reducible first | exact HB.out | apply below_alloc | apply pw_below_drewN | apply below_drew1 | refine below_set ?_ GE256.out) | exact HB.out)) hb); clear BK256; clear HB; have BK256 := n0_; have HB := n1_; clear n0_ n1_; (try clear hb); (try clear hb2); (try clear hk); (try clear hi)))
                      go_ret
                      exact ⟨by first | rfl | (simp [errW_none, errW_some] <;> rfl) | (simp [*, errW_none, errW_some] <;> rfl), by repeat (first | (with_reducible first | exact HB.out | apply below_alloc | apply pw_below_drewN | apply below_drew1 | refine below_set ?_ GE256.out) | exact HB.out)⟩
                · rw [if_neg c47] at H
                  have c47b0 : decide (a1 ≤ (wrap64 (t257 * (wrap64 (a0_2 * a0_3))))) = false := decide_eq_false c47
                  clear c47
                  obtain rfl := Option.some.inj H
                  have hcz64_0 : wc.cell? ⟨gb256, 0, none⟩ = some (.int .i64 a0_0) := (blk_cell BK256.out 0).trans rfl
                  have hcz64_1 : wc.cell? ⟨gb256, 1, none⟩ = some (.int .i64 a0_1) := (blk_cell BK256.out 1).trans rfl
                  have hcz64_2 : wc.cell? ⟨gb256, 2, none⟩ = some (.int .i64 a0_2) := (blk_cell BK256.out 2).trans rfl
                  have hcz64_3 : wc.cell? ⟨gb256, 3, none⟩ = some (.int .i64 a0_3) := (blk_cell BK256.out 3).trans rfl
                  have hcz64_4 : wc.cell? ⟨gb256, 4, none⟩ = some (.int .i64 a0_4) := (blk_cell BK256.out 4).trans rfl
                  have hfz64_0 := blk_frozen BK256.out 0
                  have hfz64_1 := blk_frozen BK256.out 1
                  have hfz64_2 := blk_frozen BK256.out 2
                  have hfz64_3 := blk_frozen BK256.out 3
                  have hfz64_4 := blk_frozen BK256.out 4
                  go_wp2_with (first | ((with_reducible refine gate_callee (f := 9) rfl ?_); refine goesL_ (some 47) rfl rfl Try.func9 (by kernel_rfl) rfl #[.agg #[.int .i64 a0_0, .int .i64 a0_1, .int .i64 a0_2, .int .i64 a0_3, .int .i64 a0_4], .int .i64 t261] rfl (by (try simp only [List.map_toArray, List.map_cons, List.map_nil]); first | done | rfl | (simp only [List.length_drop, List.length_take]; rfl)) ?_; (with_reducible refine (head_Pages.calls a0_0 a0_1 a0_2 a0_3 a0_4 t261 t264 t265 _ A20.out).mono ?_); rintro e w65 ⟨rfl, hb⟩; refine ⟨_, rfl, ?_⟩; have n0_ := Aside0.mk (blk_below (g := gb256) (o := .cells #[.int .i64 a0_0, .int .i64 a0_1, .int .i64 a0_2, .int .i64 a0_3, .int .i64 a0_4] 23 (0, 0)) (by (with_reducible repeat (first | refine blk_drewN ?_ _ | refine blk_drew ?_ | refine blk_alloc ?_ _)); exact BK256.out) hb); have n1_ := Aside0.mk (below_step (by repeat (first | (with_reducible first | exact HB.out | apply below_alloc | apply pw_below_drewN | apply below_drew1 | refine below_set ?_ GE256.out) | exact HB.out)) hb); clear BK256; clear HB; have BK256 := n0_; have HB := n1_; clear n0_ n1_; (try clear hb); (try clear hb2); (try clear hk); (try clear hi); have hcz66_0 : w65.cell? ⟨gb256, 0, none⟩ = some (.int .i64 a0_0) := (blk_cell BK256.out 0).trans rfl; have hcz66_1 : w65.cell? ⟨gb256, 1, none⟩ = some (.int .i64 a0_1) := (blk_cell BK256.out 1).trans rfl; have hcz66_2 : w65.cell? ⟨gb256, 2, none⟩ = some (.int .i64 a0_2) := (blk_cell BK256.out 2).trans rfl; have hcz66_3 : w65.cell? ⟨gb256, 3, none⟩ = some (.int .i64 a0_3) := (blk_cell BK256.out 3).trans rfl; have hcz66_4 : w65.cell? ⟨gb256, 4, none⟩ = some (.int .i64 a0_4) := (blk_cell BK256.out 4).trans rfl; have hfz66_0 := blk_frozen BK256.out 0; have hfz66_1 := blk_frozen BK256.out 1; have hfz66_2 := blk_frozen BK256.out 2; have hfz66_3 := blk_frozen BK256.out 3; have hfz66_4 := blk_frozen BK256.out 4) | ((with_reducible refine gate_callee (f := 12) rfl ?_); refine goesL_ (some 55) rfl rfl Try.func12 (by kernel_rfl) rfl #[] rfl (by (try simp only [List.map_toArray, List.map_cons, List.map_nil]); first | done | rfl | (simp only [List.length_drop, List.length_take]; rfl)) ?_; (with_reducible refine (casematelaw09_awake.calls  true _ A21.out).mono ?_); rintro e w67 ⟨rfl, hb⟩; refine ⟨_, rfl, ?_⟩; have n0_ := Aside0.mk (blk_below (g := gb256) (o := .cells #[.int .i64 a0_0, .int .i64 a0_1, .int .i64 a0_2, .int .i64 a0_3, .int .i64 a0_4] 23 (0, 0)) (by (with_reducible repeat (first | refine blk_drewN ?_ _ | refine blk_drew ?_ | refine blk_alloc ?_ _)); exact BK256.out) hb); have n1_ := Aside0.mk (below_step (by repeat (first | (with_reducible first | exact HB.out | apply below_alloc | apply pw_below_drewN | apply below_drew1 | refine below_set ?_ GE256.out) | exact HB.out)) hb); clear BK256; clear HB; have BK256 := n0_; have HB := n1_; clear n0_ n1_; (try clear hb); (try clear hb2); (try clear hk); (try clear hi)))
                  go_ret
                  exact ⟨by first | rfl | (simp [errW_none, errW_some] <;> rfl) | (simp [*, errW_none, errW_some] <;> rfl), by repeat (first | (with_reducible first | exact HB.out | apply below_alloc | apply pw_below_drewN | apply below_drew1 | refine below_set ?_ GE256.out) | exact HB.out)⟩
              · rw [if_neg c46] at H
                have c46b0 : decide (t257 ≤ t259) = false := decide_eq_false c46
                clear c46
                obtain rfl := Option.some.inj H
                have hcz68_0 : wc.cell? ⟨gb256, 0, none⟩ = some (.int .i64 a0_0) := (blk_cell BK256.out 0).trans rfl
                have hcz68_1 : wc.cell? ⟨gb256, 1, none⟩ = some (.int .i64 a0_1) := (blk_cell BK256.out 1).trans rfl
                have hcz68_2 : wc.cell? ⟨gb256, 2, none⟩ = some (.int .i64 a0_2) := (blk_cell BK256.out 2).trans rfl
                have hcz68_3 : wc.cell? ⟨gb256, 3, none⟩ = some (.int .i64 a0_3) := (blk_cell BK256.out 3).trans rfl
                have hcz68_4 : wc.cell? ⟨gb256, 4, none⟩ = some (.int .i64 a0_4) := (blk_cell BK256.out 4).trans rfl
                have hfz68_0 := blk_frozen BK256.out 0
                have hfz68_1 := blk_frozen BK256.out 1
                have hfz68_2 := blk_frozen BK256.out 2
                have hfz68_3 := blk_frozen BK256.out 3
                have hfz68_4 := blk_frozen BK256.out 4
                go_wp2_with (first | ((with_reducible refine gate_callee (f := 9) rfl ?_); refine goesL_ (some 47) rfl rfl Try.func9 (by kernel_rfl) rfl #[.agg #[.int .i64 a0_0, .int .i64 a0_1, .int .i64 a0_2, .int .i64 a0_3, .int .i64 a0_4], .int .i64 t261] rfl (by (try simp only [List.map_toArray, List.map_cons, List.map_nil]); first | done | rfl | (simp only [List.length_drop, List.length_take]; rfl)) ?_; (with_reducible refine (head_Pages.calls a0_0 a0_1 a0_2 a0_3 a0_4 t261 t264 t265 _ A20.out).mono ?_); rintro e w69 ⟨rfl, hb⟩; refine ⟨_, rfl, ?_⟩; have n0_ := Aside0.mk (blk_below (g := gb256) (o := .cells #[.int .i64 a0_0, .int .i64 a0_1, .int .i64 a0_2, .int .i64 a0_3, .int .i64 a0_4] 23 (0, 0)) (by (with_reducible repeat (first | refine blk_drewN ?_ _ | refine blk_drew ?_ | refine blk_alloc ?_ _)); exact BK256.out) hb); have n1_ := Aside0.mk (below_step (by repeat (first | (with_reducible first | exact HB.out | apply below_alloc | apply pw_below_drewN | apply below_drew1 | refine below_set ?_ GE256.out) | exact HB.out)) hb); clear BK256; clear HB; have BK256 := n0_; have HB := n1_; clear n0_ n1_; (try clear hb); (try clear hb2); (try clear hk); (try clear hi); have hcz70_0 : w69.cell? ⟨gb256, 0, none⟩ = some (.int .i64 a0_0) := (blk_cell BK256.out 0).trans rfl; have hcz70_1 : w69.cell? ⟨gb256, 1, none⟩ = some (.int .i64 a0_1) := (blk_cell BK256.out 1).trans rfl; have hcz70_2 : w69.cell? ⟨gb256, 2, none⟩ = some (.int .i64 a0_2) := (blk_cell BK256.out 2).trans rfl; have hcz70_3 : w69.cell? ⟨gb256, 3, none⟩ = some (.int .i64 a0_3) := (blk_cell BK256.out 3).trans rfl; have hcz70_4 : w69.cell? ⟨gb256, 4, none⟩ = some (.int .i64 a0_4) := (blk_cell BK256.out 4).trans rfl; have hfz70_0 := blk_frozen BK256.out 0; have hfz70_1 := blk_frozen BK256.out 1; have hfz70_2 := blk_frozen BK256.out 2; have hfz70_3 := blk_frozen BK256.out 3; have hfz70_4 := blk_frozen BK256.out 4) | ((with_reducible refine gate_callee (f := 12) rfl ?_); refine goesL_ (some 55) rfl rfl Try.func12 (by kernel_rfl) rfl #[] rfl (by (try simp only [List.map_toArray, List.map_cons, List.map_nil]); first | done | rfl | (simp only [List.length_drop, List.length_take]; rfl)) ?_; (with_reducible refine (casematelaw09_awake.calls  true _ A21.out).mono ?_); rintro e w71 ⟨rfl, hb⟩; refine ⟨_, rfl, ?_⟩; have n0_ := Aside0.mk (blk_below (g := gb256) (o := .cells #[.int .i64 a0_0, .int .i64 a0_1, .int .i64 a0_2, .int .i64 a0_3, .int .i64 a0_4] 23 (0, 0)) (by (with_reducible repeat (first | refine blk_drewN ?_ _ | refine blk_drew ?_ | refine blk_alloc ?_ _)); exact BK256.out) hb); have n1_ := Aside0.mk (below_step (by repeat (first | (with_reducible first | exact HB.out | apply below_alloc | apply pw_below_drewN | apply below_drew1 | refine below_set ?_ GE256.out) | exact HB.out)) hb); clear BK256; clear HB; have BK256 := n0_; have HB := n1_; clear n0_ n1_; (try clear hb); (try clear hb2); (try clear hk); (try clear hi)))
                go_ret
                exact ⟨by first | rfl | (simp [errW_none, errW_some] <;> rfl) | (simp [*, errW_none, errW_some] <;> rfl), by repeat (first | (with_reducible first | exact HB.out | apply below_alloc | apply pw_below_drewN | apply below_drew1 | refine below_set ?_ GE256.out) | exact HB.out)⟩
          · rw [if_neg c23] at H
            have c23b0 : (t265 == 0) = false := beq_eq_false_iff_ne.mpr c23
            have c23b1 : (t265 != 0) = true := bne_iff_ne.mpr c23
            obtain rfl := Option.some.inj H
            have hcz72_0 : wc.cell? ⟨gb256, 0, none⟩ = some (.int .i64 a0_0) := (blk_cell BK256.out 0).trans rfl
            have hcz72_1 : wc.cell? ⟨gb256, 1, none⟩ = some (.int .i64 a0_1) := (blk_cell BK256.out 1).trans rfl
            have hcz72_2 : wc.cell? ⟨gb256, 2, none⟩ = some (.int .i64 a0_2) := (blk_cell BK256.out 2).trans rfl
            have hcz72_3 : wc.cell? ⟨gb256, 3, none⟩ = some (.int .i64 a0_3) := (blk_cell BK256.out 3).trans rfl
            have hcz72_4 : wc.cell? ⟨gb256, 4, none⟩ = some (.int .i64 a0_4) := (blk_cell BK256.out 4).trans rfl
            have hfz72_0 := blk_frozen BK256.out 0
            have hfz72_1 := blk_frozen BK256.out 1
            have hfz72_2 := blk_frozen BK256.out 2
            have hfz72_3 := blk_frozen BK256.out 3
            have hfz72_4 := blk_frozen BK256.out 4
            go_wp2_with (first | ((with_reducible refine gate_callee (f := 9) rfl ?_); refine goesL_ (some 47) rfl rfl Try.func9 (by kernel_rfl) rfl #[.agg #[.int .i64 a0_0, .int .i64 a0_1, .int .i64 a0_2, .int .i64 a0_3, .int .i64 a0_4], .int .i64 t261] rfl (by (try simp only [List.map_toArray, List.map_cons, List.map_nil]); first | done | rfl | (simp only [List.length_drop, List.length_take]; rfl)) ?_; (with_reducible refine (head_Pages.calls a0_0 a0_1 a0_2 a0_3 a0_4 t261 t264 t265 _ A20.out).mono ?_); rintro e w73 ⟨rfl, hb⟩; refine ⟨_, rfl, ?_⟩; have n0_ := Aside0.mk (blk_below (g := gb256) (o := .cells #[.int .i64 a0_0, .int .i64 a0_1, .int .i64 a0_2, .int .i64 a0_3, .int .i64 a0_4] 23 (0, 0)) (by (with_reducible repeat (first | refine blk_drewN ?_ _ | refine blk_drew ?_ | refine blk_alloc ?_ _)); exact BK256.out) hb); have n1_ := Aside0.mk (below_step (by repeat (first | (with_reducible first | exact HB.out | apply below_alloc | apply pw_below_drewN | apply below_drew1 | refine below_set ?_ GE256.out) | exact HB.out)) hb); clear BK256; clear HB; have BK256 := n0_; have HB := n1_; clear n0_ n1_; (try clear hb); (try clear hb2); (try clear hk); (try clear hi); have hcz74_0 : w73.cell? ⟨gb256, 0, none⟩ = some (.int .i64 a0_0) := (blk_cell BK256.out 0).trans rfl; have hcz74_1 : w73.cell? ⟨gb256, 1, none⟩ = some (.int .i64 a0_1) := (blk_cell BK256.out 1).trans rfl; have hcz74_2 : w73.cell? ⟨gb256, 2, none⟩ = some (.int .i64 a0_2) := (blk_cell BK256.out 2).trans rfl; have hcz74_3 : w73.cell? ⟨gb256, 3, none⟩ = some (.int .i64 a0_3) := (blk_cell BK256.out 3).trans rfl; have hcz74_4 : w73.cell? ⟨gb256, 4, none⟩ = some (.int .i64 a0_4) := (blk_cell BK256.out 4).trans rfl; have hfz74_0 := blk_frozen BK256.out 0; have hfz74_1 := blk_frozen BK256.out 1; have hfz74_2 := blk_frozen BK256.out 2; have hfz74_3 := blk_frozen BK256.out 3; have hfz74_4 := blk_frozen BK256.out 4) | ((with_reducible refine gate_callee (f := 12) rfl ?_); refine goesL_ (some 55) rfl rfl Try.func12 (by kernel_rfl) rfl #[] rfl (by (try simp only [List.map_toArray, List.map_cons, List.map_nil]); first | done | rfl | (simp only [List.length_drop, List.length_take]; rfl)) ?_; (with_reducible refine (casematelaw09_awake.calls  true _ A21.out).mono ?_); rintro e w75 ⟨rfl, hb⟩; refine ⟨_, rfl, ?_⟩; have n0_ := Aside0.mk (blk_below (g := gb256) (o := .cells #[.int .i64 a0_0, .int .i64 a0_1, .int .i64 a0_2, .int .i64 a0_3, .int .i64 a0_4] 23 (0, 0)) (by (with_reducible repeat (first | refine blk_drewN ?_ _ | refine blk_drew ?_ | refine blk_alloc ?_ _)); exact BK256.out) hb); have n1_ := Aside0.mk (below_step (by repeat (first | (with_reducible first | exact HB.out | apply below_alloc | apply pw_below_drewN | apply below_drew1 | refine below_set ?_ GE256.out) | exact HB.out)) hb); clear BK256; clear HB; have BK256 := n0_; have HB := n1_; clear n0_ n1_; (try clear hb); (try clear hb2); (try clear hk); (try clear hi)))
            go_ret
            exact ⟨by first | rfl | (simp [errW_none, errW_some] <;> rfl) | (simp [*, errW_none, errW_some] <;> rfl), by repeat (first | (with_reducible first | exact HB.out | apply below_alloc | apply pw_below_drewN | apply below_drew1 | refine below_set ?_ GE256.out) | exact HB.out)⟩
        · replace c22 := Bool.eq_false_iff.mpr c22
          subst c22
          have H1 : (some false) = some r := by rw [if_neg (show ¬ (false = true) by decide)] at H; exact H
          clear H
          have H := H1
          clear H1
          obtain rfl := Option.some.inj H
          have hcz76_0 : wc.cell? ⟨gb256, 0, none⟩ = some (.int .i64 a0_0) := (blk_cell BK256.out 0).trans rfl
          have hcz76_1 : wc.cell? ⟨gb256, 1, none⟩ = some (.int .i64 a0_1) := (blk_cell BK256.out 1).trans rfl
          have hcz76_2 : wc.cell? ⟨gb256, 2, none⟩ = some (.int .i64 a0_2) := (blk_cell BK256.out 2).trans rfl
          have hcz76_3 : wc.cell? ⟨gb256, 3, none⟩ = some (.int .i64 a0_3) := (blk_cell BK256.out 3).trans rfl
          have hcz76_4 : wc.cell? ⟨gb256, 4, none⟩ = some (.int .i64 a0_4) := (blk_cell BK256.out 4).trans rfl
          have hfz76_0 := blk_frozen BK256.out 0
          have hfz76_1 := blk_frozen BK256.out 1
          have hfz76_2 := blk_frozen BK256.out 2
          have hfz76_3 := blk_frozen BK256.out 3
          have hfz76_4 := blk_frozen BK256.out 4
          go_wp2_with (first | ((with_reducible refine gate_callee (f := 9) rfl ?_); refine goesL_ (some 47) rfl rfl Try.func9 (by kernel_rfl) rfl #[.agg #[.int .i64 a0_0, .int .i64 a0_1, .int .i64 a0_2, .int .i64 a0_3, .int .i64 a0_4], .int .i64 t261] rfl (by (try simp only [List.map_toArray, List.map_cons, List.map_nil]); first | done | rfl | (simp only [List.length_drop, List.length_take]; rfl)) ?_; (with_reducible refine (head_Pages.calls a0_0 a0_1 a0_2 a0_3 a0_4 t261 t264 t265 _ A20.out).mono ?_); rintro e w77 ⟨rfl, hb⟩; refine ⟨_, rfl, ?_⟩; have n0_ := Aside0.mk (blk_below (g := gb256) (o := .cells #[.int .i64 a0_0, .int .i64 a0_1, .int .i64 a0_2, .int .i64 a0_3, .int .i64 a0_4] 23 (0, 0)) (by (with_reducible repeat (first | refine blk_drewN ?_ _ | refine blk_drew ?_ | refine blk_alloc ?_ _)); exact BK256.out) hb); have n1_ := Aside0.mk (below_step (by repeat (first | (with_reducible first | exact HB.out | apply below_alloc | apply pw_below_drewN | apply below_drew1 | refine below_set ?_ GE256.out) | exact HB.out)) hb); clear BK256; clear HB; have BK256 := n0_; have HB := n1_; clear n0_ n1_; (try clear hb); (try clear hb2); (try clear hk); (try clear hi); have hcz78_0 : w77.cell? ⟨gb256, 0, none⟩ = some (.int .i64 a0_0) := (blk_cell BK256.out 0).trans rfl; have hcz78_1 : w77.cell? ⟨gb256, 1, none⟩ = some (.int .i64 a0_1) := (blk_cell BK256.out 1).trans rfl; have hcz78_2 : w77.cell? ⟨gb256, 2, none⟩ = some (.int .i64 a0_2) := (blk_cell BK256.out 2).trans rfl; have hcz78_3 : w77.cell? ⟨gb256, 3, none⟩ = some (.int .i64 a0_3) := (blk_cell BK256.out 3).trans rfl; have hcz78_4 : w77.cell? ⟨gb256, 4, none⟩ = some (.int .i64 a0_4) := (blk_cell BK256.out 4).trans rfl; have hfz78_0 := blk_frozen BK256.out 0; have hfz78_1 := blk_frozen BK256.out 1; have hfz78_2 := blk_frozen BK256.out 2; have hfz78_3 := blk_frozen BK256.out 3; have hfz78_4 := blk_frozen BK256.out 4) | ((with_reducible refine gate_callee (f := 12) rfl ?_); refine goesL_ (some 55) rfl rfl Try.func12 (by kernel_rfl) rfl #[] rfl (by (try simp only [List.map_toArray, List.map_cons, List.map_nil]); first | done | rfl | (simp only [List.length_drop, List.length_take]; rfl)) ?_; (with_reducible refine (casematelaw09_awake.calls  false _ A21.out).mono ?_); rintro e w79 ⟨rfl, hb⟩; refine ⟨_, rfl, ?_⟩; have n0_ := Aside0.mk (blk_below (g := gb256) (o := .cells #[.int .i64 a0_0, .int .i64 a0_1, .int .i64 a0_2, .int .i64 a0_3, .int .i64 a0_4] 23 (0, 0)) (by (with_reducible repeat (first | refine blk_drewN ?_ _ | refine blk_drew ?_ | refine blk_alloc ?_ _)); exact BK256.out) hb); have n1_ := Aside0.mk (below_step (by repeat (first | (with_reducible first | exact HB.out | apply below_alloc | apply pw_below_drewN | apply below_drew1 | refine below_set ?_ GE256.out) | exact HB.out)) hb); clear BK256; clear HB; have BK256 := n0_; have HB := n1_; clear n0_ n1_; (try clear hb); (try clear hb2); (try clear hk); (try clear hi)))
          go_ret
          exact ⟨by first | rfl | (simp [errW_none, errW_some] <;> rfl) | (simp [*, errW_none, errW_some] <;> rfl), by repeat (first | (with_reducible first | exact HB.out | apply below_alloc | apply pw_below_drewN | apply below_drew1 | refine below_set ?_ GE256.out) | exact HB.out)⟩

end Go.Proofs.Ytlaadaigffmibaa.P

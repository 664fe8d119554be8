/- What Go functions of the translation come to, as plain functions, and that their calls come to just that. No condition but that the plain function answers. (Written by a program of this session.) -/
import Derived.Test.YtbaiildpabdlpaaPx0
namespace Go.Proofs.Ytbaiildpabdlpaa.P
open Go.RowKit Go.Proofs.YtbaiildpabdlpaaW.PrintWords Go.Proofs.YtbaiildpabdlpaaW.PrintLast Go.Proofs.YtbaiildpabdlpaaW.PrintMore
attribute [local go_sem] max2_int min2_int max_two min_two max_three min_three max_four min_four   -- for this text's walks alone
set_option linter.unusedVariables false
set_option linter.unusedSimpArgs false
mutual
def bits_Apart.l0 : Nat → List Int → List Int → List Int → Int → Int → Option (List Int × Int)
  | 0, _, _, _, _, _ => none
  | k + 1, x0, x1, x6, x15, x16 => if x16 < x15 then (bits_Apart.l1 k x0 x1 x6 x16 x15 x16 0) else (some (x6, 0))
def bits_Apart.l1 : Nat → List Int → List Int → List Int → Int → Int → Int → Int → Option (List Int × Int)
  | 0, _, _, _, _, _, _, _ => none
  | k + 1, x0, x1, x6, x7, x15, x16, x19 => if x19 < 8 then (if 0 ≤ x7 then (if x7 < (x0.length : Int) then (if x7 < (x1.length : Int) then (if 0 ≤ x19 then (if (Go.bits .and .u8 (shr .u8 (Go.bits .xor .u8 (rd x0 x7) (rd x1 x7)) x19) 1) = 1 then (if x6.length < 17592186044416 then (bits_Apart.l1 k x0 x1 (x6 ++ [wrap64 ((wrap64 (8 * x7)) + x19)]) x7 x15 x16 (wrap64 (x19 + 1))) else (none)) else (bits_Apart.l1 k x0 x1 x6 x7 x15 x16 (wrap64 (x19 + 1)))) else (none)) else (none)) else (none)) else (none)) else (bits_Apart.l0 k x0 x1 x6 x15 (wrap64 (x16 + 1)))
end
def bits_Apart.f (k : Nat) (l0 : List Int) (l1 : List Int) : Option (List Int × Int) := if (l0.length : Int) = (l1.length : Int) then (bits_Apart.l0 k l0 l1 ([] : List Int) (l0.length : Int) 0) else (some (([] : List Int), 1))
set_option maxHeartbeats 8000000 in
set_option maxRecDepth 100000 in
theorem bits_Apart.calls (k : Nat) (A0 : Option Addr) (c0 : Nat) (l0 : List Int) (A1 : Option Addr) (c1 : Nat) (l1 : List Int) (r1 : List Int) (r2 : Int) (w : World) (hr0 : Kd.C (Kd.int .u8) w A0 l0.length l0) (hc0 : l0.length ≤ c0) (hr1 : Kd.C (Kd.int .u8) w A1 l1.length l1) (hc1 : l1.length ≤ c1) (h : bits_Apart.f k l0 l1 = some (r1, r2)) :
    Calls Try.prog 26 #[.slice A0 l0.length c0, .slice A1 l1.length c1] w fun e w' => ∃ v0_ : Value, e = .returned (.tuple #[v0_, .int .i64 r2]) ∧ Kd.R (Kd.int .i64) 3 w' w.heap.size (fun _ => True) v0_ r1 ∧ Below w.heap.size w w' := by
  have HR0 := Aside0.mk hr0
  have HC0 := Aside0.mk hc0
  clear hr0 hc0
  have HR1 := Aside0.mk hr1
  have HC1 := Aside0.mk hc1
  clear hr1 hc1
  have HB := Aside0.mk (Below.refl w.heap.size w)
  have H : (if (l0.length : Int) = (l1.length : Int) then (bits_Apart.l0 k l0 l1 ([] : List Int) (l0.length : Int) 0) else (some (([] : List Int), 1))) = some (r1, r2) := h
  clear h
  by_cases c3 : (l0.length : Int) = (l1.length : Int)
  · rw [if_pos c3] at H
    have c3b0 : ((l0.length : Int) == (l1.length : Int)) = true := beq_iff_eq.mpr c3
    have c3b1 : ((l0.length : Int) != (l1.length : Int)) = false := bne_eq_false_iff_eq.mpr c3
    have c3b2 : (l0.length == l1.length) = true := by first | simpa using c3 | (simp at c3 ⊢; omega)
    clear c3
    have H' := Aside0.mk H
    clear H
    go_enter Try.func26, Try.ntmps26
    go_wp2
    repeat (go_quiet (fail); try go_wp2)
    go_loopg [6, 16] k (fun kq v6 v16 w' => ∃ (x6_1 : List Int) (x16_1 : Int), v16 = .int .i64 x16_1 ∧ Aside0 (bits_Apart.l0 kq l0 l1 x6_1 (l0.length : Int) x16_1 = some (r1, r2)) ∧ Aside0 (kq ≤ k) ∧ Aside0 (Kd.R (Kd.int .i64) 3 w' w.heap.size (fun _ => True) v6 x6_1) ∧ Aside0 (Below w.heap.size w w'))
    case atStart => exact ⟨(([] : List Int)), (0), (by first | rfl | (simp; done) | (simp [*]; done)), H', ⟨Nat.le_refl _⟩, ⟨by first | exact Kd.R_nil _ _ _ _ _ | exact Kd.N_nil _ _ _ _ _ | exact Kd.V_nil _ _ _ _ _ | exact Kd.Q_nil _ _ _ _ _ | exact Kd.S_nil _ _ _ _ _⟩, ⟨by repeat (first | (with_reducible first | exact HB.out | apply below_alloc | apply pw_below_drewN | apply below_drew1) | exact HB.out)⟩⟩
    case round =>
      clear H'
      try clear c1
      try clear c2
      try clear p2
      try clear c3
      try clear c3b0
      try clear c3b1
      try clear c3b2
      obtain ⟨x6_1, x16_1, rfl, HA, HK1, HO_6, HB⟩ := hrel
      cases gk with
      | zero => exact absurd HA.out (by simp [bits_Apart.l0])
      | succ k1 =>
        have H := HA.out
        clear HA
        simp only [bits_Apart.l0] at H
        by_cases c4 : x16_1 < (l0.length : Int)
        · rw [if_pos c4] at H
          have c4b0 : decide (x16_1 < (l0.length : Int)) = true := decide_eq_true c4
          clear c4
          have H' := Aside0.mk H
          clear H
          go_wp2
          repeat (go_quiet (fail); try go_wp2)
          go_loopg [6, 19] k1 (fun kq v6 v19 w' => ∃ (x6_2 : List Int) (x19_2 : Int), v19 = .int .i64 x19_2 ∧ Aside0 (bits_Apart.l1 kq l0 l1 x6_2 x16_1 (l0.length : Int) x16_1 x19_2 = some (r1, r2)) ∧ Aside0 (kq ≤ k1) ∧ Aside0 (Kd.R (Kd.int .i64) 3 w' w.heap.size (fun _ => True) v6 x6_2) ∧ Aside0 (Below w.heap.size w w'))
          case atStart => exact ⟨(x6_1), (0), (by first | rfl | (simp; done) | (simp [*]; done)), H', ⟨Nat.le_refl _⟩, ⟨by (with_reducible repeat (first | apply Kd.R_alloc | apply Kd.R_drewN | apply Kd.R_drew)); exact HO_6.out⟩, ⟨by repeat (first | (with_reducible first | exact HB.out | apply below_alloc | apply pw_below_drewN | apply below_drew1) | exact HB.out)⟩⟩
          case round =>
            clear H'
            try clear c1
            try clear c2
            try clear p2
            try clear c3
            try clear c3b0
            try clear c3b1
            try clear c3b2
            try clear c4
            try clear c4b0
            try clear p2
            obtain ⟨x6_2, x19_2, rfl, HA, HK2, HO_6, HB⟩ := hrel
            cases gk with
            | zero => exact absurd HA.out (by simp [bits_Apart.l1])
            | succ k2 =>
              have H := HA.out
              clear HA
              simp only [bits_Apart.l1] at H
              by_cases c5 : x19_2 < 8
              · rw [if_pos c5] at H
                have c5b0 : decide (x19_2 < 8) = true := decide_eq_true c5
                clear c5
                by_cases c6 : 0 ≤ x16_1
                · rw [if_pos c6] at H
                  have c6b0 : decide (0 ≤ x16_1) = true := decide_eq_true c6
                  clear c6
                  by_cases c7 : x16_1 < (l0.length : Int)
                  · rw [if_pos c7] at H
                    have c7b0 : decide (x16_1 < (l0.length : Int)) = true := decide_eq_true c7
                    clear c7
                    by_cases c8 : x16_1 < (l1.length : Int)
                    · rw [if_pos c8] at H
                      have c8b0 : decide (x16_1 < (l1.length : Int)) = true := decide_eq_true c8
                      clear c8
                      by_cases c9 : 0 ≤ x19_2
                      · rw [if_pos c9] at H
                        have c9b0 := eq_true c9
                        have c9b1 : decide (0 ≤ x19_2) = true := decide_eq_true c9
                        clear c9
                        obtain ⟨ji10, hji10⟩ : ∃ j_ : Int, (shr .u8 (Go.bits .xor .u8 (rd l0 x16_1) (rd l1 x16_1)) x19_2) = j_ := ⟨_, rfl⟩
                        replace H : (if (Go.bits .and .u8 (ji10) 1) = 1 then (if x6_2.length < 17592186044416 then (bits_Apart.l1 k2 l0 l1 (x6_2 ++ [wrap64 ((wrap64 (8 * x16_1)) + x19_2)]) x16_1 (l0.length : Int) x16_1 (wrap64 (x19_2 + 1))) else (none)) else (bits_Apart.l1 k2 l0 l1 x6_2 x16_1 (l0.length : Int) x16_1 (wrap64 (x19_2 + 1)))) = some (r1, r2) := by first | (rw [hji10] at H; exact H) | (simp only [hji10] at H ⊢; exact H)
                        have hji10_ : ((Go.bits .xor .u8 (rd l0 x16_1) (rd l1 x16_1)) / 2 ^ min x19_2.toNat 8) = ji10 := hji10
                        have hji10z : x19_2 ≤ 8 → ((Go.bits .xor .u8 (rd l0 x16_1) (rd l1 x16_1)) / 2 ^ x19_2.toNat) = ji10 := shr_small hji10
                        by_cases c11 : (Go.bits .and .u8 (ji10) 1) = 1
                        · rw [if_pos c11] at H
                          have c11b0 : ((Go.bits .and .u8 (ji10) 1) == 1) = true := beq_iff_eq.mpr c11
                          have c11b1 : ((Go.bits .and .u8 (ji10) 1) != 1) = false := bne_eq_false_iff_eq.mpr c11
                          clear c11
                          by_cases c12 : x6_2.length < 17592186044416
                          · rw [if_pos c12] at H
                            have LMc12 := Aside0.mk c12
                            clear c12
                            obtain ⟨y531, hy531⟩ : ∃ y_ : List Int, y_ = (x6_2 ++ [wrap64 ((wrap64 (8 * x16_1)) + x19_2)]) := ⟨_, rfl⟩
                            replace H : (bits_Apart.l1 k2 l0 l1 y531 x16_1 (l0.length : Int) x16_1 (wrap64 (x19_2 + 1))) = some (r1, r2) := by first | (rw [hy531]; with_reducible exact H) | (have H2_ := (Option.bind_some _ _).symm.trans H; rw [hy531]; with_reducible exact H2_) | (have H2_ := (Option.bind_some _ _).symm.trans H; with_reducible exact H2_) | with_reducible exact H | (rw [hy531]; exact H) | exact H
                            have Ny531 := Aside0.mk hy531
                            clear hy531
                            have H' := Aside0.mk H
                            clear H
                            have p529 : 0 ≤ (x16_1 : Int) := of_decide_eq_true (by first | (with_reducible assumption) | assumption)
                            have q529 : x16_1 < (l0.length : Int) := of_decide_eq_true (by first | (with_reducible assumption) | assumption)
                            obtain ⟨ad529, e529, hx529_0⟩ := Kd.at_int HR0.out x16_1 p529 q529
                            cases e529
                            replace hx529_0 := (HB.out.cell (World.block_lt_of_cell? w _ hx529_0)).trans hx529_0
                            replace p529 := eq_true p529
                            replace q529 := eq_true q529
                            have p530 : 0 ≤ (x16_1 : Int) := of_decide_eq_true (by first | (with_reducible assumption) | assumption)
                            have q530 : x16_1 < (l1.length : Int) := of_decide_eq_true (by first | (with_reducible assumption) | assumption)
                            obtain ⟨ad530, e530, hx530_0⟩ := Kd.at_int HR1.out x16_1 p530 q530
                            cases e530
                            replace hx530_0 := (HB.out.cell (World.block_lt_of_cell? w _ hx530_0)).trans hx530_0
                            replace p530 := eq_true p530
                            replace q530 := eq_true q530
                            go_wp2_with (first | ((with_reducible refine gate_builtin (b := .append) (xs := #[.tmp 35, .tmp 40]) rfl ?_); at_builtin; refine Kd.R_append (Kd.int .i64) (w0 := w) w.heap.size rfl (.tmp 35) (.tmp 40) 38 3 (.int .i64 0) 8 rfl Try.underlying38 info3 rfl (by decide) (by omega) u6 x6_2 (wrap64 ((wrap64 (8 * x16_1)) + x19_2)) [.int .i64 (wrap64 ((wrap64 (8 * x16_1)) + x19_2))] (fun _ => True) (fun _ => False) rfl rfl ?aP (fun _ hk => hk.elim) ?aF ?aO ?aB ?aS ?aL ?_; (case aP => exact rfl); (case aB => exact (by repeat (first | (with_reducible first | exact HB.out | apply below_alloc | apply pw_below_drewN | apply below_drew1) | exact HB.out))); (case aF => exact (fun _ _ => trivial)); (case aO => exact (by (with_reducible repeat (first | apply Kd.R_alloc | apply Kd.R_drewN | apply Kd.R_drew)); exact HO_6.out)); (case aS => exact (below_size (by repeat (first | (with_reducible first | exact HB.out | apply below_alloc | apply pw_below_drewN | apply below_drew1) | exact HB.out)))); (case aL => have := LMc12.out; omega); intro v532 w13 ho hb hg hat; rw [← Ny531.out] at ho; have n0_ := Aside0.mk (hb); have n1_ := Aside0.mk (ho); clear HB; clear HO_6; have HB := n0_; have HO533 := n1_; clear n0_ n1_; clear ho hb hg hat))
                            repeat (go_quiet (first | ((with_reducible refine gate_builtin (b := .append) (xs := #[.tmp 35, .tmp 40]) rfl ?_); at_builtin; refine Kd.R_append (Kd.int .i64) (w0 := w) w.heap.size rfl (.tmp 35) (.tmp 40) 38 3 (.int .i64 0) 8 rfl Try.underlying38 info3 rfl (by decide) (by omega) u6 x6_2 (wrap64 ((wrap64 (8 * x16_1)) + x19_2)) [.int .i64 (wrap64 ((wrap64 (8 * x16_1)) + x19_2))] (fun _ => True) (fun _ => False) rfl rfl ?aP (fun _ hk => hk.elim) ?aF ?aO ?aB ?aS ?aL ?_; (case aP => exact rfl); (case aB => exact (by repeat (first | (with_reducible first | exact HB.out | apply below_alloc | apply pw_below_drewN | apply below_drew1) | exact HB.out))); (case aF => exact (fun _ _ => trivial)); (case aO => exact (by (with_reducible repeat (first | apply Kd.R_alloc | apply Kd.R_drewN | apply Kd.R_drew)); exact HO_6.out)); (case aS => exact (below_size (by repeat (first | (with_reducible first | exact HB.out | apply below_alloc | apply pw_below_drewN | apply below_drew1) | exact HB.out)))); (case aL => have := LMc12.out; omega); intro v532 w13 ho hb hg hat; rw [← Ny531.out] at ho; have n0_ := Aside0.mk (hb); have n1_ := Aside0.mk (ho); clear HB; clear HO_6; have HB := n0_; have HO533 := n1_; clear n0_ n1_; clear ho hb hg hat)); try go_wp2_with (first | ((with_reducible refine gate_builtin (b := .append) (xs := #[.tmp 35, .tmp 40]) rfl ?_); at_builtin; refine Kd.R_append (Kd.int .i64) (w0 := w) w.heap.size rfl (.tmp 35) (.tmp 40) 38 3 (.int .i64 0) 8 rfl Try.underlying38 info3 rfl (by decide) (by omega) u6 x6_2 (wrap64 ((wrap64 (8 * x16_1)) + x19_2)) [.int .i64 (wrap64 ((wrap64 (8 * x16_1)) + x19_2))] (fun _ => True) (fun _ => False) rfl rfl ?aP (fun _ hk => hk.elim) ?aF ?aO ?aB ?aS ?aL ?_; (case aP => exact rfl); (case aB => exact (by repeat (first | (with_reducible first | exact HB.out | apply below_alloc | apply pw_below_drewN | apply below_drew1) | exact HB.out))); (case aF => exact (fun _ _ => trivial)); (case aO => exact (by (with_reducible repeat (first | apply Kd.R_alloc | apply Kd.R_drewN | apply Kd.R_drew)); exact HO_6.out)); (case aS => exact (below_size (by repeat (first | (with_reducible first | exact HB.out | apply below_alloc | apply pw_below_drewN | apply below_drew1) | exact HB.out)))); (case aL => have := LMc12.out; omega); intro v532 w13 ho hb hg hat; rw [← Ny531.out] at ho; have n0_ := Aside0.mk (hb); have n1_ := Aside0.mk (ho); clear HB; clear HO_6; have HB := n0_; have HO533 := n1_; clear n0_ n1_; clear ho hb hg hat)))
                            go_roundg k2
                            case measure => have := HK1.out; have := HK2.out; omega
                            case rel => exact ⟨(y531), (wrap64 (x19_2 + 1)), (by first | rfl | (simp; done) | (simp [*]; done)), H', ⟨by have := HK1.out; have := HK2.out; omega⟩, ⟨by (with_reducible repeat (first | apply Kd.R_alloc | apply Kd.R_drewN | apply Kd.R_drew)); exact HO533.out⟩, ⟨by repeat (first | (with_reducible first | exact HB.out | apply below_alloc | apply pw_below_drewN | apply below_drew1) | exact HB.out)⟩⟩
                          · rw [if_neg c12] at H
                            exact absurd H (by simp)
                        · rw [if_neg c11] at H
                          have c11b0 : ((Go.bits .and .u8 (ji10) 1) == 1) = false := beq_eq_false_iff_ne.mpr c11
                          have c11b1 : ((Go.bits .and .u8 (ji10) 1) != 1) = true := bne_iff_ne.mpr c11
                          have H' := Aside0.mk H
                          clear H
                          have p529 : 0 ≤ (x16_1 : Int) := of_decide_eq_true (by first | (with_reducible assumption) | assumption)
                          have q529 : x16_1 < (l0.length : Int) := of_decide_eq_true (by first | (with_reducible assumption) | assumption)
                          obtain ⟨ad529, e529, hx529_0⟩ := Kd.at_int HR0.out x16_1 p529 q529
                          cases e529
                          replace hx529_0 := (HB.out.cell (World.block_lt_of_cell? w _ hx529_0)).trans hx529_0
                          replace p529 := eq_true p529
                          replace q529 := eq_true q529
                          have p530 : 0 ≤ (x16_1 : Int) := of_decide_eq_true (by first | (with_reducible assumption) | assumption)
                          have q530 : x16_1 < (l1.length : Int) := of_decide_eq_true (by first | (with_reducible assumption) | assumption)
                          obtain ⟨ad530, e530, hx530_0⟩ := Kd.at_int HR1.out x16_1 p530 q530
                          cases e530
                          replace hx530_0 := (HB.out.cell (World.block_lt_of_cell? w _ hx530_0)).trans hx530_0
                          replace p530 := eq_true p530
                          replace q530 := eq_true q530
                          go_wp2
                          repeat (go_quiet (fail); try go_wp2)
                          go_roundg k2
                          case measure => have := HK1.out; have := HK2.out; omega
                          case rel => exact ⟨(x6_2), (wrap64 (x19_2 + 1)), (by first | rfl | (simp; done) | (simp [*]; done)), H', ⟨by have := HK1.out; have := HK2.out; omega⟩, ⟨by (with_reducible repeat (first | apply Kd.R_alloc | apply Kd.R_drewN | apply Kd.R_drew)); exact HO_6.out⟩, ⟨by repeat (first | (with_reducible first | exact HB.out | apply below_alloc | apply pw_below_drewN | apply below_drew1) | exact HB.out)⟩⟩
                      · rw [if_neg c9] at H
                        exact absurd H (by simp)
                    · rw [if_neg c8] at H
                      exact absurd H (by simp)
                  · rw [if_neg c7] at H
                    exact absurd H (by simp)
                · rw [if_neg c6] at H
                  exact absurd H (by simp)
              · rw [if_neg c5] at H
                have c5b0 : decide (x19_2 < 8) = false := decide_eq_false c5
                clear c5
                have H' := Aside0.mk H
                clear H
                go_wp2
                repeat (go_quiet (fail); try go_wp2)
                go_roundg k2
                case measure => have := HK1.out; have := HK2.out; omega
                case rel => exact ⟨(x6_2), (wrap64 (x16_1 + 1)), (by first | rfl | (simp; done) | (simp [*]; done)), H', ⟨by have := HK1.out; have := HK2.out; omega⟩, ⟨by (with_reducible repeat (first | apply Kd.R_alloc | apply Kd.R_drewN | apply Kd.R_drew)); exact HO_6.out⟩, ⟨by repeat (first | (with_reducible first | exact HB.out | apply below_alloc | apply pw_below_drewN | apply below_drew1) | exact HB.out)⟩⟩
        · rw [if_neg c4] at H
          have c4b0 : decide (x16_1 < (l0.length : Int)) = false := decide_eq_false c4
          clear c4
          simp only [Option.some.injEq, Prod.mk.injEq] at H
          obtain ⟨rfl, rfl⟩ := H
          go_wp2
          repeat (go_quiet (fail); try go_wp2)
          go_ret2
          exact ⟨_, by first | rfl | (simp [errW_none, errW_some] <;> rfl) | (simp [*, errW_none, errW_some] <;> rfl), by (with_reducible repeat (first | apply Kd.R_alloc | apply Kd.R_drewN | apply Kd.R_drew)); exact HO_6.out, by repeat (first | (with_reducible first | exact HB.out | apply below_alloc | apply pw_below_drewN | apply below_drew1) | exact HB.out)⟩
  · rw [if_neg c3] at H
    have c3b0 : ((l0.length : Int) == (l1.length : Int)) = false := beq_eq_false_iff_ne.mpr c3
    have c3b1 : ((l0.length : Int) != (l1.length : Int)) = true := bne_iff_ne.mpr c3
    have c3b2 : (l0.length == l1.length) = false := by first | simpa using c3 | (simp at c3 ⊢; omega)
    simp only [Option.some.injEq, Prod.mk.injEq] at H
    obtain ⟨rfl, rfl⟩ := H
    go_enter Try.func26, Try.ntmps26
    go_wp2
    repeat (go_quiet (fail); try go_wp2)
    go_ret2
    exact ⟨_, by first | rfl | (simp [errW_none, errW_some] <;> rfl) | (simp [*, errW_none, errW_some] <;> rfl), by first | exact Kd.R_nil _ _ _ _ _ | exact Kd.N_nil _ _ _ _ _ | exact Kd.V_nil _ _ _ _ _ | exact Kd.Q_nil _ _ _ _ _ | exact Kd.S_nil _ _ _ _ _, by repeat (first | (with_reducible first | exact HB.out | apply below_alloc | apply pw_below_drewN | apply below_drew1) | exact HB.out)⟩
end Go.Proofs.Ytbaiildpabdlpaa.P

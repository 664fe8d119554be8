/- What Go functions of the translation come to, as plain functions, and that their calls come to just that. No condition but that the plain function answers. (Written by a program of this session.) -/
import Derived.Test.YtbaiildpabdlpaaPx0
import Derived.Test.YtbaiildpabdlpaaPx2
import Derived.Test.YtbaiildpabdlpaaPx3
import Derived.Test.YtbaiildpabdlpaaPx4
namespace Go.Proofs.Ytbaiildpabdlpaa.P
open Go.RowKit Go.Proofs.YtbaiildpabdlpaaW.PrintWords Go.Proofs.YtbaiildpabdlpaaW.PrintLast Go.Proofs.YtbaiildpabdlpaaW.PrintMore
attribute [local go_sem] max2_int min2_int max_two min_two max_three min_three max_four min_four   -- for this text's walks alone
set_option linter.unusedVariables false
set_option linter.unusedSimpArgs false
def bch_word_at.f (s0_0 : Int) (s0_1 : List Int) (s0_2 : List Int) (a1 : Int) : Option (Bool × Int) := if (wrap64 (a1 - (wrap64 (13 * s0_0)))) ≥ 0 then (if 0 ≤ (wrap64 (Int.tdiv (wrap64 (a1 - (wrap64 (13 * s0_0)))) 8)) then (if (wrap64 (Int.tdiv (wrap64 (a1 - (wrap64 (13 * s0_0)))) 8)) < (s0_1.length : Int) then (if 0 ≤ (Int.tmod (wrap64 (a1 - (wrap64 (13 * s0_0)))) 8) then (some (((Go.bits .and .u8 (shr .u8 (rd s0_1 (wrap64 (Int.tdiv (wrap64 (a1 - (wrap64 (13 * s0_0)))) 8))) (Int.tmod (wrap64 (a1 - (wrap64 (13 * s0_0)))) 8)) 1) == 1), s0_0)) else (none)) else (none)) else (none)) else (if 0 ≤ (wrap64 (Int.tdiv a1 8)) then (if (wrap64 (Int.tdiv a1 8)) < (s0_2.length : Int) then (if 0 ≤ (Int.tmod a1 8) then (some (((Go.bits .and .u8 (shr .u8 (rd s0_2 (wrap64 (Int.tdiv a1 8))) (Int.tmod a1 8)) 1) == 1), s0_0)) else (none)) else (none)) else (none))
set_option maxHeartbeats 8000000 in
set_option maxRecDepth 100000 in
theorem bch_word_at.calls (g : Nat) (s0_0 : Int) (s0_1 : List Int) (s0_2 : List Int) (a1 : Int) (r1 : Bool) (r2 : Int) (w0 w : World) (hI : IsS67 w0 w g s0_0 s0_1 s0_2) (hB : Below w0.heap.size w0 w) (h : bch_word_at.f s0_0 s0_1 s0_2 a1 = some (r1, r2)) :
    Calls Try.prog 59 #[.pointer (some ⟨g, 0, none⟩), .int .i64 a1] w fun e w' => e = .returned (.bool r1) ∧ IsS67 w0 w' g r2 s0_1 s0_2 ∧ Below w0.heap.size w0 w' ∧ KeepBut w w' g none := by
  have HI0 := Aside0.mk hI
  have HK := Aside0.mk (KeepBut.refl w g none)
  have HL := Aside0.mk hB.size
  clear hI
  have HW0 := Aside0.mk hB.size
  have HB := Aside0.mk hB
  clear hB
  have H : (if (wrap64 (a1 - (wrap64 (13 * s0_0)))) ≥ 0 then (if 0 ≤ (wrap64 (Int.tdiv (wrap64 (a1 - (wrap64 (13 * s0_0)))) 8)) then (if (wrap64 (Int.tdiv (wrap64 (a1 - (wrap64 (13 * s0_0)))) 8)) < (s0_1.length : Int) then (if 0 ≤ (Int.tmod (wrap64 (a1 - (wrap64 (13 * s0_0)))) 8) then (some (((Go.bits .and .u8 (shr .u8 (rd s0_1 (wrap64 (Int.tdiv (wrap64 (a1 - (wrap64 (13 * s0_0)))) 8))) (Int.tmod (wrap64 (a1 - (wrap64 (13 * s0_0)))) 8)) 1) == 1), s0_0)) else (none)) else (none)) else (none)) else (if 0 ≤ (wrap64 (Int.tdiv a1 8)) then (if (wrap64 (Int.tdiv a1 8)) < (s0_2.length : Int) then (if 0 ≤ (Int.tmod a1 8) then (some (((Go.bits .and .u8 (shr .u8 (rd s0_2 (wrap64 (Int.tdiv a1 8))) (Int.tmod a1 8)) 1) == 1), s0_0)) else (none)) else (none)) else (none))) = some (r1, r2) := h
  clear h
  by_cases c3 : (wrap64 (a1 - (wrap64 (13 * s0_0)))) ≥ 0
  · rw [if_pos c3] at H
    have c3b0 : decide (0 ≤ (wrap64 (a1 - (wrap64 (13 * s0_0))))) = true := decide_eq_true c3
    clear c3
    obtain ⟨ji4, hji4⟩ : ∃ j_ : Int, (wrap64 (Int.tdiv (wrap64 (a1 - (wrap64 (13 * s0_0)))) 8)) = j_ := ⟨_, rfl⟩
    replace H : (if 0 ≤ (ji4) then (if (ji4) < (s0_1.length : Int) then (if 0 ≤ (Int.tmod (wrap64 (a1 - (wrap64 (13 * s0_0)))) 8) then (some (((Go.bits .and .u8 (shr .u8 (rd s0_1 (ji4)) (Int.tmod (wrap64 (a1 - (wrap64 (13 * s0_0)))) 8)) 1) == 1), s0_0)) else (none)) else (none)) else (none)) = some (r1, r2) := by first | (rw [hji4] at H; exact H) | (simp only [hji4] at H ⊢; exact H)
    have hji4w : (IntKind.i64.wrap (Int.tdiv (wrap64 (a1 - (wrap64 (13 * s0_0)))) 8)) = ji4 := (i64_w _).trans hji4
    by_cases c5 : 0 ≤ (ji4)
    · rw [if_pos c5] at H
      have c5b0 : decide (0 ≤ (ji4)) = true := decide_eq_true c5
      clear c5
      by_cases c6 : (ji4) < (s0_1.length : Int)
      · rw [if_pos c6] at H
        have c6b0 : decide ((ji4) < (s0_1.length : Int)) = true := decide_eq_true c6
        clear c6
        obtain ⟨ji7, hji7⟩ : ∃ j_ : Int, (Int.tmod (wrap64 (a1 - (wrap64 (13 * s0_0)))) 8) = j_ := ⟨_, rfl⟩
        replace H : (if 0 ≤ (ji7) then (some (((Go.bits .and .u8 (shr .u8 (rd s0_1 (ji4)) (ji7)) 1) == 1), s0_0)) else (none)) = some (r1, r2) := by first | (rw [hji7] at H; exact H) | (simp only [hji7] at H ⊢; exact H)
        by_cases c8 : 0 ≤ (ji7)
        · rw [if_pos c8] at H
          have c8b0 := eq_true c8
          have c8b1 : decide (0 ≤ (ji7)) = true := decide_eq_true c8
          clear c8
          obtain ⟨ji9, hji9⟩ : ∃ j_ : Int, (shr .u8 (rd s0_1 (ji4)) (ji7)) = j_ := ⟨_, rfl⟩
          replace H : (some (((Go.bits .and .u8 (ji9) 1) == 1), s0_0)) = some (r1, r2) := by first | (rw [hji9] at H; exact H) | (simp only [hji9] at H ⊢; exact H)
          have hji9_ : ((rd s0_1 (ji4)) / 2 ^ min (ji7).toNat 8) = ji9 := hji9
          have hji9z : (ji7) ≤ 8 → ((rd s0_1 (ji4)) / 2 ^ (ji7).toNat) = ji9 := shr_small hji9
          simp only [Option.some.injEq, Prod.mk.injEq] at H
          obtain ⟨rfl, rfl⟩ := H
          obtain ⟨ASz10_1, cSz10_1, ASz10_2, cSz10_2, HGz10, hgz10, HSz10_1, HSz10_2⟩ := HI0.out
          have hcz10_0 := cellS67_0 HGz10
          have hcz10_1 := cellS67_1 HGz10
          have hcz10_2 := cellS67_2 HGz10
          have hfz10_0 := blk_frozen HGz10 0
          clear HGz10 hgz10
          have p189 : 0 ≤ ((ji4) : Int) := of_decide_eq_true (by first | (with_reducible assumption) | assumption)
          have q189 : (ji4) < (s0_1.length : Int) := of_decide_eq_true (by first | (with_reducible assumption) | assumption)
          obtain ⟨ad189, e189, hx189_0⟩ := Kd.at_int HSz10_1 (ji4) p189 q189
          cases e189
          replace hx189_0 := pw_cell_below HB.out hx189_0
          replace p189 := eq_true p189
          replace q189 := eq_true q189
          go_enter Try.func59, Try.ntmps59
          go_wp2
          go_ret
          exact ⟨by first | rfl | (simp [errW_none, errW_some] <;> rfl) | (simp only [← hji4, ← hji7, ← hji9]; first | rfl | (simp [errW_none, errW_some] <;> rfl)) | (simp [*, errW_none, errW_some] <;> rfl), by repeat (first | (with_reducible first | exact HI0.out | apply IsS67.alloc | apply IsS67.drewN | apply IsS67.drew | apply IsS67.set_0) | exact HI0.out), by repeat (first | (with_reducible first | exact HB.out | apply below_alloc | apply pw_below_drewN | apply below_drew1 | refine below_set ?_ (IsS67.ge HI0.out)) | exact HB.out), by repeat (first | (with_reducible first | exact HK.out | apply KeepBut.set_ | apply keep_drewN | apply keep_drew | apply keep_alloc) | exact HK.out)⟩
        · rw [if_neg c8] at H
          exact absurd H (by simp)
      · rw [if_neg c6] at H
        exact absurd H (by simp)
    · rw [if_neg c5] at H
      exact absurd H (by simp)
  · rw [if_neg c3] at H
    have c3b0 : decide (0 ≤ (wrap64 (a1 - (wrap64 (13 * s0_0))))) = false := decide_eq_false c3
    clear c3
    obtain ⟨ji11, hji11⟩ : ∃ j_ : Int, (wrap64 (Int.tdiv a1 8)) = j_ := ⟨_, rfl⟩
    replace H : (if 0 ≤ (ji11) then (if (ji11) < (s0_2.length : Int) then (if 0 ≤ (Int.tmod a1 8) then (some (((Go.bits .and .u8 (shr .u8 (rd s0_2 (ji11)) (Int.tmod a1 8)) 1) == 1), s0_0)) else (none)) else (none)) else (none)) = some (r1, r2) := by first | (rw [hji11] at H; exact H) | (simp only [hji11] at H ⊢; exact H)
    have hji11w : (IntKind.i64.wrap (Int.tdiv a1 8)) = ji11 := (i64_w _).trans hji11
    by_cases c12 : 0 ≤ (ji11)
    · rw [if_pos c12] at H
      have c12b0 : decide (0 ≤ (ji11)) = true := decide_eq_true c12
      clear c12
      by_cases c13 : (ji11) < (s0_2.length : Int)
      · rw [if_pos c13] at H
        have c13b0 : decide ((ji11) < (s0_2.length : Int)) = true := decide_eq_true c13
        clear c13
        obtain ⟨ji14, hji14⟩ : ∃ j_ : Int, (Int.tmod a1 8) = j_ := ⟨_, rfl⟩
        replace H : (if 0 ≤ (ji14) then (some (((Go.bits .and .u8 (shr .u8 (rd s0_2 (ji11)) (ji14)) 1) == 1), s0_0)) else (none)) = some (r1, r2) := by first | (rw [hji14] at H; exact H) | (simp only [hji14] at H ⊢; exact H)
        by_cases c15 : 0 ≤ (ji14)
        · rw [if_pos c15] at H
          have c15b0 := eq_true c15
          have c15b1 : decide (0 ≤ (ji14)) = true := decide_eq_true c15
          clear c15
          obtain ⟨ji16, hji16⟩ : ∃ j_ : Int, (shr .u8 (rd s0_2 (ji11)) (ji14)) = j_ := ⟨_, rfl⟩
          replace H : (some (((Go.bits .and .u8 (ji16) 1) == 1), s0_0)) = some (r1, r2) := by first | (rw [hji16] at H; exact H) | (simp only [hji16] at H ⊢; exact H)
          have hji16_ : ((rd s0_2 (ji11)) / 2 ^ min (ji14).toNat 8) = ji16 := hji16
          have hji16z : (ji14) ≤ 8 → ((rd s0_2 (ji11)) / 2 ^ (ji14).toNat) = ji16 := shr_small hji16
          simp only [Option.some.injEq, Prod.mk.injEq] at H
          obtain ⟨rfl, rfl⟩ := H
          obtain ⟨ASz17_1, cSz17_1, ASz17_2, cSz17_2, HGz17, hgz17, HSz17_1, HSz17_2⟩ := HI0.out
          have hcz17_0 := cellS67_0 HGz17
          have hcz17_1 := cellS67_1 HGz17
          have hcz17_2 := cellS67_2 HGz17
          have hfz17_0 := blk_frozen HGz17 0
          clear HGz17 hgz17
          have p190 : 0 ≤ ((ji11) : Int) := of_decide_eq_true (by first | (with_reducible assumption) | assumption)
          have q190 : (ji11) < (s0_2.length : Int) := of_decide_eq_true (by first | (with_reducible assumption) | assumption)
          obtain ⟨ad190, e190, hx190_0⟩ := Kd.at_int HSz17_2 (ji11) p190 q190
          cases e190
          replace hx190_0 := pw_cell_below HB.out hx190_0
          replace p190 := eq_true p190
          replace q190 := eq_true q190
          go_enter Try.func59, Try.ntmps59
          go_wp2
          go_ret
          exact ⟨by first | rfl | (simp [errW_none, errW_some] <;> rfl) | (simp only [← hji11, ← hji14, ← hji16]; first | rfl | (simp [errW_none, errW_some] <;> rfl)) | (simp [*, errW_none, errW_some] <;> rfl), by repeat (first | (with_reducible first | exact HI0.out | apply IsS67.alloc | apply IsS67.drewN | apply IsS67.drew | apply IsS67.set_0) | exact HI0.out), by repeat (first | (with_reducible first | exact HB.out | apply below_alloc | apply pw_below_drewN | apply below_drew1 | refine below_set ?_ (IsS67.ge HI0.out)) | exact HB.out), by repeat (first | (with_reducible first | exact HK.out | apply KeepBut.set_ | apply keep_drewN | apply keep_drew | apply keep_alloc) | exact HK.out)⟩
        · rw [if_neg c15] at H
          exact absurd H (by simp)
      · rw [if_neg c13] at H
        exact absurd H (by simp)
    · rw [if_neg c12] at H
      exact absurd H (by simp)
set_option maxHeartbeats 8000000 in
set_option maxRecDepth 100000 in
theorem bch_word_at.callsT (TA : Option Addr) (TC : Nat) (TB : Option Addr) (TD : Nat) (g : Nat) (s0_0 : Int) (s0_1 : List Int) (s0_2 : List Int) (a1 : Int) (r1 : Bool) (r2 : Int) (w0 w : World) (hI : IsT67 TA TC TB TD w0 w g s0_0 s0_1 s0_2) (hB : Below w0.heap.size w0 w) (h : bch_word_at.f s0_0 s0_1 s0_2 a1 = some (r1, r2)) :
    Calls Try.prog 59 #[.pointer (some ⟨g, 0, none⟩), .int .i64 a1] w fun e w' => e = .returned (.bool r1) ∧ IsT67 TA TC TB TD w0 w' g r2 s0_1 s0_2 ∧ Below w0.heap.size w0 w' ∧ KeepBut w w' g none := by
  have HI0 := Aside0.mk hI
  have HK := Aside0.mk (KeepBut.refl w g none)
  have HL := Aside0.mk hB.size
  clear hI
  have HW0 := Aside0.mk hB.size
  have HB := Aside0.mk hB
  clear hB
  have H : (if (wrap64 (a1 - (wrap64 (13 * s0_0)))) ≥ 0 then (if 0 ≤ (wrap64 (Int.tdiv (wrap64 (a1 - (wrap64 (13 * s0_0)))) 8)) then (if (wrap64 (Int.tdiv (wrap64 (a1 - (wrap64 (13 * s0_0)))) 8)) < (s0_1.length : Int) then (if 0 ≤ (Int.tmod (wrap64 (a1 - (wrap64 (13 * s0_0)))) 8) then (some (((Go.bits .and .u8 (shr .u8 (rd s0_1 (wrap64 (Int.tdiv (wrap64 (a1 - (wrap64 (13 * s0_0)))) 8))) (Int.tmod (wrap64 (a1 - (wrap64 (13 * s0_0)))) 8)) 1) == 1), s0_0)) else (none)) else (none)) else (none)) else (if 0 ≤ (wrap64 (Int.tdiv a1 8)) then (if (wrap64 (Int.tdiv a1 8)) < (s0_2.length : Int) then (if 0 ≤ (Int.tmod a1 8) then (some (((Go.bits .and .u8 (shr .u8 (rd s0_2 (wrap64 (Int.tdiv a1 8))) (Int.tmod a1 8)) 1) == 1), s0_0)) else (none)) else (none)) else (none))) = some (r1, r2) := h
  clear h
  by_cases c3 : (wrap64 (a1 - (wrap64 (13 * s0_0)))) ≥ 0
  · rw [if_pos c3] at H
    have c3b0 : decide (0 ≤ (wrap64 (a1 - (wrap64 (13 * s0_0))))) = true := decide_eq_true c3
    clear c3
    obtain ⟨ji4, hji4⟩ : ∃ j_ : Int, (wrap64 (Int.tdiv (wrap64 (a1 - (wrap64 (13 * s0_0)))) 8)) = j_ := ⟨_, rfl⟩
    replace H : (if 0 ≤ (ji4) then (if (ji4) < (s0_1.length : Int) then (if 0 ≤ (Int.tmod (wrap64 (a1 - (wrap64 (13 * s0_0)))) 8) then (some (((Go.bits .and .u8 (shr .u8 (rd s0_1 (ji4)) (Int.tmod (wrap64 (a1 - (wrap64 (13 * s0_0)))) 8)) 1) == 1), s0_0)) else (none)) else (none)) else (none)) = some (r1, r2) := by first | (rw [hji4] at H; exact H) | (simp only [hji4] at H ⊢; exact H)
    have hji4w : (IntKind.i64.wrap (Int.tdiv (wrap64 (a1 - (wrap64 (13 * s0_0)))) 8)) = ji4 := (i64_w _).trans hji4
    by_cases c5 : 0 ≤ (ji4)
    · rw [if_pos c5] at H
      have c5b0 : decide (0 ≤ (ji4)) = true := decide_eq_true c5
      clear c5
      by_cases c6 : (ji4) < (s0_1.length : Int)
      · rw [if_pos c6] at H
        have c6b0 : decide ((ji4) < (s0_1.length : Int)) = true := decide_eq_true c6
        clear c6
        obtain ⟨ji7, hji7⟩ : ∃ j_ : Int, (Int.tmod (wrap64 (a1 - (wrap64 (13 * s0_0)))) 8) = j_ := ⟨_, rfl⟩
        replace H : (if 0 ≤ (ji7) then (some (((Go.bits .and .u8 (shr .u8 (rd s0_1 (ji4)) (ji7)) 1) == 1), s0_0)) else (none)) = some (r1, r2) := by first | (rw [hji7] at H; exact H) | (simp only [hji7] at H ⊢; exact H)
        by_cases c8 : 0 ≤ (ji7)
        · rw [if_pos c8] at H
          have c8b0 := eq_true c8
          have c8b1 : decide (0 ≤ (ji7)) = true := decide_eq_true c8
          clear c8
          obtain ⟨ji9, hji9⟩ : ∃ j_ : Int, (shr .u8 (rd s0_1 (ji4)) (ji7)) = j_ := ⟨_, rfl⟩
          replace H : (some (((Go.bits .and .u8 (ji9) 1) == 1), s0_0)) = some (r1, r2) := by first | (rw [hji9] at H; exact H) | (simp only [hji9] at H ⊢; exact H)
          have hji9_ : ((rd s0_1 (ji4)) / 2 ^ min (ji7).toNat 8) = ji9 := hji9
          have hji9z : (ji7) ≤ 8 → ((rd s0_1 (ji4)) / 2 ^ (ji7).toNat) = ji9 := shr_small hji9
          simp only [Option.some.injEq, Prod.mk.injEq] at H
          obtain ⟨rfl, rfl⟩ := H
          obtain ⟨HGz10, hgz10, HSz10_1, HSz10_2⟩ := HI0.out
          have hcz10_0 := cellS67_0 HGz10
          have hcz10_1 := cellS67_1 HGz10
          have hcz10_2 := cellS67_2 HGz10
          have hfz10_0 := blk_frozen HGz10 0
          clear HGz10 hgz10
          have p189 : 0 ≤ ((ji4) : Int) := of_decide_eq_true (by first | (with_reducible assumption) | assumption)
          have q189 : (ji4) < (s0_1.length : Int) := of_decide_eq_true (by first | (with_reducible assumption) | assumption)
          obtain ⟨ad189, e189, hx189_0⟩ := Kd.at_int HSz10_1 (ji4) p189 q189
          cases e189
          replace hx189_0 := pw_cell_below HB.out hx189_0
          replace p189 := eq_true p189
          replace q189 := eq_true q189
          go_enter Try.func59, Try.ntmps59
          go_wp2
          go_ret
          exact ⟨by first | rfl | (simp [errW_none, errW_some] <;> rfl) | (simp only [← hji4, ← hji7, ← hji9]; first | rfl | (simp [errW_none, errW_some] <;> rfl)) | (simp [*, errW_none, errW_some] <;> rfl), by repeat (first | (with_reducible first | exact HI0.out | apply IsT67.alloc | apply IsT67.drewN | apply IsT67.drew | apply IsT67.set_0) | exact HI0.out), by repeat (first | (with_reducible first | exact HB.out | apply below_alloc | apply pw_below_drewN | apply below_drew1 | refine below_set ?_ (IsT67.ge HI0.out)) | exact HB.out), by repeat (first | (with_reducible first | exact HK.out | apply KeepBut.set_ | apply keep_drewN | apply keep_drew | apply keep_alloc) | exact HK.out)⟩
        · rw [if_neg c8] at H
          exact absurd H (by simp)
      · rw [if_neg c6] at H
        exact absurd H (by simp)
    · rw [if_neg c5] at H
      exact absurd H (by simp)
  · rw [if_neg c3] at H
    have c3b0 : decide (0 ≤ (wrap64 (a1 - (wrap64 (13 * s0_0))))) = false := decide_eq_false c3
    clear c3
    obtain ⟨ji11, hji11⟩ : ∃ j_ : Int, (wrap64 (Int.tdiv a1 8)) = j_ := ⟨_, rfl⟩
    replace H : (if 0 ≤ (ji11) then (if (ji11) < (s0_2.length : Int) then (if 0 ≤ (Int.tmod a1 8) then (some (((Go.bits .and .u8 (shr .u8 (rd s0_2 (ji11)) (Int.tmod a1 8)) 1) == 1), s0_0)) else (none)) else (none)) else (none)) = some (r1, r2) := by first | (rw [hji11] at H; exact H) | (simp only [hji11] at H ⊢; exact H)
    have hji11w : (IntKind.i64.wrap (Int.tdiv a1 8)) = ji11 := (i64_w _).trans hji11
    by_cases c12 : 0 ≤ (ji11)
    · rw [if_pos c12] at H
      have c12b0 : decide (0 ≤ (ji11)) = true := decide_eq_true c12
      clear c12
      by_cases c13 : (ji11) < (s0_2.length : Int)
      · rw [if_pos c13] at H
        have c13b0 : decide ((ji11) < (s0_2.length : Int)) = true := decide_eq_true c13
        clear c13
        obtain ⟨ji14, hji14⟩ : ∃ j_ : Int, (Int.tmod a1 8) = j_ := ⟨_, rfl⟩
        replace H : (if 0 ≤ (ji14) then (some (((Go.bits .and .u8 (shr .u8 (rd s0_2 (ji11)) (ji14)) 1) == 1), s0_0)) else (none)) = some (r1, r2) := by first | (rw [hji14] at H; exact H) | (simp only [hji14] at H ⊢; exact H)
        by_cases c15 : 0 ≤ (ji14)
        · rw [if_pos c15] at H
          have c15b0 := eq_true c15
          have c15b1 : decide (0 ≤ (ji14)) = true := decide_eq_true c15
          clear c15
          obtain ⟨ji16, hji16⟩ : ∃ j_ : Int, (shr .u8 (rd s0_2 (ji11)) (ji14)) = j_ := ⟨_, rfl⟩
          replace H : (some (((Go.bits .and .u8 (ji16) 1) == 1), s0_0)) = some (r1, r2) := by first | (rw [hji16] at H; exact H) | (simp only [hji16] at H ⊢; exact H)
          have hji16_ : ((rd s0_2 (ji11)) / 2 ^ min (ji14).toNat 8) = ji16 := hji16
          have hji16z : (ji14) ≤ 8 → ((rd s0_2 (ji11)) / 2 ^ (ji14).toNat) = ji16 := shr_small hji16
          simp only [Option.some.injEq, Prod.mk.injEq] at H
          obtain ⟨rfl, rfl⟩ := H
          obtain ⟨HGz17, hgz17, HSz17_1, HSz17_2⟩ := HI0.out
          have hcz17_0 := cellS67_0 HGz17
          have hcz17_1 := cellS67_1 HGz17
          have hcz17_2 := cellS67_2 HGz17
          have hfz17_0 := blk_frozen HGz17 0
          clear HGz17 hgz17
          have p190 : 0 ≤ ((ji11) : Int) := of_decide_eq_true (by first | (with_reducible assumption) | assumption)
          have q190 : (ji11) < (s0_2.length : Int) := of_decide_eq_true (by first | (with_reducible assumption) | assumption)
          obtain ⟨ad190, e190, hx190_0⟩ := Kd.at_int HSz17_2 (ji11) p190 q190
          cases e190
          replace hx190_0 := pw_cell_below HB.out hx190_0
          replace p190 := eq_true p190
          replace q190 := eq_true q190
          go_enter Try.func59, Try.ntmps59
          go_wp2
          go_ret
          exact ⟨by first | rfl | (simp [errW_none, errW_some] <;> rfl) | (simp only [← hji11, ← hji14, ← hji16]; first | rfl | (simp [errW_none, errW_some] <;> rfl)) | (simp [*, errW_none, errW_some] <;> rfl), by repeat (first | (with_reducible first | exact HI0.out | apply IsT67.alloc | apply IsT67.drewN | apply IsT67.drew | apply IsT67.set_0) | exact HI0.out), by repeat (first | (with_reducible first | exact HB.out | apply below_alloc | apply pw_below_drewN | apply below_drew1 | refine below_set ?_ (IsT67.ge HI0.out)) | exact HB.out), by repeat (first | (with_reducible first | exact HK.out | apply KeepBut.set_ | apply keep_drewN | apply keep_drew | apply keep_alloc) | exact HK.out)⟩
        · rw [if_neg c15] at H
          exact absurd H (by simp)
      · rw [if_neg c13] at H
        exact absurd H (by simp)
    · rw [if_neg c12] at H
      exact absurd H (by simp)
def bch_mul.f (k : Nat) (a0 : Int) (a1 : Int) : Option (Int) := (gf_Mul.f k a0 a1).bind fun bt191 => (some bt191.1)
theorem bch_mul.mono : ∀ a0 a1 k, LeO (bch_mul.f k a0 a1) (bch_mul.f (k + 1) a0 a1) := by
  intro a0 a1 k
  unfold bch_mul.f
  repeat' first
      | (with_reducible exact gf_Mul.mono _ _ _)
      | (with_reducible exact LeO.refl _)
      | (with_reducible exact LeO.none _)
      | (with_reducible refine LeO.ite ?_ ?_)
      | (with_reducible refine LeO.bind ?_ (fun _ => ?_))
      | exact gf_Mul.mono _ _ _
      | exact LeO.none _
      | refine LeO.ite ?_ ?_
      | refine LeO.bind ?_ (fun _ => ?_)
set_option maxHeartbeats 8000000 in
set_option maxRecDepth 100000 in
theorem bch_mul.calls (k : Nat) (a0 : Int) (a1 : Int) (r : Int) (w : World) (h : bch_mul.f k a0 a1 = some r) :
    Calls Try.prog 40 #[.int .i64 a0, .int .i64 a1] w fun e w' => e = .returned (.int .i64 r) ∧ Drawn0 w w' := by
  have H : ((gf_Mul.f k a0 a1).bind fun bt191 => (some bt191.1)) = some r := h
  clear h
  replace H := Option.bind_eq_some_iff.mp H
  obtain ⟨⟨t191, t192⟩, A30, H⟩ := H
  replace H : (some t191) = some r := H
  have A3 := Aside0.mk A30
  clear A30
  obtain rfl := Option.some.inj H
  go_enter Try.func40, Try.ntmps40
  go_wp2_with (first | ((with_reducible refine gate_callee (f := 62) rfl ?_); refine goesL_ (some 10) rfl rfl Try.func62 (by kernel_rfl) rfl #[.int .i64 a0, .int .i64 a1] rfl (by (try simp only [List.map_toArray, List.map_cons, List.map_nil]); first | done | rfl | (simp only [List.length_drop, List.length_take]; rfl)) ?_; (with_reducible refine (gf_Mul.calls k a0 a1 t191 t192 _ A3.out).mono ?_); rintro e w' ⟨rfl, ⟨nd, rfl⟩⟩; refine ⟨_, rfl, ?_⟩))
  go_ret
  exact ⟨by first | rfl | (simp; done) | (simp [*]; done), by repeat (first | exact Drawn0.refl _ | apply Drawn0.step)⟩
mutual
def bch_word_sums.l0 : Nat → List Int → Int → Int → Int → List Int → List Int → Option (List Int × Int)
  | 0, _, _, _, _, _, _ => none
  | k + 1, x3, x15, x16, x1000, x1001, x1002 => if x16 < x15 then ((gf_Exp.f k (wrap64 (x16 + 1))).bind fun t196 => ((bch_word_len.f x1000 x1001 x1002).bind fun bt197 => (bch_word_sums.l1 k x3 x16 t196 0 (wrap64 (bt197.1 - 1)) x15 x16 bt197.2 x1001 x1002))) else (some (x3, x1000))
def bch_word_sums.l1 : Nat → List Int → Int → Int → Int → Int → Int → Int → Int → List Int → List Int → Option (List Int × Int)
  | 0, _, _, _, _, _, _, _, _, _, _ => none
  | k + 1, x3, x4, x5, x6, x7, x15, x16, x1000, x1001, x1002 => if x7 ≥ 0 then ((bch_mul.f k x6 x5).bind fun t200 => ((bch_word_at.f x1000 x1001 x1002 x7).bind fun bt201 => (if bt201.1 = true then (bch_word_sums.l1 k x3 x4 x5 (Go.bits .xor .i64 t200 1) (wrap64 (x7 - 1)) x15 x16 bt201.2 x1001 x1002) else (bch_word_sums.l1 k x3 x4 x5 t200 (wrap64 (x7 - 1)) x15 x16 bt201.2 x1001 x1002)))) else (if 0 ≤ x4 then (if x4 < (x3.length : Int) then (bch_word_sums.l0 k (x3.set (x4 : Int).toNat x6) x15 (wrap64 (x16 + 1)) x1000 x1001 x1002) else (none)) else (none))
end
def bch_word_sums.f (k : Nat) (s0_0 : Int) (s0_1 : List Int) (s0_2 : List Int) : Option (List Int × Int) := if 0 ≤ (wrap64 (2 * s0_0)) then (if (wrap64 (2 * s0_0) : Int).toNat ≤ 35184372088832 then ((some (List.replicate (wrap64 (2 * s0_0) : Int).toNat 0 : List Int)).bind fun y193 => (bch_word_sums.l0 k y193 (y193.length : Int) 0 s0_0 s0_1 s0_2)) else (none)) else (none)
theorem bch_word_sums.mono_l : ∀ k, (∀ y0 y1 y2 y3 y4 y5, LeO (bch_word_sums.l0 k y0 y1 y2 y3 y4 y5) (bch_word_sums.l0 (k + 1) y0 y1 y2 y3 y4 y5)) ∧ (∀ y0 y1 y2 y3 y4 y5 y6 y7 y8 y9, LeO (bch_word_sums.l1 k y0 y1 y2 y3 y4 y5 y6 y7 y8 y9) (bch_word_sums.l1 (k + 1) y0 y1 y2 y3 y4 y5 y6 y7 y8 y9))
  | 0 => ⟨fun _ _ _ _ _ _ r h => by simp [bch_word_sums.l0] at h, fun _ _ _ _ _ _ _ _ _ _ r h => by simp [bch_word_sums.l1] at h⟩
  | k + 1 => by
    obtain ⟨ih0, ih1⟩ := bch_word_sums.mono_l k
    refine ⟨?_, ?_⟩
    · intro y0 y1 y2 y3 y4 y5
      unfold bch_word_sums.l0
      repeat' first
      | (with_reducible exact ih0 _ _ _ _ _ _)
      | (with_reducible exact ih1 _ _ _ _ _ _ _ _ _ _)
      | (with_reducible exact bch_mul.mono _ _ _)
      | (with_reducible exact gf_Exp.mono _ _)
      | (with_reducible exact LeO.refl _)
      | (with_reducible exact LeO.none _)
      | (with_reducible refine LeO.ite ?_ ?_)
      | (with_reducible refine LeO.bind ?_ (fun _ => ?_))
      | exact ih0 _ _ _ _ _ _
      | exact ih1 _ _ _ _ _ _ _ _ _ _
      | exact bch_mul.mono _ _ _
      | exact gf_Exp.mono _ _
      | exact LeO.none _
      | refine LeO.ite ?_ ?_
      | refine LeO.bind ?_ (fun _ => ?_)
    · intro y0 y1 y2 y3 y4 y5 y6 y7 y8 y9
      unfold bch_word_sums.l1
      repeat' first
      | (with_reducible exact ih0 _ _ _ _ _ _)
      | (with_reducible exact ih1 _ _ _ _ _ _ _ _ _ _)
      | (with_reducible exact bch_mul.mono _ _ _)
      | (with_reducible exact gf_Exp.mono _ _)
      | (with_reducible exact LeO.refl _)
      | (with_reducible exact LeO.none _)
      | (with_reducible refine LeO.ite ?_ ?_)
      | (with_reducible refine LeO.bind ?_ (fun _ => ?_))
      | exact ih0 _ _ _ _ _ _
      | exact ih1 _ _ _ _ _ _ _ _ _ _
      | exact bch_mul.mono _ _ _
      | exact gf_Exp.mono _ _
      | exact LeO.none _
      | refine LeO.ite ?_ ?_
      | refine LeO.bind ?_ (fun _ => ?_)
theorem bch_word_sums.mono : ∀ a0 a1 a2 k, LeO (bch_word_sums.f k a0 a1 a2) (bch_word_sums.f (k + 1) a0 a1 a2) := by
  intro a0 a1 a2 k
  obtain ⟨ih0, ih1⟩ := bch_word_sums.mono_l k
  unfold bch_word_sums.f
  repeat' first
      | (with_reducible exact ih0 _ _ _ _ _ _)
      | (with_reducible exact ih1 _ _ _ _ _ _ _ _ _ _)
      | (with_reducible exact bch_mul.mono _ _ _)
      | (with_reducible exact gf_Exp.mono _ _)
      | (with_reducible exact LeO.refl _)
      | (with_reducible exact LeO.none _)
      | (with_reducible refine LeO.ite ?_ ?_)
      | (with_reducible refine LeO.bind ?_ (fun _ => ?_))
      | exact ih0 _ _ _ _ _ _
      | exact ih1 _ _ _ _ _ _ _ _ _ _
      | exact bch_mul.mono _ _ _
      | exact gf_Exp.mono _ _
      | exact LeO.none _
      | refine LeO.ite ?_ ?_
      | refine LeO.bind ?_ (fun _ => ?_)
set_option maxHeartbeats 8000000 in
set_option maxRecDepth 100000 in
theorem bch_word_sums.calls (k : Nat) (g : Nat) (s0_0 : Int) (s0_1 : List Int) (s0_2 : List Int) (r1 : List Int) (r2 : Int) (w0 w : World) (hI : IsS67 w0 w g s0_0 s0_1 s0_2) (hB : Below w0.heap.size w0 w) (h : bch_word_sums.f k s0_0 s0_1 s0_2 = some (r1, r2)) :
    Calls Try.prog 37 #[.pointer (some ⟨g, 0, none⟩)] w fun e w' => ∃ v0_ : Value, e = .returned (v0_) ∧ Kd.R (Kd.int .i64) 3 w' w.heap.size (fun _ => True) v0_ r1 ∧ IsS67 w0 w' g r2 s0_1 s0_2 ∧ Below w0.heap.size w0 w' ∧ KeepBut w w' g none := by
  have HI0 := Aside0.mk hI
  have HK := Aside0.mk (KeepBut.refl w g none)
  have HL := Aside0.mk hB.size
  clear hI
  have HW0 := Aside0.mk hB.size
  have HB := Aside0.mk hB
  clear hB
  have H : (if 0 ≤ (wrap64 (2 * s0_0)) then (if (wrap64 (2 * s0_0) : Int).toNat ≤ 35184372088832 then ((some (List.replicate (wrap64 (2 * s0_0) : Int).toNat 0 : List Int)).bind fun y193 => (bch_word_sums.l0 k y193 (y193.length : Int) 0 s0_0 s0_1 s0_2)) else (none)) else (none)) = some (r1, r2) := h
  clear h
  obtain ⟨ji2, hji2⟩ : ∃ j_ : Int, (wrap64 (2 * s0_0)) = j_ := ⟨_, rfl⟩
  replace H : (if 0 ≤ (ji2) then (if (ji2 : Int).toNat ≤ 35184372088832 then ((some (List.replicate (ji2 : Int).toNat 0 : List Int)).bind fun y193 => (bch_word_sums.l0 k y193 (y193.length : Int) 0 s0_0 s0_1 s0_2)) else (none)) else (none)) = some (r1, r2) := by first | (rw [hji2] at H; exact H) | (simp only [hji2] at H ⊢; exact H)
  have hji2w : (IntKind.i64.wrap (2 * s0_0)) = ji2 := (i64_w _).trans hji2
  by_cases c3 : 0 ≤ (ji2)
  · rw [if_pos c3] at H
    have c3b0 := eq_true c3
    have c3b1 : decide (0 ≤ (ji2)) = true := decide_eq_true c3
    clear c3
    by_cases c4 : (ji2 : Int).toNat ≤ 35184372088832
    · rw [if_pos c4] at H
      have c4b0 := eq_true c4
      have c4b1 : decide ((ji2 : Int).toNat ≤ 35184372088832) = true := decide_eq_true c4
      clear c4
      obtain ⟨y193, hy193⟩ : ∃ y_ : List Int, y_ = (List.replicate (ji2 : Int).toNat 0) := ⟨_, rfl⟩
      replace H : (bch_word_sums.l0 k y193 (y193.length : Int) 0 s0_0 s0_1 s0_2) = some (r1, r2) := by first | (rw [hy193]; with_reducible exact H) | (have H2_ := (Option.bind_some _ _).symm.trans H; rw [hy193]; with_reducible exact H2_) | (have H2_ := (Option.bind_some _ _).symm.trans H; with_reducible exact H2_) | with_reducible exact H | (rw [hy193]; exact H) | exact H
      have Ny193 := Aside0.mk hy193
      clear hy193
      have H' := Aside0.mk H
      clear H
      obtain ⟨ASz5_1, cSz5_1, ASz5_2, cSz5_2, HGz5, hgz5, HSz5_1, HSz5_2⟩ := HI0.out
      have hcz5_0 := cellS67_0 HGz5
      have hcz5_1 := cellS67_1 HGz5
      have hcz5_2 := cellS67_2 HGz5
      have hfz5_0 := blk_frozen HGz5 0
      clear HGz5 hgz5
      go_enter Try.func37, Try.ntmps37
      go_wp2_with (first | ((with_reducible refine gate_dst (N := 13) rfl ?_); refine Kd.R_make (Kd.int .i64) _ 3 rfl (N := 13) rfl 38 _ _ rfl ji2 rfl rfl Try.underlying38 (.int .i64 0) 8 info3 rfl (by decide) (by omega) 0 (ok := fun _ => True) (okp := fun _ => True) rfl (fun _ hk => hk) trivial (of_decide_eq_true (by first | (with_reducible assumption) | assumption)) (Nat.le_trans (Nat.mul_le_mul_right _ (of_decide_eq_true (by first | (with_reducible assumption) | assumption) : ji2.toNat ≤ 35184372088832)) (by omega)) (Below.refl _ _) (Nat.le_refl _) ?_; intro v194 w6 ho7 hb hg_ hnew_; clear hg_ hnew_; (first | rw [← Ny193.out] at ho7 | (simp only [Int.reduceToNat] at ho7; rw [← Ny193.out] at ho7)); have n0_ := Aside0.mk (Kd.R_lower ho7 (keep_size (w := w) (g := g) (row := none) (by repeat (first | (with_reducible first | exact HK.out | apply KeepBut.set_ | apply keep_drewN | apply keep_drew | apply keep_alloc) | exact HK.out)))); have n1_ := Aside0.mk (IsS67.below (by repeat (first | (with_reducible first | exact HI0.out | apply IsS67.alloc | apply IsS67.drewN | apply IsS67.drew | apply IsS67.set_0) | exact HI0.out)) hb); have n2_ := Aside0.mk (KeepBut.trans (by repeat (first | (with_reducible first | exact HK.out | apply KeepBut.set_ | apply keep_drewN | apply keep_drew | apply keep_alloc) | exact HK.out)) (KeepBut.of_below hb g none) (.inl rfl)); have n3_ := Aside0.mk (below_step (by repeat (first | (with_reducible first | exact HB.out | apply below_alloc | apply pw_below_drewN | apply below_drew1 | refine below_set ?_ (IsS67.ge HI0.out)) | exact HB.out)) hb); clear HI0; clear HK; clear HB; have HO195 := n0_; have HI0 := n1_; have HK := n2_; have HB := n3_; clear n0_ n1_ n2_ n3_; clear hb ho7; obtain ⟨Ao8, co8, eo8⟩ := Kd.R_slice HO195.out; subst eo8))
      go_loopg [16] k (fun kq v16 w' => ∃ (x3_1 : List Int) (x16_1 : Int) (x1000_1 : Int), v16 = .int .i64 x16_1 ∧ Aside0 (bch_word_sums.l0 kq x3_1 (y193.length : Int) x16_1 x1000_1 s0_1 s0_2 = some (r1, r2)) ∧ Aside0 (kq ≤ k) ∧ Aside0 (Kd.R (Kd.int .i64) 3 w' w.heap.size (fun _ => True) (.slice Ao8 y193.length co8) x3_1) ∧ Aside0 (IsS67 w0 w' g x1000_1 s0_1 s0_2) ∧ Aside0 (KeepBut w w' g none) ∧ Aside0 (Below w0.heap.size w0 w'))
      case atStart => exact ⟨(y193), (0), (s0_0), (by first | rfl | (simp; done) | (simp [*]; done)), H', ⟨Nat.le_refl _⟩, ⟨by (with_reducible repeat (first | apply Kd.R_alloc | apply Kd.R_drewN | apply Kd.R_drew)); exact HO195.out⟩, ⟨by repeat (first | (with_reducible first | exact HI0.out | apply IsS67.alloc | apply IsS67.drewN | apply IsS67.drew | apply IsS67.set_0) | exact HI0.out)⟩, ⟨by repeat (first | (with_reducible first | exact HK.out | apply KeepBut.set_ | apply keep_drewN | apply keep_drew | apply keep_alloc) | exact HK.out)⟩, ⟨by repeat (first | (with_reducible first | exact HB.out | apply below_alloc | apply pw_below_drewN | apply below_drew1 | refine below_set ?_ (IsS67.ge HI0.out)) | exact HB.out)⟩⟩
      case round =>
        clear H'
        try clear p2
        try clear c3
        try clear c3b0
        try clear c3b1
        try clear c4
        try clear c4b0
        try clear c4b1
        try clear p6
        try clear hcz5_0
        try clear hcz5_1
        try clear hcz5_2
        try clear hfz5_0
        obtain ⟨x3_1, x16_1, x1000_1, rfl, HA, HK1, HO_3, HI0, HK, HB⟩ := hrel
        have hl3_1 := (Kd.R_reads' HO_3.out).1
        rw [hl3_1] at HO_3
        (try simp only [hl3_1])
        cases gk with
        | zero => exact absurd HA.out (by simp [bch_word_sums.l0])
        | succ k1 =>
          have H := HA.out
          clear HA
          simp only [bch_word_sums.l0] at H
          by_cases c9 : x16_1 < (y193.length : Int)
          · rw [if_pos c9] at H
            have c9b0 : decide (x16_1 < (y193.length : Int)) = true := decide_eq_true c9
            (try rw [hl3_1] at c9b0)
            clear c9
            replace H := Option.bind_eq_some_iff.mp H
            obtain ⟨t196, A100, H⟩ := H
            replace H : ((bch_word_len.f x1000_1 s0_1 s0_2).bind fun bt197 => (bch_word_sums.l1 k1 x3_1 x16_1 t196 0 (wrap64 (bt197.1 - 1)) (y193.length : Int) x16_1 bt197.2 s0_1 s0_2)) = some (r1, r2) := H
            have A10 := Aside0.mk A100
            clear A100
            replace H := Option.bind_eq_some_iff.mp H
            obtain ⟨⟨t197, t198⟩, A110, H⟩ := H
            replace H : (bch_word_sums.l1 k1 x3_1 x16_1 t196 0 (wrap64 (t197 - 1)) (y193.length : Int) x16_1 t198 s0_1 s0_2) = some (r1, r2) := H
            have A11 := Aside0.mk A110
            clear A110
            have H' := Aside0.mk H
            clear H
            go_wp2_with (first | ((with_reducible refine gate_callee (f := 39) rfl ?_); refine goesL_ (some 21) rfl rfl Try.func39 (by kernel_rfl) rfl #[.int .i64 (wrap64 (x16_1 + 1))] rfl (by (try simp only [List.map_toArray, List.map_cons, List.map_nil]); first | done | rfl | (simp only [List.length_drop, List.length_take]; rfl)) ?_; (with_reducible refine (gf_Exp.calls k1 (wrap64 (x16_1 + 1)) t196 _ A10.out).mono ?_); rintro e w' ⟨rfl, ⟨nd, rfl⟩⟩; refine ⟨_, rfl, ?_⟩) | ((with_reducible refine gate_callee (f := 38) rfl ?_); refine goesL_ (some 23) rfl rfl Try.func38 (by kernel_rfl) rfl #[.pointer (some ⟨g, 0, none⟩)] rfl (by (try simp only [List.map_toArray, List.map_cons, List.map_nil]); first | done | rfl | (simp only [List.length_drop, List.length_take]; rfl)) ?_; (with_reducible refine (bch_word_len.calls g x1000_1 s0_1 s0_2 t197 t198 w0 _ ?side1 ?side2 A11.out).mono ?_); (case side1 => repeat (first | (with_reducible first | exact HI0.out | apply IsS67.alloc | apply IsS67.drewN | apply IsS67.drew | apply IsS67.set_0) | exact HI0.out)); (case side2 => repeat (first | (with_reducible first | exact HB.out | apply below_alloc | apply pw_below_drewN | apply below_drew1 | refine below_set ?_ (IsS67.ge HI0.out)) | exact HB.out)); rintro e w12 ⟨rfl, hi, hb, hk⟩; refine ⟨_, rfl, ?_⟩; have n0_ := Aside0.mk (Kd.R_mono (Kd.R_keep (IsS67.apart (show IsS67 w0 _ g x1000_1 s0_1 s0_2 from by repeat (first | (with_reducible first | exact HI0.out | apply IsS67.alloc | apply IsS67.drewN | apply IsS67.drew | apply IsS67.set_0) | exact HI0.out)) (by (with_reducible repeat (first | apply Kd.R_alloc | apply Kd.R_drewN | apply Kd.R_drew)); exact HO_3.out) (by decide)) hk (fun _ h => h.2)) (fun _ h => h.1)); have n1_ := Aside0.mk (KeepBut.trans (by repeat (first | (with_reducible first | exact HK.out | apply KeepBut.set_ | apply keep_drewN | apply keep_drew | apply keep_alloc) | exact HK.out)) hk (.inl rfl)); have n2_ := Aside0.mk (hb); have n3_ := Aside0.mk (hi); clear HO_3; clear HK; clear HB; clear HI0; have HO_3 := n0_; have HK := n1_; have HB := n2_; have HI0 := n3_; clear n0_ n1_ n2_ n3_; (try clear hb); (try clear hb2); (try clear hk); (try clear hi)))
            go_loopg [6, 7] k1 (fun kq v6 v7 w' => ∃ (x6_2 : Int) (x7_2 : Int) (x1000_2 : Int), v6 = .int .i64 x6_2 ∧ v7 = .int .i64 x7_2 ∧ Aside0 (bch_word_sums.l1 kq x3_1 x16_1 t196 x6_2 x7_2 (y193.length : Int) x16_1 x1000_2 s0_1 s0_2 = some (r1, r2)) ∧ Aside0 (kq ≤ k1) ∧ Aside0 (Kd.R (Kd.int .i64) 3 w' w.heap.size (fun _ => True) (.slice Ao8 x3_1.length co8) x3_1) ∧ Aside0 (IsS67 w0 w' g x1000_2 s0_1 s0_2) ∧ Aside0 (KeepBut w w' g none) ∧ Aside0 (Below w0.heap.size w0 w'))
            case atStart => exact ⟨(0), (wrap64 (t197 - 1)), (t198), (by first | rfl | (simp; done) | (simp [*]; done)), (by first | rfl | (simp; done) | (simp [*]; done)), H', ⟨Nat.le_refl _⟩, ⟨by (try simp only [hl3_1]); (with_reducible repeat (first | apply Kd.R_alloc | apply Kd.R_drewN | apply Kd.R_drew)); exact HO_3.out⟩, ⟨by repeat (first | (with_reducible first | exact HI0.out | apply IsS67.alloc | apply IsS67.drewN | apply IsS67.drew | apply IsS67.set_0) | exact HI0.out)⟩, ⟨by repeat (first | (with_reducible first | exact HK.out | apply KeepBut.set_ | apply keep_drewN | apply keep_drew | apply keep_alloc) | exact HK.out)⟩, ⟨by repeat (first | (with_reducible first | exact HB.out | apply below_alloc | apply pw_below_drewN | apply below_drew1 | refine below_set ?_ (IsS67.ge HI0.out)) | exact HB.out)⟩⟩
            case round =>
              clear H'
              try clear p2
              try clear c3
              try clear c3b0
              try clear c3b1
              try clear c4
              try clear c4b0
              try clear c4b1
              try clear p6
              try clear c9
              try clear c9b0
              try clear hcz5_0
              try clear hcz5_1
              try clear hcz5_2
              try clear hfz5_0
              try clear p2
              try clear p6
              obtain ⟨x6_2, x7_2, x1000_2, rfl, rfl, HA, HK2, HO_3, HI0, HK, HB⟩ := hrel
              cases gk with
              | zero => exact absurd HA.out (by simp [bch_word_sums.l1])
              | succ k2 =>
                have H := HA.out
                clear HA
                simp only [bch_word_sums.l1] at H
                by_cases c13 : x7_2 ≥ 0
                · rw [if_pos c13] at H
                  have c13b0 : decide (0 ≤ x7_2) = true := decide_eq_true c13
                  clear c13
                  replace H := Option.bind_eq_some_iff.mp H
                  obtain ⟨t200, A140, H⟩ := H
                  replace H : ((bch_word_at.f x1000_2 s0_1 s0_2 x7_2).bind fun bt201 => (if bt201.1 = true then (bch_word_sums.l1 k2 x3_1 x16_1 t196 (Go.bits .xor .i64 t200 1) (wrap64 (x7_2 - 1)) (y193.length : Int) x16_1 bt201.2 s0_1 s0_2) else (bch_word_sums.l1 k2 x3_1 x16_1 t196 t200 (wrap64 (x7_2 - 1)) (y193.length : Int) x16_1 bt201.2 s0_1 s0_2))) = some (r1, r2) := H
                  have A14 := Aside0.mk A140
                  clear A140
                  replace H := Option.bind_eq_some_iff.mp H
                  obtain ⟨⟨t201, t202⟩, A150, H⟩ := H
                  replace H : (if t201 = true then (bch_word_sums.l1 k2 x3_1 x16_1 t196 (Go.bits .xor .i64 t200 1) (wrap64 (x7_2 - 1)) (y193.length : Int) x16_1 t202 s0_1 s0_2) else (bch_word_sums.l1 k2 x3_1 x16_1 t196 t200 (wrap64 (x7_2 - 1)) (y193.length : Int) x16_1 t202 s0_1 s0_2)) = some (r1, r2) := H
                  have A15 := Aside0.mk A150
                  clear A150
                  by_cases c16 : t201 = true
                  · subst c16
                    have H1 : (bch_word_sums.l1 k2 x3_1 x16_1 t196 (Go.bits .xor .i64 t200 1) (wrap64 (x7_2 - 1)) (y193.length : Int) x16_1 t202 s0_1 s0_2) = some (r1, r2) := by rw [if_pos rfl] at H; exact H
                    clear H
                    have H := H1
                    clear H1
                    have H' := Aside0.mk H
                    clear H
                    go_wp2_with (first | ((with_reducible refine gate_callee (f := 40) rfl ?_); refine goesL_ (some 31) rfl rfl Try.func40 (by kernel_rfl) rfl #[.int .i64 x6_2, .int .i64 t196] rfl (by (try simp only [List.map_toArray, List.map_cons, List.map_nil]); first | done | rfl | (simp only [List.length_drop, List.length_take]; rfl)) ?_; (with_reducible refine (bch_mul.calls k2 x6_2 t196 t200 _ A14.out).mono ?_); rintro e w' ⟨rfl, ⟨nd, rfl⟩⟩; refine ⟨_, rfl, ?_⟩) | ((with_reducible refine gate_callee (f := 59) rfl ?_); refine goesL_ (some 34) rfl rfl Try.func59 (by kernel_rfl) rfl #[.pointer (some ⟨g, 0, none⟩), .int .i64 x7_2] rfl (by (try simp only [List.map_toArray, List.map_cons, List.map_nil]); first | done | rfl | (simp only [List.length_drop, List.length_take]; rfl)) ?_; (with_reducible refine (bch_word_at.calls g x1000_2 s0_1 s0_2 x7_2 true t202 w0 _ ?side1 ?side2 A15.out).mono ?_); (case side1 => repeat (first | (with_reducible first | exact HI0.out | apply IsS67.alloc | apply IsS67.drewN | apply IsS67.drew | apply IsS67.set_0) | exact HI0.out)); (case side2 => repeat (first | (with_reducible first | exact HB.out | apply below_alloc | apply pw_below_drewN | apply below_drew1 | refine below_set ?_ (IsS67.ge HI0.out)) | exact HB.out)); rintro e w17 ⟨rfl, hi, hb, hk⟩; refine ⟨_, rfl, ?_⟩; have n0_ := Aside0.mk (Kd.R_mono (Kd.R_keep (IsS67.apart (show IsS67 w0 _ g x1000_2 s0_1 s0_2 from by repeat (first | (with_reducible first | exact HI0.out | apply IsS67.alloc | apply IsS67.drewN | apply IsS67.drew | apply IsS67.set_0) | exact HI0.out)) (by (with_reducible repeat (first | apply Kd.R_alloc | apply Kd.R_drewN | apply Kd.R_drew)); exact HO_3.out) (by decide)) hk (fun _ h => h.2)) (fun _ h => h.1)); have n1_ := Aside0.mk (KeepBut.trans (by repeat (first | (with_reducible first | exact HK.out | apply KeepBut.set_ | apply keep_drewN | apply keep_drew | apply keep_alloc) | exact HK.out)) hk (.inl rfl)); have n2_ := Aside0.mk (hb); have n3_ := Aside0.mk (hi); clear HO_3; clear HK; clear HB; clear HI0; have HO_3 := n0_; have HK := n1_; have HB := n2_; have HI0 := n3_; clear n0_ n1_ n2_ n3_; (try clear hb); (try clear hb2); (try clear hk); (try clear hi)))
                    go_roundg k2
                    case measure => have := HK1.out; have := HK2.out; omega
                    case rel => exact ⟨(Go.bits .xor .i64 t200 1), (wrap64 (x7_2 - 1)), (t202), (by first | rfl | (simp; done) | (simp [*]; done)), (by first | rfl | (simp; done) | (simp [*]; done)), H', ⟨by have := HK1.out; have := HK2.out; omega⟩, ⟨by (try simp only [hl3_1]); (with_reducible repeat (first | apply Kd.R_alloc | apply Kd.R_drewN | apply Kd.R_drew)); exact HO_3.out⟩, ⟨by repeat (first | (with_reducible first | exact HI0.out | apply IsS67.alloc | apply IsS67.drewN | apply IsS67.drew | apply IsS67.set_0) | exact HI0.out)⟩, ⟨by repeat (first | (with_reducible first | exact HK.out | apply KeepBut.set_ | apply keep_drewN | apply keep_drew | apply keep_alloc) | exact HK.out)⟩, ⟨by repeat (first | (with_reducible first | exact HB.out | apply below_alloc | apply pw_below_drewN | apply below_drew1 | refine below_set ?_ (IsS67.ge HI0.out)) | exact HB.out)⟩⟩
                  · replace c16 := Bool.eq_false_iff.mpr c16
                    subst c16
                    have H1 : (bch_word_sums.l1 k2 x3_1 x16_1 t196 t200 (wrap64 (x7_2 - 1)) (y193.length : Int) x16_1 t202 s0_1 s0_2) = some (r1, r2) := by rw [if_neg (show ¬ (false = true) by decide)] at H; exact H
                    clear H
                    have H := H1
                    clear H1
                    have H' := Aside0.mk H
                    clear H
                    go_wp2_with (first | ((with_reducible refine gate_callee (f := 40) rfl ?_); refine goesL_ (some 31) rfl rfl Try.func40 (by kernel_rfl) rfl #[.int .i64 x6_2, .int .i64 t196] rfl (by (try simp only [List.map_toArray, List.map_cons, List.map_nil]); first | done | rfl | (simp only [List.length_drop, List.length_take]; rfl)) ?_; (with_reducible refine (bch_mul.calls k2 x6_2 t196 t200 _ A14.out).mono ?_); rintro e w' ⟨rfl, ⟨nd, rfl⟩⟩; refine ⟨_, rfl, ?_⟩) | ((with_reducible refine gate_callee (f := 59) rfl ?_); refine goesL_ (some 34) rfl rfl Try.func59 (by kernel_rfl) rfl #[.pointer (some ⟨g, 0, none⟩), .int .i64 x7_2] rfl (by (try simp only [List.map_toArray, List.map_cons, List.map_nil]); first | done | rfl | (simp only [List.length_drop, List.length_take]; rfl)) ?_; (with_reducible refine (bch_word_at.calls g x1000_2 s0_1 s0_2 x7_2 false t202 w0 _ ?side1 ?side2 A15.out).mono ?_); (case side1 => repeat (first | (with_reducible first | exact HI0.out | apply IsS67.alloc | apply IsS67.drewN | apply IsS67.drew | apply IsS67.set_0) | exact HI0.out)); (case side2 => repeat (first | (with_reducible first | exact HB.out | apply below_alloc | apply pw_below_drewN | apply below_drew1 | refine below_set ?_ (IsS67.ge HI0.out)) | exact HB.out)); rintro e w18 ⟨rfl, hi, hb, hk⟩; refine ⟨_, rfl, ?_⟩; have n0_ := Aside0.mk (Kd.R_mono (Kd.R_keep (IsS67.apart (show IsS67 w0 _ g x1000_2 s0_1 s0_2 from by repeat (first | (with_reducible first | exact HI0.out | apply IsS67.alloc | apply IsS67.drewN | apply IsS67.drew | apply IsS67.set_0) | exact HI0.out)) (by (with_reducible repeat (first | apply Kd.R_alloc | apply Kd.R_drewN | apply Kd.R_drew)); exact HO_3.out) (by decide)) hk (fun _ h => h.2)) (fun _ h => h.1)); have n1_ := Aside0.mk (KeepBut.trans (by repeat (first | (with_reducible first | exact HK.out | apply KeepBut.set_ | apply keep_drewN | apply keep_drew | apply keep_alloc) | exact HK.out)) hk (.inl rfl)); have n2_ := Aside0.mk (hb); have n3_ := Aside0.mk (hi); clear HO_3; clear HK; clear HB; clear HI0; have HO_3 := n0_; have HK := n1_; have HB := n2_; have HI0 := n3_; clear n0_ n1_ n2_ n3_; (try clear hb); (try clear hb2); (try clear hk); (try clear hi)))
                    go_roundg k2
                    case measure => have := HK1.out; have := HK2.out; omega
                    case rel => exact ⟨(t200), (wrap64 (x7_2 - 1)), (t202), (by first | rfl | (simp; done) | (simp [*]; done)), (by first | rfl | (simp; done) | (simp [*]; done)), H', ⟨by have := HK1.out; have := HK2.out; omega⟩, ⟨by (try simp only [hl3_1]); (with_reducible repeat (first | apply Kd.R_alloc | apply Kd.R_drewN | apply Kd.R_drew)); exact HO_3.out⟩, ⟨by repeat (first | (with_reducible first | exact HI0.out | apply IsS67.alloc | apply IsS67.drewN | apply IsS67.drew | apply IsS67.set_0) | exact HI0.out)⟩, ⟨by repeat (first | (with_reducible first | exact HK.out | apply KeepBut.set_ | apply keep_drewN | apply keep_drew | apply keep_alloc) | exact HK.out)⟩, ⟨by repeat (first | (with_reducible first | exact HB.out | apply below_alloc | apply pw_below_drewN | apply below_drew1 | refine below_set ?_ (IsS67.ge HI0.out)) | exact HB.out)⟩⟩
                · rw [if_neg c13] at H
                  have c13b0 : decide (0 ≤ x7_2) = false := decide_eq_false c13
                  clear c13
                  by_cases c19 : 0 ≤ x16_1
                  · rw [if_pos c19] at H
                    have c19b0 : decide (0 ≤ x16_1) = true := decide_eq_true c19
                    clear c19
                    by_cases c20 : x16_1 < (x3_1.length : Int)
                    · rw [if_pos c20] at H
                      have c20b0 : decide (x16_1 < (x3_1.length : Int)) = true := decide_eq_true c20
                      clear c20
                      obtain ⟨y199, hy199⟩ : ∃ y_ : List Int, y_ = (x3_1.set (x16_1 : Int).toNat x6_2) := ⟨_, rfl⟩
                      replace H : (bch_word_sums.l0 k2 y199 (y193.length : Int) (wrap64 (x16_1 + 1)) x1000_2 s0_1 s0_2) = some (r1, r2) := by first | (rw [hy199]; with_reducible exact H) | (have H2_ := (Option.bind_some _ _).symm.trans H; rw [hy199]; with_reducible exact H2_) | (have H2_ := (Option.bind_some _ _).symm.trans H; with_reducible exact H2_) | with_reducible exact H | (rw [hy199]; exact H) | exact H
                      have Ny199 := Aside0.mk hy199
                      clear hy199
                      have H' := Aside0.mk H
                      clear H
                      have p21 : 0 ≤ (x16_1 : Int) := of_decide_eq_true (by first | (with_reducible assumption) | assumption)
                      have q21 : (x16_1 : Int) < ((x3_1.length : Int) : Int) := of_decide_eq_true (by first | (with_reducible assumption) | assumption)
                      obtain ⟨go21, co21, eo21, gb21, gl21, cl21, HG21⟩ := Kd.R_form HO_3.out (by omega)
                      (first | cases eo21 | (injection eo21 with ea_ en_ ec_; (first | subst ea_ | (injection ea_ with ea_; subst ea_)); subst ec_; clear en_))
                      have GB21 := Aside0.mk gb21
                      have GG21 := Aside0.mk HG21
                      clear gb21 gl21 HG21
                      obtain ⟨hx21_0, hf21_0⟩ := Kd.R_celln 0 HO_3.out (x16_1 : Int) p21 q21
                      replace p21 := eq_true p21
                      replace q21 := eq_true q21
                      have HP22 := Kd.R_putg HO_3.out (x16_1 : Int) x6_2
                      go_wp2_with (first | ((with_reducible refine gate_store (t := 3) (p := 40) rfl ?_); refine store_event (t := 3) (p := 40) (v := ?vo_w23) (w1 := (wr.setCell ⟨go21, (x16_1 : Int).toNat, none⟩ (.int .i64 x6_2))) ?hg ?ho ?hn ?hr ?_; (case ho => rfl); (case hg => rfl); (case hn => rfl); (case hr => first | (go_simp; done) | (go_simp; rfl)); intro w23 hw; have hg : wr.grownBy w23 (some go21) := (by rw [hw]; exact HP22.2); have hp_ : Kd.R (Kd.int .i64) 3 w23 w.heap.size (fun _ => True) (.slice (some ⟨go21, 0, none⟩) x3_1.length co8) y199 := (by rw [hw, Ny199.out]; exact HP22.1); clear HP22; have n0_ := Aside0.mk (hp_); have n1_ := Aside0.mk (IsS67.grown (by repeat (first | (with_reducible first | exact HI0.out | apply IsS67.alloc | apply IsS67.drewN | apply IsS67.drew | apply IsS67.set_0) | exact HI0.out)) hg (IsS67.own_ne HI0.out HO_3.out (by decide))); have n2_ := Aside0.mk ((by rw [hw]; exact below_set (HB.out) (Nat.le_trans HL.out GB21.out) : Below w0.heap.size w0 w23)); have n3_ := Aside0.mk (KeepBut.trans (by repeat (first | (with_reducible first | exact HK.out | apply KeepBut.set_ | apply keep_drewN | apply keep_drew | apply keep_alloc) | exact HK.out)) (KeepBut.of_grown hg g) (Kd.R_base2 HO_3.out)); clear HO_3; clear HI0; clear HB; clear HK; have HO_3 := n0_; have HI0 := n1_; have HB := n2_; have HK := n3_; clear n0_ n1_ n2_ n3_; clear hg hw hp_))
                      (try simp only [← hl3_1])
                      go_roundg k2
                      case measure => have := HK1.out; have := HK2.out; omega
                      case rel => exact ⟨(y199), (wrap64 (x16_1 + 1)), (x1000_2), (by first | rfl | (simp; done) | (simp [*]; done)), H', ⟨by have := HK1.out; have := HK2.out; omega⟩, ⟨by (try simp only [hl3_1]); (with_reducible repeat (first | apply Kd.R_alloc | apply Kd.R_drewN | apply Kd.R_drew)); exact HO_3.out⟩, ⟨by repeat (first | (with_reducible first | exact HI0.out | apply IsS67.alloc | apply IsS67.drewN | apply IsS67.drew | apply IsS67.set_0) | exact HI0.out)⟩, ⟨by repeat (first | (with_reducible first | exact HK.out | apply KeepBut.set_ | apply keep_drewN | apply keep_drew | apply keep_alloc) | exact HK.out)⟩, ⟨by repeat (first | (with_reducible first | exact HB.out | apply below_alloc | apply pw_below_drewN | apply below_drew1 | refine below_set ?_ (IsS67.ge HI0.out)) | exact HB.out)⟩⟩
                    · rw [if_neg c20] at H
                      exact absurd H (by simp)
                  · rw [if_neg c19] at H
                    exact absurd H (by simp)
          · rw [if_neg c9] at H
            have c9b0 : decide (x16_1 < (y193.length : Int)) = false := decide_eq_false c9
            (try rw [hl3_1] at c9b0)
            clear c9
            simp only [Option.some.injEq, Prod.mk.injEq] at H
            obtain ⟨rfl, rfl⟩ := H
            go_wp2
            go_ret
            exact ⟨_, by first | rfl | (simp [errW_none, errW_some] <;> rfl) | (simp only [← hji2]; first | rfl | (simp [errW_none, errW_some] <;> rfl)) | (simp [*, errW_none, errW_some] <;> rfl), by (with_reducible repeat (first | apply Kd.R_alloc | apply Kd.R_drewN | apply Kd.R_drew)); exact HO_3.out, by repeat (first | (with_reducible first | exact HI0.out | apply IsS67.alloc | apply IsS67.drewN | apply IsS67.drew | apply IsS67.set_0) | exact HI0.out), by repeat (first | (with_reducible first | exact HB.out | apply below_alloc | apply pw_below_drewN | apply below_drew1 | refine below_set ?_ (IsS67.ge HI0.out)) | exact HB.out), by repeat (first | (with_reducible first | exact HK.out | apply KeepBut.set_ | apply keep_drewN | apply keep_drew | apply keep_alloc) | exact HK.out)⟩
    · rw [if_neg c4] at H
      exact absurd H (by simp)
  · rw [if_neg c3] at H
    exact absurd H (by simp)
set_option maxHeartbeats 8000000 in
set_option maxRecDepth 100000 in
theorem bch_word_sums.callsT (TA : Option Addr) (TC : Nat) (TB : Option Addr) (TD : Nat) (k : Nat) (g : Nat) (s0_0 : Int) (s0_1 : List Int) (s0_2 : List Int) (r1 : List Int) (r2 : Int) (w0 w : World) (hI : IsT67 TA TC TB TD w0 w g s0_0 s0_1 s0_2) (hB : Below w0.heap.size w0 w) (h : bch_word_sums.f k s0_0 s0_1 s0_2 = some (r1, r2)) :
    Calls Try.prog 37 #[.pointer (some ⟨g, 0, none⟩)] w fun e w' => ∃ v0_ : Value, e = .returned (v0_) ∧ Kd.R (Kd.int .i64) 3 w' w.heap.size (fun _ => True) v0_ r1 ∧ IsT67 TA TC TB TD w0 w' g r2 s0_1 s0_2 ∧ Below w0.heap.size w0 w' ∧ KeepBut w w' g none := by
  have HI0 := Aside0.mk hI
  have HK := Aside0.mk (KeepBut.refl w g none)
  have HL := Aside0.mk hB.size
  clear hI
  have HW0 := Aside0.mk hB.size
  have HB := Aside0.mk hB
  clear hB
  have H : (if 0 ≤ (wrap64 (2 * s0_0)) then (if (wrap64 (2 * s0_0) : Int).toNat ≤ 35184372088832 then ((some (List.replicate (wrap64 (2 * s0_0) : Int).toNat 0 : List Int)).bind fun y193 => (bch_word_sums.l0 k y193 (y193.length : Int) 0 s0_0 s0_1 s0_2)) else (none)) else (none)) = some (r1, r2) := h
  clear h
  obtain ⟨ji2, hji2⟩ : ∃ j_ : Int, (wrap64 (2 * s0_0)) = j_ := ⟨_, rfl⟩
  replace H : (if 0 ≤ (ji2) then (if (ji2 : Int).toNat ≤ 35184372088832 then ((some (List.replicate (ji2 : Int).toNat 0 : List Int)).bind fun y193 => (bch_word_sums.l0 k y193 (y193.length : Int) 0 s0_0 s0_1 s0_2)) else (none)) else (none)) = some (r1, r2) := by first | (rw [hji2] at H; exact H) | (simp only [hji2] at H ⊢; exact H)
  have hji2w : (IntKind.i64.wrap (2 * s0_0)) = ji2 := (i64_w _).trans hji2
  by_cases c3 : 0 ≤ (ji2)
  · rw [if_pos c3] at H
    have c3b0 := eq_true c3
    have c3b1 : decide (0 ≤ (ji2)) = true := decide_eq_true c3
    clear c3
    by_cases c4 : (ji2 : Int).toNat ≤ 35184372088832
    · rw [if_pos c4] at H
      have c4b0 := eq_true c4
      have c4b1 : decide ((ji2 : Int).toNat ≤ 35184372088832) = true := decide_eq_true c4
      clear c4
      obtain ⟨y193, hy193⟩ : ∃ y_ : List Int, y_ = (List.replicate (ji2 : Int).toNat 0) := ⟨_, rfl⟩
      replace H : (bch_word_sums.l0 k y193 (y193.length : Int) 0 s0_0 s0_1 s0_2) = some (r1, r2) := by first | (rw [hy193]; with_reducible exact H) | (have H2_ := (Option.bind_some _ _).symm.trans H; rw [hy193]; with_reducible exact H2_) | (have H2_ := (Option.bind_some _ _).symm.trans H; with_reducible exact H2_) | with_reducible exact H | (rw [hy193]; exact H) | exact H
      have Ny193 := Aside0.mk hy193
      clear hy193
      have H' := Aside0.mk H
      clear H
      obtain ⟨HGz5, hgz5, HSz5_1, HSz5_2⟩ := HI0.out
      have hcz5_0 := cellS67_0 HGz5
      have hcz5_1 := cellS67_1 HGz5
      have hcz5_2 := cellS67_2 HGz5
      have hfz5_0 := blk_frozen HGz5 0
      clear HGz5 hgz5
      go_enter Try.func37, Try.ntmps37
      go_wp2_with (first | ((with_reducible refine gate_dst (N := 13) rfl ?_); refine Kd.R_make (Kd.int .i64) _ 3 rfl (N := 13) rfl 38 _ _ rfl ji2 rfl rfl Try.underlying38 (.int .i64 0) 8 info3 rfl (by decide) (by omega) 0 (ok := fun _ => True) (okp := fun _ => True) rfl (fun _ hk => hk) trivial (of_decide_eq_true (by first | (with_reducible assumption) | assumption)) (Nat.le_trans (Nat.mul_le_mul_right _ (of_decide_eq_true (by first | (with_reducible assumption) | assumption) : ji2.toNat ≤ 35184372088832)) (by omega)) (Below.refl _ _) (Nat.le_refl _) ?_; intro v194 w6 ho7 hb hg_ hnew_; clear hg_ hnew_; (first | rw [← Ny193.out] at ho7 | (simp only [Int.reduceToNat] at ho7; rw [← Ny193.out] at ho7)); have n0_ := Aside0.mk (Kd.R_lower ho7 (keep_size (w := w) (g := g) (row := none) (by repeat (first | (with_reducible first | exact HK.out | apply KeepBut.set_ | apply keep_drewN | apply keep_drew | apply keep_alloc) | exact HK.out)))); have n1_ := Aside0.mk (IsT67.below (by repeat (first | (with_reducible first | exact HI0.out | apply IsT67.alloc | apply IsT67.drewN | apply IsT67.drew | apply IsT67.set_0) | exact HI0.out)) hb); have n2_ := Aside0.mk (KeepBut.trans (by repeat (first | (with_reducible first | exact HK.out | apply KeepBut.set_ | apply keep_drewN | apply keep_drew | apply keep_alloc) | exact HK.out)) (KeepBut.of_below hb g none) (.inl rfl)); have n3_ := Aside0.mk (below_step (by repeat (first | (with_reducible first | exact HB.out | apply below_alloc | apply pw_below_drewN | apply below_drew1 | refine below_set ?_ (IsT67.ge HI0.out)) | exact HB.out)) hb); clear HI0; clear HK; clear HB; have HO195 := n0_; have HI0 := n1_; have HK := n2_; have HB := n3_; clear n0_ n1_ n2_ n3_; clear hb ho7; obtain ⟨Ao8, co8, eo8⟩ := Kd.R_slice HO195.out; subst eo8))
      go_loopg [16] k (fun kq v16 w' => ∃ (x3_1 : List Int) (x16_1 : Int) (x1000_1 : Int), v16 = .int .i64 x16_1 ∧ Aside0 (bch_word_sums.l0 kq x3_1 (y193.length : Int) x16_1 x1000_1 s0_1 s0_2 = some (r1, r2)) ∧ Aside0 (kq ≤ k) ∧ Aside0 (Kd.R (Kd.int .i64) 3 w' w.heap.size (fun _ => True) (.slice Ao8 y193.length co8) x3_1) ∧ Aside0 (IsT67 TA TC TB TD w0 w' g x1000_1 s0_1 s0_2) ∧ Aside0 (KeepBut w w' g none) ∧ Aside0 (Below w0.heap.size w0 w'))
      case atStart => exact ⟨(y193), (0), (s0_0), (by first | rfl | (simp; done) | (simp [*]; done)), H', ⟨Nat.le_refl _⟩, ⟨by (with_reducible repeat (first | apply Kd.R_alloc | apply Kd.R_drewN | apply Kd.R_drew)); exact HO195.out⟩, ⟨by repeat (first | (with_reducible first | exact HI0.out | apply IsT67.alloc | apply IsT67.drewN | apply IsT67.drew | apply IsT67.set_0) | exact HI0.out)⟩, ⟨by repeat (first | (with_reducible first | exact HK.out | apply KeepBut.set_ | apply keep_drewN | apply keep_drew | apply keep_alloc) | exact HK.out)⟩, ⟨by repeat (first | (with_reducible first | exact HB.out | apply below_alloc | apply pw_below_drewN | apply below_drew1 | refine below_set ?_ (IsT67.ge HI0.out)) | exact HB.out)⟩⟩
      case round =>
        clear H'
        try clear p2
        try clear c3
        try clear c3b0
        try clear c3b1
        try clear c4
        try clear c4b0
        try clear c4b1
        try clear p6
        try clear hcz5_0
        try clear hcz5_1
        try clear hcz5_2
        try clear hfz5_0
        obtain ⟨x3_1, x16_1, x1000_1, rfl, HA, HK1, HO_3, HI0, HK, HB⟩ := hrel
        have hl3_1 := (Kd.R_reads' HO_3.out).1
        rw [hl3_1] at HO_3
        (try simp only [hl3_1])
        cases gk with
        | zero => exact absurd HA.out (by simp [bch_word_sums.l0])
        | succ k1 =>
          have H := HA.out
          clear HA
          simp only [bch_word_sums.l0] at H
          by_cases c9 : x16_1 < (y193.length : Int)
          · rw [if_pos c9] at H
            have c9b0 : decide (x16_1 < (y193.length : Int)) = true := decide_eq_true c9
            (try rw [hl3_1] at c9b0)
            clear c9
            replace H := Option.bind_eq_some_iff.mp H
            obtain ⟨t196, A100, H⟩ := H
            replace H : ((bch_word_len.f x1000_1 s0_1 s0_2).bind fun bt197 => (bch_word_sums.l1 k1 x3_1 x16_1 t196 0 (wrap64 (bt197.1 - 1)) (y193.length : Int) x16_1 bt197.2 s0_1 s0_2)) = some (r1, r2) := H
            have A10 := Aside0.mk A100
            clear A100
            replace H := Option.bind_eq_some_iff.mp H
            obtain ⟨⟨t197, t198⟩, A110, H⟩ := H
            replace H : (bch_word_sums.l1 k1 x3_1 x16_1 t196 0 (wrap64 (t197 - 1)) (y193.length : Int) x16_1 t198 s0_1 s0_2) = some (r1, r2) := H
            have A11 := Aside0.mk A110
            clear A110
            have H' := Aside0.mk H
            clear H
            go_wp2_with (first | ((with_reducible refine gate_callee (f := 39) rfl ?_); refine goesL_ (some 21) rfl rfl Try.func39 (by kernel_rfl) rfl #[.int .i64 (wrap64 (x16_1 + 1))] rfl (by (try simp only [List.map_toArray, List.map_cons, List.map_nil]); first | done | rfl | (simp only [List.length_drop, List.length_take]; rfl)) ?_; (with_reducible refine (gf_Exp.calls k1 (wrap64 (x16_1 + 1)) t196 _ A10.out).mono ?_); rintro e w' ⟨rfl, ⟨nd, rfl⟩⟩; refine ⟨_, rfl, ?_⟩) | ((with_reducible refine gate_callee (f := 38) rfl ?_); refine goesL_ (some 23) rfl rfl Try.func38 (by kernel_rfl) rfl #[.pointer (some ⟨g, 0, none⟩)] rfl (by (try simp only [List.map_toArray, List.map_cons, List.map_nil]); first | done | rfl | (simp only [List.length_drop, List.length_take]; rfl)) ?_; (with_reducible refine (bch_word_len.callsT TA TC TB TD g x1000_1 s0_1 s0_2 t197 t198 w0 _ ?side1 ?side2 A11.out).mono ?_); (case side1 => repeat (first | (with_reducible first | exact HI0.out | apply IsT67.alloc | apply IsT67.drewN | apply IsT67.drew | apply IsT67.set_0) | exact HI0.out)); (case side2 => repeat (first | (with_reducible first | exact HB.out | apply below_alloc | apply pw_below_drewN | apply below_drew1 | refine below_set ?_ (IsT67.ge HI0.out)) | exact HB.out)); rintro e w12 ⟨rfl, hi, hb, hk⟩; refine ⟨_, rfl, ?_⟩; have n0_ := Aside0.mk (Kd.R_mono (Kd.R_keep (IsT67.apart (show IsT67 TA TC TB TD w0 _ g x1000_1 s0_1 s0_2 from by repeat (first | (with_reducible first | exact HI0.out | apply IsT67.alloc | apply IsT67.drewN | apply IsT67.drew | apply IsT67.set_0) | exact HI0.out)) (by (with_reducible repeat (first | apply Kd.R_alloc | apply Kd.R_drewN | apply Kd.R_drew)); exact HO_3.out) (by decide)) hk (fun _ h => h.2)) (fun _ h => h.1)); have n1_ := Aside0.mk (KeepBut.trans (by repeat (first | (with_reducible first | exact HK.out | apply KeepBut.set_ | apply keep_drewN | apply keep_drew | apply keep_alloc) | exact HK.out)) hk (.inl rfl)); have n2_ := Aside0.mk (hb); have n3_ := Aside0.mk (hi); clear HO_3; clear HK; clear HB; clear HI0; have HO_3 := n0_; have HK := n1_; have HB := n2_; have HI0 := n3_; clear n0_ n1_ n2_ n3_; (try clear hb); (try clear hb2); (try clear hk); (try clear hi)))
            go_loopg [6, 7] k1 (fun kq v6 v7 w' => ∃ (x6_2 : Int) (x7_2 : Int) (x1000_2 : Int), v6 = .int .i64 x6_2 ∧ v7 = .int .i64 x7_2 ∧ Aside0 (bch_word_sums.l1 kq x3_1 x16_1 t196 x6_2 x7_2 (y193.length : Int) x16_1 x1000_2 s0_1 s0_2 = some (r1, r2)) ∧ Aside0 (kq ≤ k1) ∧ Aside0 (Kd.R (Kd.int .i64) 3 w' w.heap.size (fun _ => True) (.slice Ao8 x3_1.length co8) x3_1) ∧ Aside0 (IsT67 TA TC TB TD w0 w' g x1000_2 s0_1 s0_2) ∧ Aside0 (KeepBut w w' g none) ∧ Aside0 (Below w0.heap.size w0 w'))
            case atStart => exact ⟨(0), (wrap64 (t197 - 1)), (t198), (by first | rfl | (simp; done) | (simp [*]; done)), (by first | rfl | (simp; done) | (simp [*]; done)), H', ⟨Nat.le_refl _⟩, ⟨by (try simp only [hl3_1]); (with_reducible repeat (first | apply Kd.R_alloc | apply Kd.R_drewN | apply Kd.R_drew)); exact HO_3.out⟩, ⟨by repeat (first | (with_reducible first | exact HI0.out | apply IsT67.alloc | apply IsT67.drewN | apply IsT67.drew | apply IsT67.set_0) | exact HI0.out)⟩, ⟨by repeat (first | (with_reducible first | exact HK.out | apply KeepBut.set_ | apply keep_drewN | apply keep_drew | apply keep_alloc) | exact HK.out)⟩, ⟨by repeat (first | (with_reducible first | exact HB.out | apply below_alloc | apply pw_below_drewN | apply below_drew1 | refine below_set ?_ (IsT67.ge HI0.out)) | exact HB.out)⟩⟩
            case round =>
              clear H'
              try clear p2
              try clear c3
              try clear c3b0
              try clear c3b1
              try clear c4
              try clear c4b0
              try clear c4b1
              try clear p6
              try clear c9
              try clear c9b0
              try clear hcz5_0
              try clear hcz5_1
              try clear hcz5_2
              try clear hfz5_0
              try clear p2
              try clear p6
              obtain ⟨x6_2, x7_2, x1000_2, rfl, rfl, HA, HK2, HO_3, HI0, HK, HB⟩ := hrel
              cases gk with
              | zero => exact absurd HA.out (by simp [bch_word_sums.l1])
              | succ k2 =>
                have H := HA.out
                clear HA
                simp only [bch_word_sums.l1] at H
                by_cases c13 : x7_2 ≥ 0
                · rw [if_pos c13] at H
                  have c13b0 : decide (0 ≤ x7_2) = true := decide_eq_true c13
                  clear c13
                  replace H := Option.bind_eq_some_iff.mp H
                  obtain ⟨t200, A140, H⟩ := H
                  replace H : ((bch_word_at.f x1000_2 s0_1 s0_2 x7_2).bind fun bt201 => (if bt201.1 = true then (bch_word_sums.l1 k2 x3_1 x16_1 t196 (Go.bits .xor .i64 t200 1) (wrap64 (x7_2 - 1)) (y193.length : Int) x16_1 bt201.2 s0_1 s0_2) else (bch_word_sums.l1 k2 x3_1 x16_1 t196 t200 (wrap64 (x7_2 - 1)) (y193.length : Int) x16_1 bt201.2 s0_1 s0_2))) = some (r1, r2) := H
                  have A14 := Aside0.mk A140
                  clear A140
                  replace H := Option.bind_eq_some_iff.mp H
                  obtain ⟨⟨t201, t202⟩, A150, H⟩ := H
                  replace H : (if t201 = true then (bch_word_sums.l1 k2 x3_1 x16_1 t196 (Go.bits .xor .i64 t200 1) (wrap64 (x7_2 - 1)) (y193.length : Int) x16_1 t202 s0_1 s0_2) else (bch_word_sums.l1 k2 x3_1 x16_1 t196 t200 (wrap64 (x7_2 - 1)) (y193.length : Int) x16_1 t202 s0_1 s0_2)) = some (r1, r2) := H
                  have A15 := Aside0.mk A150
                  clear A150
                  by_cases c16 : t201 = true
                  · subst c16
                    have H1 : (bch_word_sums.l1 k2 x3_1 x16_1 t196 (Go.bits .xor .i64 t200 1) (wrap64 (x7_2 - 1)) (y193.length : Int) x16_1 t202 s0_1 s0_2) = some (r1, r2) := by rw [if_pos rfl] at H; exact H
                    clear H
                    have H := H1
                    clear H1
                    have H' := Aside0.mk H
                    clear H
                    go_wp2_with (first | ((with_reducible refine gate_callee (f := 40) rfl ?_); refine goesL_ (some 31) rfl rfl Try.func40 (by kernel_rfl) rfl #[.int .i64 x6_2, .int .i64 t196] rfl (by (try simp only [List.map_toArray, List.map_cons, List.map_nil]); first | done | rfl | (simp only [List.length_drop, List.length_take]; rfl)) ?_; (with_reducible refine (bch_mul.calls k2 x6_2 t196 t200 _ A14.out).mono ?_); rintro e w' ⟨rfl, ⟨nd, rfl⟩⟩; refine ⟨_, rfl, ?_⟩) | ((with_reducible refine gate_callee (f := 59) rfl ?_); refine goesL_ (some 34) rfl rfl Try.func59 (by kernel_rfl) rfl #[.pointer (some ⟨g, 0, none⟩), .int .i64 x7_2] rfl (by (try simp only [List.map_toArray, List.map_cons, List.map_nil]); first | done | rfl | (simp only [List.length_drop, List.length_take]; rfl)) ?_; (with_reducible refine (bch_word_at.callsT TA TC TB TD g x1000_2 s0_1 s0_2 x7_2 true t202 w0 _ ?side1 ?side2 A15.out).mono ?_); (case side1 => repeat (first | (with_reducible first | exact HI0.out | apply IsT67.alloc | apply IsT67.drewN | apply IsT67.drew | apply IsT67.set_0) | exact HI0.out)); (case side2 => repeat (first | (with_reducible first | exact HB.out | apply below_alloc | apply pw_below_drewN | apply below_drew1 | refine below_set ?_ (IsT67.ge HI0.out)) | exact HB.out)); rintro e w17 ⟨rfl, hi, hb, hk⟩; refine ⟨_, rfl, ?_⟩; have n0_ := Aside0.mk (Kd.R_mono (Kd.R_keep (IsT67.apart (show IsT67 TA TC TB TD w0 _ g x1000_2 s0_1 s0_2 from by repeat (first | (with_reducible first | exact HI0.out | apply IsT67.alloc | apply IsT67.drewN | apply IsT67.drew | apply IsT67.set_0) | exact HI0.out)) (by (with_reducible repeat (first | apply Kd.R_alloc | apply Kd.R_drewN | apply Kd.R_drew)); exact HO_3.out) (by decide)) hk (fun _ h => h.2)) (fun _ h => h.1)); have n1_ := Aside0.mk (KeepBut.trans (by repeat (first | (with_reducible first | exact HK.out | apply KeepBut.set_ | apply keep_drewN | apply keep_drew | apply keep_alloc) | exact HK.out)) hk (.inl rfl)); have n2_ := Aside0.mk (hb); have n3_ := Aside0.mk (hi); clear HO_3; clear HK; clear HB; clear HI0; have HO_3 := n0_; have HK := n1_; have HB := n2_; have HI0 := n3_; clear n0_ n1_ n2_ n3_; (try clear hb); (try clear hb2); (try clear hk); (try clear hi)))
                    go_roundg k2
                    case measure => have := HK1.out; have := HK2.out; omega
                    case rel => exact ⟨(Go.bits .xor .i64 t200 1), (wrap64 (x7_2 - 1)), (t202), (by first | rfl | (simp; done) | (simp [*]; done)), (by first | rfl | (simp; done) | (simp [*]; done)), H', ⟨by have := HK1.out; have := HK2.out; omega⟩, ⟨by (try simp only [hl3_1]); (with_reducible repeat (first | apply Kd.R_alloc | apply Kd.R_drewN | apply Kd.R_drew)); exact HO_3.out⟩, ⟨by repeat (first | (with_reducible first | exact HI0.out | apply IsT67.alloc | apply IsT67.drewN | apply IsT67.drew | apply IsT67.set_0) | exact HI0.out)⟩, ⟨by repeat (first | (with_reducible first | exact HK.out | apply KeepBut.set_ | apply keep_drewN | apply keep_drew | apply keep_alloc) | exact HK.out)⟩, ⟨by repeat (first | (with_reducible first | exact HB.out | apply below_alloc | apply pw_below_drewN | apply below_drew1 | refine below_set ?_ (IsT67.ge HI0.out)) | exact HB.out)⟩⟩
                  · replace c16 := Bool.eq_false_iff.mpr c16
                    subst c16
                    have H1 : (bch_word_sums.l1 k2 x3_1 x16_1 t196 t200 (wrap64 (x7_2 - 1)) (y193.length : Int) x16_1 t202 s0_1 s0_2) = some (r1, r2) := by rw [if_neg (show ¬ (false = true) by decide)] at H; exact H
                    clear H
                    have H := H1
                    clear H1
                    have H' := Aside0.mk H
                    clear H
                    go_wp2_with (first | ((with_reducible refine gate_callee (f := 40) rfl ?_); refine goesL_ (some 31) rfl rfl Try.func40 (by kernel_rfl) rfl #[.int .i64 x6_2, .int .i64 t196] rfl (by (try simp only [List.map_toArray, List.map_cons, List.map_nil]); first | done | rfl | (simp only [List.length_drop, List.length_take]; rfl)) ?_; (with_reducible refine (bch_mul.calls k2 x6_2 t196 t200 _ A14.out).mono ?_); rintro e w' ⟨rfl, ⟨nd, rfl⟩⟩; refine ⟨_, rfl, ?_⟩) | ((with_reducible refine gate_callee (f := 59) rfl ?_); refine goesL_ (some 34) rfl rfl Try.func59 (by kernel_rfl) rfl #[.pointer (some ⟨g, 0, none⟩), .int .i64 x7_2] rfl (by (try simp only [List.map_toArray, List.map_cons, List.map_nil]); first | done | rfl | (simp only [List.length_drop, List.length_take]; rfl)) ?_; (with_reducible refine (bch_word_at.callsT TA TC TB TD g x1000_2 s0_1 s0_2 x7_2 false t202 w0 _ ?side1 ?side2 A15.out).mono ?_); (case side1 => repeat (first | (with_reducible first | exact HI0.out | apply IsT67.alloc | apply IsT67.drewN | apply IsT67.drew | apply IsT67.set_0) | exact HI0.out)); (case side2 => repeat (first | (with_reducible first | exact HB.out | apply below_alloc | apply pw_below_drewN | apply below_drew1 | refine below_set ?_ (IsT67.ge HI0.out)) | exact HB.out)); rintro e w18 ⟨rfl, hi, hb, hk⟩; refine ⟨_, rfl, ?_⟩; have n0_ := Aside0.mk (Kd.R_mono (Kd.R_keep (IsT67.apart (show IsT67 TA TC TB TD w0 _ g x1000_2 s0_1 s0_2 from by repeat (first | (with_reducible first | exact HI0.out | apply IsT67.alloc | apply IsT67.drewN | apply IsT67.drew | apply IsT67.set_0) | exact HI0.out)) (by (with_reducible repeat (first | apply Kd.R_alloc | apply Kd.R_drewN | apply Kd.R_drew)); exact HO_3.out) (by decide)) hk (fun _ h => h.2)) (fun _ h => h.1)); have n1_ := Aside0.mk (KeepBut.trans (by repeat (first | (with_reducible first | exact HK.out | apply KeepBut.set_ | apply keep_drewN | apply keep_drew | apply keep_alloc) | exact HK.out)) hk (.inl rfl)); have n2_ := Aside0.mk (hb); have n3_ := Aside0.mk (hi); clear HO_3; clear HK; clear HB; clear HI0; have HO_3 := n0_; have HK := n1_; have HB := n2_; have HI0 := n3_; clear n0_ n1_ n2_ n3_; (try clear hb); (try clear hb2); (try clear hk); (try clear hi)))
                    go_roundg k2
                    case measure => have := HK1.out; have := HK2.out; omega
                    case rel => exact ⟨(t200), (wrap64 (x7_2 - 1)), (t202), (by first | rfl | (simp; done) | (simp [*]; done)), (by first | rfl | (simp; done) | (simp [*]; done)), H', ⟨by have := HK1.out; have := HK2.out; omega⟩, ⟨by (try simp only [hl3_1]); (with_reducible repeat (first | apply Kd.R_alloc | apply Kd.R_drewN | apply Kd.R_drew)); exact HO_3.out⟩, ⟨by repeat (first | (with_reducible first | exact HI0.out | apply IsT67.alloc | apply IsT67.drewN | apply IsT67.drew | apply IsT67.set_0) | exact HI0.out)⟩, ⟨by repeat (first | (with_reducible first | exact HK.out | apply KeepBut.set_ | apply keep_drewN | apply keep_drew | apply keep_alloc) | exact HK.out)⟩, ⟨by repeat (first | (with_reducible first | exact HB.out | apply below_alloc | apply pw_below_drewN | apply below_drew1 | refine below_set ?_ (IsT67.ge HI0.out)) | exact HB.out)⟩⟩
                · rw [if_neg c13] at H
                  have c13b0 : decide (0 ≤ x7_2) = false := decide_eq_false c13
                  clear c13
                  by_cases c19 : 0 ≤ x16_1
                  · rw [if_pos c19] at H
                    have c19b0 : decide (0 ≤ x16_1) = true := decide_eq_true c19
                    clear c19
                    by_cases c20 : x16_1 < (x3_1.length : Int)
                    · rw [if_pos c20] at H
                      have c20b0 : decide (x16_1 < (x3_1.length : Int)) = true := decide_eq_true c20
                      clear c20
                      obtain ⟨y199, hy199⟩ : ∃ y_ : List Int, y_ = (x3_1.set (x16_1 : Int).toNat x6_2) := ⟨_, rfl⟩
                      replace H : (bch_word_sums.l0 k2 y199 (y193.length : Int) (wrap64 (x16_1 + 1)) x1000_2 s0_1 s0_2) = some (r1, r2) := by first | (rw [hy199]; with_reducible exact H) | (have H2_ := (Option.bind_some _ _).symm.trans H; rw [hy199]; with_reducible exact H2_) | (have H2_ := (Option.bind_some _ _).symm.trans H; with_reducible exact H2_) | with_reducible exact H | (rw [hy199]; exact H) | exact H
                      have Ny199 := Aside0.mk hy199
                      clear hy199
                      have H' := Aside0.mk H
                      clear H
                      have p21 : 0 ≤ (x16_1 : Int) := of_decide_eq_true (by first | (with_reducible assumption) | assumption)
                      have q21 : (x16_1 : Int) < ((x3_1.length : Int) : Int) := of_decide_eq_true (by first | (with_reducible assumption) | assumption)
                      obtain ⟨go21, co21, eo21, gb21, gl21, cl21, HG21⟩ := Kd.R_form HO_3.out (by omega)
                      (first | cases eo21 | (injection eo21 with ea_ en_ ec_; (first | subst ea_ | (injection ea_ with ea_; subst ea_)); subst ec_; clear en_))
                      have GB21 := Aside0.mk gb21
                      have GG21 := Aside0.mk HG21
                      clear gb21 gl21 HG21
                      obtain ⟨hx21_0, hf21_0⟩ := Kd.R_celln 0 HO_3.out (x16_1 : Int) p21 q21
                      replace p21 := eq_true p21
                      replace q21 := eq_true q21
                      have HP22 := Kd.R_putg HO_3.out (x16_1 : Int) x6_2
                      go_wp2_with (first | ((with_reducible refine gate_store (t := 3) (p := 40) rfl ?_); refine store_event (t := 3) (p := 40) (v := ?vo_w23) (w1 := (wr.setCell ⟨go21, (x16_1 : Int).toNat, none⟩ (.int .i64 x6_2))) ?hg ?ho ?hn ?hr ?_; (case ho => rfl); (case hg => rfl); (case hn => rfl); (case hr => first | (go_simp; done) | (go_simp; rfl)); intro w23 hw; have hg : wr.grownBy w23 (some go21) := (by rw [hw]; exact HP22.2); have hp_ : Kd.R (Kd.int .i64) 3 w23 w.heap.size (fun _ => True) (.slice (some ⟨go21, 0, none⟩) x3_1.length co8) y199 := (by rw [hw, Ny199.out]; exact HP22.1); clear HP22; have n0_ := Aside0.mk (hp_); have n1_ := Aside0.mk (IsT67.grown (by repeat (first | (with_reducible first | exact HI0.out | apply IsT67.alloc | apply IsT67.drewN | apply IsT67.drew | apply IsT67.set_0) | exact HI0.out)) hg (IsT67.own_ne HI0.out HO_3.out (by decide))); have n2_ := Aside0.mk ((by rw [hw]; exact below_set (HB.out) (Nat.le_trans HL.out GB21.out) : Below w0.heap.size w0 w23)); have n3_ := Aside0.mk (KeepBut.trans (by repeat (first | (with_reducible first | exact HK.out | apply KeepBut.set_ | apply keep_drewN | apply keep_drew | apply keep_alloc) | exact HK.out)) (KeepBut.of_grown hg g) (Kd.R_base2 HO_3.out)); clear HO_3; clear HI0; clear HB; clear HK; have HO_3 := n0_; have HI0 := n1_; have HB := n2_; have HK := n3_; clear n0_ n1_ n2_ n3_; clear hg hw hp_))
                      (try simp only [← hl3_1])
                      go_roundg k2
                      case measure => have := HK1.out; have := HK2.out; omega
                      case rel => exact ⟨(y199), (wrap64 (x16_1 + 1)), (x1000_2), (by first | rfl | (simp; done) | (simp [*]; done)), H', ⟨by have := HK1.out; have := HK2.out; omega⟩, ⟨by (try simp only [hl3_1]); (with_reducible repeat (first | apply Kd.R_alloc | apply Kd.R_drewN | apply Kd.R_drew)); exact HO_3.out⟩, ⟨by repeat (first | (with_reducible first | exact HI0.out | apply IsT67.alloc | apply IsT67.drewN | apply IsT67.drew | apply IsT67.set_0) | exact HI0.out)⟩, ⟨by repeat (first | (with_reducible first | exact HK.out | apply KeepBut.set_ | apply keep_drewN | apply keep_drew | apply keep_alloc) | exact HK.out)⟩, ⟨by repeat (first | (with_reducible first | exact HB.out | apply below_alloc | apply pw_below_drewN | apply below_drew1 | refine below_set ?_ (IsT67.ge HI0.out)) | exact HB.out)⟩⟩
                    · rw [if_neg c20] at H
                      exact absurd H (by simp)
                  · rw [if_neg c19] at H
                    exact absurd H (by simp)
          · rw [if_neg c9] at H
            have c9b0 : decide (x16_1 < (y193.length : Int)) = false := decide_eq_false c9
            (try rw [hl3_1] at c9b0)
            clear c9
            simp only [Option.some.injEq, Prod.mk.injEq] at H
            obtain ⟨rfl, rfl⟩ := H
            go_wp2
            go_ret
            exact ⟨_, by first | rfl | (simp [errW_none, errW_some] <;> rfl) | (simp only [← hji2]; first | rfl | (simp [errW_none, errW_some] <;> rfl)) | (simp [*, errW_none, errW_some] <;> rfl), by (with_reducible repeat (first | apply Kd.R_alloc | apply Kd.R_drewN | apply Kd.R_drew)); exact HO_3.out, by repeat (first | (with_reducible first | exact HI0.out | apply IsT67.alloc | apply IsT67.drewN | apply IsT67.drew | apply IsT67.set_0) | exact HI0.out), by repeat (first | (with_reducible first | exact HB.out | apply below_alloc | apply pw_below_drewN | apply below_drew1 | refine below_set ?_ (IsT67.ge HI0.out)) | exact HB.out), by repeat (first | (with_reducible first | exact HK.out | apply KeepBut.set_ | apply keep_drewN | apply keep_drew | apply keep_alloc) | exact HK.out)⟩
    · rw [if_neg c4] at H
      exact absurd H (by simp)
  · rw [if_neg c3] at H
    exact absurd H (by simp)
end Go.Proofs.Ytbaiildpabdlpaa.P

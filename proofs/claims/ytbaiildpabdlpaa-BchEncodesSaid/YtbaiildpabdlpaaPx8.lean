/- What Go functions of the translation come to, as plain functions, and that their calls come to just that. No condition but that the plain function answers. (Written by a program of this session.) -/
import Derived.Test.YtbaiildpabdlpaaPx0
import Derived.Test.YtbaiildpabdlpaaPx1
import Derived.Test.YtbaiildpabdlpaaPx3
import Derived.Test.YtbaiildpabdlpaaPx4
import Derived.Test.YtbaiildpabdlpaaPx5
import Derived.Test.YtbaiildpabdlpaaPx6
import Derived.Test.YtbaiildpabdlpaaPx7
namespace Go.Proofs.Ytbaiildpabdlpaa.P
open Go.RowKit Go.Proofs.YtbaiildpabdlpaaW.PrintWords Go.Proofs.YtbaiildpabdlpaaW.PrintLast Go.Proofs.YtbaiildpabdlpaaW.PrintMore
attribute [local go_sem] max2_int min2_int max_two min_two max_three min_three max_four min_four   -- for this text's walks alone
set_option linter.unusedVariables false
set_option linter.unusedSimpArgs false
def flip1 (l : List Int) (k : Int) : Option (List Int) := if 0 ≤ wrap64 (Int.tdiv k 8) then (if wrap64 (Int.tdiv k 8) < (l.length : Int) then (if 0 ≤ Int.tmod k 8 then some (l.set (wrap64 (Int.tdiv k 8)).toNat (Go.bits .xor .u8 (rd l (wrap64 (Int.tdiv k 8))) (shl .u8 1 (Int.tmod k 8)))) else none) else none) else none
def flipL (t : Int) (d m : List Int) (i : Int) : Option (List Int × List Int) := if wrap64 (i - wrap64 (13 * t)) ≥ 0 then ((flip1 d (wrap64 (i - wrap64 (13 * t)))).bind fun d' => some (d', m)) else ((flip1 m i).bind fun m' => some (d, m'))
theorem flip1_is {l l' : List Int} {k : Int} (h : flip1 l k = some l') : 0 ≤ wrap64 (Int.tdiv k 8) ∧ wrap64 (Int.tdiv k 8) < (l.length : Int) ∧ 0 ≤ Int.tmod k 8 ∧ l' = l.set (wrap64 (Int.tdiv k 8)).toNat (Go.bits .xor .u8 (rd l (wrap64 (Int.tdiv k 8))) (shl .u8 1 (Int.tmod k 8))) := by
  unfold flip1 at h
  by_cases h0 : 0 ≤ wrap64 (Int.tdiv k 8)
  · rw [if_pos h0] at h
    by_cases h1 : wrap64 (Int.tdiv k 8) < (l.length : Int)
    · rw [if_pos h1] at h
      by_cases h2 : 0 ≤ Int.tmod k 8
      · rw [if_pos h2] at h
        exact ⟨h0, h1, h2, (Option.some.inj h).symm⟩
      · rw [if_neg h2] at h; exact absurd h (by simp)
    · rw [if_neg h1] at h; exact absurd h (by simp)
  · rw [if_neg h0] at h; exact absurd h (by simp)
set_option maxHeartbeats 2000000 in
set_option maxRecDepth 100000 in
theorem flip_keeps (W : World) (base g : Nat) (t : Int) (d m : List Int) (gd cd gm cm : Nat) (i : Int) (d' m' : List Int) (hW : WSt W base g t d m gd cd gm cm) (h : flipL t d m i = some (d', m')) :
    Calls Try.prog 41 #[.pointer (some ⟨g, 0, none⟩), .int .i64 i] W fun e w' => e = .returned (.tuple #[]) ∧ WSt w' base g t d' m' gd cd gm cm ∧ Below base W w' ∧ (∀ k, k < W.heap.size → k ≠ gd → k ≠ gm → w'.heap[k]? = W.heap[k]?) := by
  unfold flipL at h
  have HW := Aside0.mk hW
  clear hW
  have hc0 : W.cell? ⟨g, 0, none⟩ = some (.int .i64 t) := (blk_cell HW.out.blk 0).trans rfl
  by_cases c0 : wrap64 (i - wrap64 (13 * t)) ≥ 0
  · rw [if_pos c0] at h
    obtain ⟨q, hq, h⟩ := Option.bind_eq_some_iff.1 h
    obtain ⟨h0, h1, h2, rfl⟩ := flip1_is hq
    simp only [Option.some.injEq, Prod.mk.injEq] at h
    obtain ⟨rfl, rfl⟩ := h
    have c0b : decide (0 ≤ wrap64 (i - wrap64 (13 * t))) = true := decide_eq_true c0
    have hc1 : W.cell? ⟨g, 1, none⟩ = some (.slice (some ⟨gd, 0, none⟩) d.length cd) := (blk_cell HW.out.blk 1).trans rfl
    clear hq c0
    obtain ⟨kk, hkk⟩ : ∃ kk, wrap64 (i - wrap64 (13 * t)) = kk := ⟨_, rfl⟩
    simp only [hkk] at h0 h1 h2 c0b
    simp only [hkk]
    obtain ⟨ji, hji⟩ : ∃ ji, wrap64 (Int.tdiv kk 8) = ji := ⟨_, rfl⟩
    have hjiw : IntKind.i64.wrap (Int.tdiv kk 8) = ji := (i64_w _).trans hji
    simp only [hji] at h0 h1
    simp only [hji]
    obtain ⟨hx, hf⟩ := HW.out.atd ji h0 h1
    have H2 := Aside0.mk h2
    obtain ⟨v, hv⟩ : ∃ v, rd d ji = v := ⟨_, rfl⟩
    rw [hv] at hx
    rw [hv]
    clear hv
    go_enter Try.func41, Try.ntmps41
    go_wp2_with fail
    go_region
    go_wp2
    go_end0
    refine ⟨rfl, ?_, ?_, ?_⟩
    · rw [shl1_u8]
      exact (HW.out.setd ji _).move (fun _ _ => rfl)
    · exact below_drew1 ((Below.refl _ W).setCell (p := ⟨gd, ji.toNat, none⟩) HW.out.ged _)
    · exact fun k _ h1 _ => Below.heap_setCell W ⟨gd, ji.toNat, none⟩ _ k h1
  · rw [if_neg c0] at h
    obtain ⟨q, hq, h⟩ := Option.bind_eq_some_iff.1 h
    obtain ⟨h0, h1, h2, rfl⟩ := flip1_is hq
    simp only [Option.some.injEq, Prod.mk.injEq] at h
    obtain ⟨rfl, rfl⟩ := h
    have c0b : decide (0 ≤ wrap64 (i - wrap64 (13 * t))) = false := decide_eq_false c0
    have hc1 : W.cell? ⟨g, 2, none⟩ = some (.slice (some ⟨gm, 0, none⟩) m.length cm) := (blk_cell HW.out.blk 2).trans rfl
    clear hq c0
    obtain ⟨ji, hji⟩ : ∃ ji, wrap64 (Int.tdiv i 8) = ji := ⟨_, rfl⟩
    have hjiw : IntKind.i64.wrap (Int.tdiv i 8) = ji := (i64_w _).trans hji
    simp only [hji] at h0 h1
    simp only [hji]
    obtain ⟨hx, hf⟩ := HW.out.atm ji h0 h1
    have H2 := Aside0.mk h2
    obtain ⟨v, hv⟩ : ∃ v, rd m ji = v := ⟨_, rfl⟩
    rw [hv] at hx
    rw [hv]
    clear hv
    go_enter Try.func41, Try.ntmps41
    go_wp2_with fail
    go_region
    go_wp2
    go_end0
    refine ⟨rfl, ?_, ?_, ?_⟩
    · rw [shl1_u8]
      exact (HW.out.setm ji _).move (fun _ _ => rfl)
    · exact below_drew1 ((Below.refl _ W).setCell (p := ⟨gm, ji.toNat, none⟩) HW.out.gem _)
    · exact fun k _ _ h1 => Below.heap_setCell W ⟨gm, ji.toNat, none⟩ _ k h1
mutual
def bits_Ones.l0 : Nat → Int → List Int → Int → Int → Option (Int)
  | 0, _, _, _, _ => none
  | k + 1, x3, x6, x7, x8 => if x8 < x7 then (if 0 ≤ x8 then (if x8 < (x6.length : Int) then (bits_Ones.l1 k x3 (rd x6 x8) x6 x7 x8) else (none)) else (none)) else (some x3)
def bits_Ones.l1 : Nat → Int → Int → List Int → Int → Int → Option (Int)
  | 0, _, _, _, _, _ => none
  | k + 1, x3, x5, x6, x7, x8 => if x5 = 0 then (bits_Ones.l0 k x3 x6 x7 (wrap64 (x8 + 1))) else (bits_Ones.l1 k (wrap64 (x3 + 1)) (Go.bits .and .u8 x5 ((x5 - 1) % 256)) x6 x7 x8)
end
def bits_Ones.f (k : Nat) (l0 : List Int) : Option (Int) := bits_Ones.l0 k 0 l0 (l0.length : Int) 0
theorem bits_Ones.mono_l : ∀ k, (∀ y0 y1 y2 y3, LeO (bits_Ones.l0 k y0 y1 y2 y3) (bits_Ones.l0 (k + 1) y0 y1 y2 y3)) ∧ (∀ y0 y1 y2 y3 y4, LeO (bits_Ones.l1 k y0 y1 y2 y3 y4) (bits_Ones.l1 (k + 1) y0 y1 y2 y3 y4))
  | 0 => ⟨fun _ _ _ _ r h => by simp [bits_Ones.l0] at h, fun _ _ _ _ _ r h => by simp [bits_Ones.l1] at h⟩
  | k + 1 => by
    obtain ⟨ih0, ih1⟩ := bits_Ones.mono_l k
    refine ⟨?_, ?_⟩
    · intro y0 y1 y2 y3
      unfold bits_Ones.l0
      repeat' first
      | (with_reducible exact ih0 _ _ _ _)
      | (with_reducible exact ih1 _ _ _ _ _)
      | (with_reducible exact LeO.refl _)
      | (with_reducible exact LeO.none _)
      | (with_reducible refine LeO.ite ?_ ?_)
      | (with_reducible refine LeO.bind ?_ (fun _ => ?_))
      | exact ih0 _ _ _ _
      | exact ih1 _ _ _ _ _
      | exact LeO.none _
      | refine LeO.ite ?_ ?_
      | refine LeO.bind ?_ (fun _ => ?_)
    · intro y0 y1 y2 y3 y4
      unfold bits_Ones.l1
      repeat' first
      | (with_reducible exact ih0 _ _ _ _)
      | (with_reducible exact ih1 _ _ _ _ _)
      | (with_reducible exact LeO.refl _)
      | (with_reducible exact LeO.none _)
      | (with_reducible refine LeO.ite ?_ ?_)
      | (with_reducible refine LeO.bind ?_ (fun _ => ?_))
      | exact ih0 _ _ _ _
      | exact ih1 _ _ _ _ _
      | exact LeO.none _
      | refine LeO.ite ?_ ?_
      | refine LeO.bind ?_ (fun _ => ?_)
theorem bits_Ones.mono : ∀ a0 k, LeO (bits_Ones.f k a0) (bits_Ones.f (k + 1) a0) := by
  intro a0 k
  obtain ⟨ih0, ih1⟩ := bits_Ones.mono_l k
  unfold bits_Ones.f
  repeat' first
      | (with_reducible exact ih0 _ _ _ _)
      | (with_reducible exact ih1 _ _ _ _ _)
      | (with_reducible exact LeO.refl _)
      | (with_reducible exact LeO.none _)
      | (with_reducible refine LeO.ite ?_ ?_)
      | (with_reducible refine LeO.bind ?_ (fun _ => ?_))
      | exact ih0 _ _ _ _
      | exact ih1 _ _ _ _ _
      | exact LeO.none _
      | refine LeO.ite ?_ ?_
      | refine LeO.bind ?_ (fun _ => ?_)
set_option maxHeartbeats 8000000 in
set_option maxRecDepth 100000 in
theorem bits_Ones.calls (k : Nat) (A0 : Option Addr) (c0 : Nat) (l0 : List Int) (r : Int) (w : World) (hr0 : Kd.C (Kd.int .u8) w A0 l0.length l0) (hc0 : l0.length ≤ c0) (h : bits_Ones.f k l0 = some r) :
    Calls Try.prog 42 #[.slice A0 l0.length c0] w fun e w' => e = .returned (.int .i64 r) ∧ Drawn0 w w' := by
  have HR0 := Aside0.mk hr0
  have HC0 := Aside0.mk hc0
  clear hr0 hc0
  have H : (bits_Ones.l0 k 0 l0 (l0.length : Int) 0) = some r := h
  clear h
  have H' := Aside0.mk H
  clear H
  go_enter Try.func42, Try.ntmps42
  go_wp2
  go_loopg [3, 8] k (fun kq v3 v8 w' => ∃ (x3_1 : Int) (x8_1 : Int), v3 = .int .i64 x3_1 ∧ v8 = .int .i64 x8_1 ∧ Aside0 (bits_Ones.l0 kq x3_1 l0 (l0.length : Int) x8_1 = some r) ∧ Aside0 (kq ≤ k) ∧ Drawn0 w w')
  case atStart => exact ⟨(0), (0), (by first | rfl | (simp; done) | (simp [*]; done)), (by first | rfl | (simp; done) | (simp [*]; done)), H', ⟨Nat.le_refl _⟩, by repeat (first | exact Drawn0.refl _ | apply Drawn0.step)⟩
  case round =>
    clear H'
    obtain ⟨x3_1, x8_1, rfl, rfl, HA, HK1, ⟨m1, rfl⟩⟩ := hrel
    cases gk with
    | zero => exact absurd HA.out (by simp [bits_Ones.l0])
    | succ k1 =>
      have H := HA.out
      clear HA
      simp only [bits_Ones.l0] at H
      by_cases c2 : x8_1 < (l0.length : Int)
      · rw [if_pos c2] at H
        have c2b0 : decide (x8_1 < (l0.length : Int)) = true := decide_eq_true c2
        clear c2
        by_cases c3 : 0 ≤ x8_1
        · rw [if_pos c3] at H
          have c3b0 : decide (0 ≤ x8_1) = true := decide_eq_true c3
          clear c3
          by_cases c4 : x8_1 < (l0.length : Int)
          · rw [if_pos c4] at H
            have c4b0 : decide (x8_1 < (l0.length : Int)) = true := decide_eq_true c4
            clear c4
            have H' := Aside0.mk H
            clear H
            have p235 : 0 ≤ (x8_1 : Int) := of_decide_eq_true (by first | (with_reducible assumption) | assumption)
            have q235 : x8_1 < (l0.length : Int) := of_decide_eq_true (by first | (with_reducible assumption) | assumption)
            obtain ⟨ad235, e235, hx235_0⟩ := Kd.at_int HR0.out x8_1 p235 q235
            cases e235
            replace p235 := eq_true p235
            replace q235 := eq_true q235
            go_wp2
            go_loopg [3, 5] k1 (fun kq v3 v5 w' => ∃ (x3_2 : Int) (x5_2 : Int), v3 = .int .i64 x3_2 ∧ v5 = .int .u8 x5_2 ∧ Aside0 (bits_Ones.l1 kq x3_2 x5_2 l0 (l0.length : Int) x8_1 = some r) ∧ Aside0 (kq ≤ k1) ∧ Drawn0 w w')
            case atStart => exact ⟨(x3_1), (rd l0 x8_1), (by first | rfl | (simp; done) | (simp [*]; done)), (by first | rfl | (simp; done) | (simp [*]; done)), H', ⟨Nat.le_refl _⟩, by repeat (first | exact Drawn0.refl _ | apply Drawn0.step)⟩
            case round =>
              clear H'
              try clear c2
              try clear c2b0
              try clear p2
              try clear q2
              try clear hx2
              try clear c3
              try clear c3b0
              try clear c4
              try clear c4b0
              try clear hx235_0
              try clear p235
              try clear q235
              obtain ⟨x3_2, x5_2, rfl, rfl, HA, HK2, ⟨m2, rfl⟩⟩ := hrel
              cases gk with
              | zero => exact absurd HA.out (by simp [bits_Ones.l1])
              | succ k2 =>
                have H := HA.out
                clear HA
                simp only [bits_Ones.l1] at H
                by_cases c5 : x5_2 = 0
                · rw [if_pos c5] at H
                  have c5b0 : (x5_2 == 0) = true := beq_iff_eq.mpr c5
                  have c5b1 : (x5_2 != 0) = false := bne_eq_false_iff_eq.mpr c5
                  clear c5
                  have H' := Aside0.mk H
                  clear H
                  go_wp2
                  go_roundg k2
                  case measure => have := HK1.out; have := HK2.out; omega
                  case rel => exact ⟨(x3_2), (wrap64 (x8_1 + 1)), (by first | rfl | (simp; done) | (simp [*]; done)), (by first | rfl | (simp; done) | (simp [*]; done)), H', ⟨by have := HK1.out; have := HK2.out; omega⟩, by repeat (first | exact Drawn0.refl _ | apply Drawn0.step)⟩
                · rw [if_neg c5] at H
                  have c5b0 : (x5_2 == 0) = false := beq_eq_false_iff_ne.mpr c5
                  have c5b1 : (x5_2 != 0) = true := bne_iff_ne.mpr c5
                  have H' := Aside0.mk H
                  clear H
                  go_wp2
                  go_roundg k2
                  case measure => have := HK1.out; have := HK2.out; omega
                  case rel => exact ⟨(wrap64 (x3_2 + 1)), (Go.bits .and .u8 x5_2 ((x5_2 - 1) % 256)), (by first | rfl | (simp; done) | (simp [*]; done)), (by first | rfl | (simp; done) | (simp [*]; done)), H', ⟨by have := HK1.out; have := HK2.out; omega⟩, by repeat (first | exact Drawn0.refl _ | apply Drawn0.step)⟩
          · rw [if_neg c4] at H
            exact absurd H (by simp)
        · rw [if_neg c3] at H
          exact absurd H (by simp)
      · rw [if_neg c2] at H
        have c2b0 : decide (x8_1 < (l0.length : Int)) = false := decide_eq_false c2
        clear c2
        obtain rfl := Option.some.inj H
        go_wp2
        go_ret
        exact ⟨by first | rfl | (simp; done) | (simp [*]; done), by repeat (first | exact Drawn0.refl _ | apply Drawn0.step)⟩
def bch_nought.l0 : Nat → List Int → List Int → Int → Int → Option (List Int)
  | 0, _, _, _, _ => none
  | k + 1, x3, x9, x10, x11 => if x11 < x10 then (if 0 ≤ x11 then (if x11 < (x9.length : Int) then (if (rd x9 x11) = 0 then (bch_nought.l0 k x3 x9 x10 (wrap64 (x11 + 1))) else (if x11 < (x3.length : Int) then (bch_nought.l0 k (x3.set (x11 : Int).toNat 1) x9 x10 (wrap64 (x11 + 1))) else (none))) else (none)) else (none)) else (some x3)
def bch_nought.f (k : Nat) (l0 : List Int) : Option (List Int) := if 0 ≤ (l0.length : Int) then (if ((l0.length : Int) : Int).toNat ≤ 281474976710656 then (bch_nought.l0 k (List.replicate ((l0.length : Int) : Int).toNat 0) l0 (l0.length : Int) 0) else (none)) else (none)
theorem bch_nought.mono_l : ∀ k, (∀ y0 y1 y2 y3, LeO (bch_nought.l0 k y0 y1 y2 y3) (bch_nought.l0 (k + 1) y0 y1 y2 y3))
  | 0 => fun _ _ _ _ r h => by simp [bch_nought.l0] at h
  | k + 1 => by
    have ih0 := bch_nought.mono_l k
    · intro y0 y1 y2 y3
      unfold bch_nought.l0
      repeat' first
      | (with_reducible exact ih0 _ _ _ _)
      | (with_reducible exact LeO.refl _)
      | (with_reducible exact LeO.none _)
      | (with_reducible refine LeO.ite ?_ ?_)
      | (with_reducible refine LeO.bind ?_ (fun _ => ?_))
      | exact ih0 _ _ _ _
      | exact LeO.none _
      | refine LeO.ite ?_ ?_
      | refine LeO.bind ?_ (fun _ => ?_)
theorem bch_nought.mono : ∀ a0 k, LeO (bch_nought.f k a0) (bch_nought.f (k + 1) a0) := by
  intro a0 k
  have ih0 := bch_nought.mono_l k
  unfold bch_nought.f
  repeat' first
      | (with_reducible exact ih0 _ _ _ _)
      | (with_reducible exact LeO.refl _)
      | (with_reducible exact LeO.none _)
      | (with_reducible refine LeO.ite ?_ ?_)
      | (with_reducible refine LeO.bind ?_ (fun _ => ?_))
      | exact ih0 _ _ _ _
      | exact LeO.none _
      | refine LeO.ite ?_ ?_
      | refine LeO.bind ?_ (fun _ => ?_)
set_option maxHeartbeats 8000000 in
set_option maxRecDepth 100000 in
theorem bch_nought.calls (k : Nat) (A0 : Option Addr) (c0 : Nat) (l0 : List Int) (r : List Int) (w : World) (hr0 : Kd.C (Kd.int .i64) w A0 l0.length l0) (hc0 : l0.length ≤ c0) (h : bch_nought.f k l0 = some r) :
    Calls Try.prog 43 #[.slice A0 l0.length c0] w fun e w' => ∃ v0_ : Value, e = .returned (v0_) ∧ Kd.R (Kd.int .u8) 5 w' w.heap.size (fun _ => True) v0_ r ∧ Below w.heap.size w w' := by
  have HR0 := Aside0.mk hr0
  have HC0 := Aside0.mk hc0
  clear hr0 hc0
  have HB := Aside0.mk (Below.refl w.heap.size w)
  have H : (if 0 ≤ (l0.length : Int) then (if ((l0.length : Int) : Int).toNat ≤ 281474976710656 then (bch_nought.l0 k (List.replicate ((l0.length : Int) : Int).toNat 0) l0 (l0.length : Int) 0) else (none)) else (none)) = some r := h
  clear h
  by_cases c2 : 0 ≤ (l0.length : Int)
  · rw [if_pos c2] at H
    have c2b0 := eq_true c2
    have c2b1 : decide (0 ≤ (l0.length : Int)) = true := decide_eq_true c2
    clear c2
    by_cases c3 : ((l0.length : Int) : Int).toNat ≤ 281474976710656
    · rw [if_pos c3] at H
      have c3b0 := eq_true c3
      have c3b1 : decide (((l0.length : Int) : Int).toNat ≤ 281474976710656) = true := decide_eq_true c3
      clear c3
      obtain ⟨y236, hy236⟩ : ∃ y_ : List Int, y_ = (List.replicate ((l0.length : Int) : Int).toNat 0) := ⟨_, rfl⟩
      replace H : (bch_nought.l0 k y236 l0 (l0.length : Int) 0) = some r := by first | (rw [hy236]; with_reducible exact H) | (have H2_ := (Option.bind_some _ _).symm.trans H; rw [hy236]; with_reducible exact H2_) | (have H2_ := (Option.bind_some _ _).symm.trans H; with_reducible exact H2_) | with_reducible exact H | (rw [hy236]; exact H) | exact H
      have Ny236 := Aside0.mk hy236
      clear hy236
      have H' := Aside0.mk H
      clear H
      go_enter Try.func43, Try.ntmps43
      go_wp2_with (first | ((with_reducible refine gate_dst (N := 8) rfl ?_); refine Kd.R_make (Kd.int .u8) _ 5 rfl (N := 8) rfl 22 _ _ rfl (l0.length : Int) rfl rfl Try.underlying22 (.int .u8 0) 1 info5 rfl (by decide) (by omega) 0 (ok := fun _ => True) (okp := fun _ => True) rfl (fun _ hk => hk) trivial (of_decide_eq_true (by first | (with_reducible assumption) | assumption)) (Nat.le_trans (Nat.mul_le_mul_right _ (of_decide_eq_true (by first | (with_reducible assumption) | assumption) : (l0.length : Int).toNat ≤ 281474976710656)) (by omega)) (Below.refl _ _) (Nat.le_refl _) ?_; intro v237 w4 ho5 hb hg_ hnew_; clear hg_ hnew_; (first | rw [← Ny236.out] at ho5 | (simp only [Int.reduceToNat] at ho5; rw [← Ny236.out] at ho5)); have n0_ := Aside0.mk (Kd.R_lower ho5 (below_size (by repeat (first | (with_reducible first | exact HB.out | apply below_alloc | apply pw_below_drewN | apply below_drew1) | exact HB.out)))); have n1_ := Aside0.mk (below_step (by repeat (first | (with_reducible first | exact HB.out | apply below_alloc | apply pw_below_drewN | apply below_drew1) | exact HB.out)) hb); clear HB; have HO238 := n0_; have HB := n1_; clear n0_ n1_; clear hb ho5))
      go_loopg [11] k (fun kq v11 w' => ∃ (x3_1 : List Int) (x11_1 : Int), v11 = .int .i64 x11_1 ∧ Aside0 (bch_nought.l0 kq x3_1 l0 (l0.length : Int) x11_1 = some r) ∧ Aside0 (kq ≤ k) ∧ Aside0 (Kd.R (Kd.int .u8) 5 w' w.heap.size (fun _ => True) v237 x3_1) ∧ Aside0 (Below w.heap.size w w'))
      case atStart => exact ⟨(y236), (0), (by first | rfl | (simp; done) | (simp [*]; done)), H', ⟨Nat.le_refl _⟩, ⟨by (with_reducible repeat (first | apply Kd.R_alloc | apply Kd.R_drewN | apply Kd.R_drew)); exact HO238.out⟩, ⟨by repeat (first | (with_reducible first | exact HB.out | apply below_alloc | apply pw_below_drewN | apply below_drew1) | exact HB.out)⟩⟩
      case round =>
        clear H'
        try clear c2
        try clear c2b0
        try clear c2b1
        try clear p2
        try clear c3
        try clear c3b0
        try clear c3b1
        try clear c4
        obtain ⟨x3_1, x11_1, rfl, HA, HK1, HO_3, HB⟩ := hrel
        cases gk with
        | zero => exact absurd HA.out (by simp [bch_nought.l0])
        | succ k1 =>
          have H := HA.out
          clear HA
          simp only [bch_nought.l0] at H
          by_cases c6 : x11_1 < (l0.length : Int)
          · rw [if_pos c6] at H
            have c6b0 : decide (x11_1 < (l0.length : Int)) = true := decide_eq_true c6
            clear c6
            by_cases c7 : 0 ≤ x11_1
            · rw [if_pos c7] at H
              have c7b0 : decide (0 ≤ x11_1) = true := decide_eq_true c7
              clear c7
              by_cases c8 : x11_1 < (l0.length : Int)
              · rw [if_pos c8] at H
                have c8b0 : decide (x11_1 < (l0.length : Int)) = true := decide_eq_true c8
                clear c8
                by_cases c9 : (rd l0 x11_1) = 0
                · rw [if_pos c9] at H
                  have c9b0 : ((rd l0 x11_1) == 0) = true := beq_iff_eq.mpr c9
                  have c9b1 : ((rd l0 x11_1) != 0) = false := bne_eq_false_iff_eq.mpr c9
                  clear c9
                  have H' := Aside0.mk H
                  clear H
                  have p239 : 0 ≤ (x11_1 : Int) := of_decide_eq_true (by first | (with_reducible assumption) | assumption)
                  have q239 : x11_1 < (l0.length : Int) := of_decide_eq_true (by first | (with_reducible assumption) | assumption)
                  obtain ⟨ad239, e239, hx239_0⟩ := Kd.at_int HR0.out x11_1 p239 q239
                  cases e239
                  replace hx239_0 := (HB.out.cell (World.block_lt_of_cell? w _ hx239_0)).trans hx239_0
                  replace p239 := eq_true p239
                  replace q239 := eq_true q239
                  go_wp2
                  go_roundg k1
                  case measure => have := HK1.out; omega
                  case rel => exact ⟨(x3_1), (wrap64 (x11_1 + 1)), (by first | rfl | (simp; done) | (simp [*]; done)), H', ⟨by have := HK1.out; omega⟩, ⟨by (with_reducible repeat (first | apply Kd.R_alloc | apply Kd.R_drewN | apply Kd.R_drew)); exact HO_3.out⟩, ⟨by repeat (first | (with_reducible first | exact HB.out | apply below_alloc | apply pw_below_drewN | apply below_drew1) | exact HB.out)⟩⟩
                · rw [if_neg c9] at H
                  have c9b0 : ((rd l0 x11_1) == 0) = false := beq_eq_false_iff_ne.mpr c9
                  have c9b1 : ((rd l0 x11_1) != 0) = true := bne_iff_ne.mpr c9
                  by_cases c10 : x11_1 < (x3_1.length : Int)
                  · rw [if_pos c10] at H
                    have c10b0 : decide (x11_1 < (x3_1.length : Int)) = true := decide_eq_true c10
                    clear c10
                    obtain ⟨y240, hy240⟩ : ∃ y_ : List Int, y_ = (x3_1.set (x11_1 : Int).toNat 1) := ⟨_, rfl⟩
                    replace H : (bch_nought.l0 k1 y240 l0 (l0.length : Int) (wrap64 (x11_1 + 1))) = some r := by first | (rw [hy240]; with_reducible exact H) | (have H2_ := (Option.bind_some _ _).symm.trans H; rw [hy240]; with_reducible exact H2_) | (have H2_ := (Option.bind_some _ _).symm.trans H; with_reducible exact H2_) | with_reducible exact H | (rw [hy240]; exact H) | exact H
                    have Ny240 := Aside0.mk hy240
                    clear hy240
                    have H' := Aside0.mk H
                    clear H
                    have p239 : 0 ≤ (x11_1 : Int) := of_decide_eq_true (by first | (with_reducible assumption) | assumption)
                    have q239 : x11_1 < (l0.length : Int) := of_decide_eq_true (by first | (with_reducible assumption) | assumption)
                    obtain ⟨ad239, e239, hx239_0⟩ := Kd.at_int HR0.out x11_1 p239 q239
                    cases e239
                    replace hx239_0 := (HB.out.cell (World.block_lt_of_cell? w _ hx239_0)).trans hx239_0
                    replace p239 := eq_true p239
                    replace q239 := eq_true q239
                    have p11 : 0 ≤ (x11_1 : Int) := of_decide_eq_true (by first | (with_reducible assumption) | assumption)
                    have q11 : (x11_1 : Int) < ((x3_1.length : Int) : Int) := of_decide_eq_true (by first | (with_reducible assumption) | assumption)
                    obtain ⟨go11, co11, eo11, gb11, gl11, cl11, HG11⟩ := Kd.R_form HO_3.out (by omega)
                    (first | cases eo11 | (injection eo11 with ea_ en_ ec_; (first | subst ea_ | (injection ea_ with ea_; subst ea_)); subst ec_; clear en_))
                    have GB11 := Aside0.mk gb11
                    have GG11 := Aside0.mk HG11
                    clear gb11 gl11 HG11
                    obtain ⟨hx11_0, hf11_0⟩ := Kd.R_celln 0 HO_3.out (x11_1 : Int) p11 q11
                    replace p11 := eq_true p11
                    replace q11 := eq_true q11
                    have HP12 := Kd.R_putg HO_3.out (x11_1 : Int) 1
                    go_wp2_with (first | ((with_reducible refine gate_store (t := 5) (p := 20) rfl ?_); refine store_event (t := 5) (p := 20) (v := ?vo_w13) (w1 := (wr.setCell ⟨go11, (x11_1 : Int).toNat, none⟩ (.int .u8 1))) ?hg ?ho ?hn ?hr ?_; (case ho => rfl); (case hg => rfl); (case hn => rfl); (case hr => first | (go_simp; done) | (go_simp; rfl)); intro w13 hw; have hg : wr.grownBy w13 (some go11) := (by rw [hw]; exact HP12.2); have hp_ : Kd.R (Kd.int .u8) 5 w13 w.heap.size (fun _ => True) (.slice (some ⟨go11, 0, none⟩) x3_1.length co11) y240 := (by rw [hw, Ny240.out]; exact HP12.1); clear HP12; have n0_ := Aside0.mk (hp_); have n1_ := Aside0.mk ((by rw [hw]; exact below_set (HB.out) GB11.out : Below w.heap.size w w13)); clear HO_3; clear HB; have HO_3 := n0_; have HB := n1_; clear n0_ n1_; clear hg hw hp_))
                    go_roundg k1
                    case measure => have := HK1.out; omega
                    case rel => exact ⟨(y240), (wrap64 (x11_1 + 1)), (by first | rfl | (simp; done) | (simp [*]; done)), H', ⟨by have := HK1.out; omega⟩, ⟨by (with_reducible repeat (first | apply Kd.R_alloc | apply Kd.R_drewN | apply Kd.R_drew)); exact HO_3.out⟩, ⟨by repeat (first | (with_reducible first | exact HB.out | apply below_alloc | apply pw_below_drewN | apply below_drew1) | exact HB.out)⟩⟩
                  · rw [if_neg c10] at H
                    exact absurd H (by simp)
              · rw [if_neg c8] at H
                exact absurd H (by simp)
            · rw [if_neg c7] at H
              exact absurd H (by simp)
          · rw [if_neg c6] at H
            have c6b0 : decide (x11_1 < (l0.length : Int)) = false := decide_eq_false c6
            clear c6
            obtain rfl := Option.some.inj H
            go_wp2
            go_ret
            exact ⟨_, by first | rfl | (simp [errW_none, errW_some] <;> rfl) | (simp [*, errW_none, errW_some] <;> rfl), by (with_reducible repeat (first | apply Kd.R_alloc | apply Kd.R_drewN | apply Kd.R_drew)); exact HO_3.out, by repeat (first | (with_reducible first | exact HB.out | apply below_alloc | apply pw_below_drewN | apply below_drew1) | exact HB.out)⟩
    · rw [if_neg c3] at H
      exact absurd H (by simp)
  · rw [if_neg c2] at H
    exact absurd H (by simp)
def bch_Sums.f (k : Nat) (t : Int) (d m : List Int) : Option (List Int × Int) := (newW k t d m).bind fun o => match o with | none => some ([], 1) | some m' => (bch_word_sums.f k t d m').bind fun p => some (p.1, 0)
theorem newW_no {k : Nat} {t : Int} {d m : List Int} (h : newW k t d m = some none) : ∃ n e, bch_size.f t d = some (n, e) ∧ (e ≠ 0 ∨ (m.length : Int) ≠ n) := by
  unfold newW at h
  obtain ⟨⟨n, e⟩, hs, h⟩ := Option.bind_eq_some_iff.1 h
  refine ⟨n, e, hs, ?_⟩
  by_cases he : e = 0
  · rw [if_pos he] at h
    by_cases hn : (m.length : Int) = n
    · rw [if_pos hn] at h
      obtain ⟨d', _, h⟩ := Option.bind_eq_some_iff.1 h
      obtain ⟨m', _, h⟩ := Option.bind_eq_some_iff.1 h
      obtain ⟨r, _, h⟩ := Option.bind_eq_some_iff.1 h
      exact absurd h (by simp)
    · exact .inr hn
  · exact .inl he
theorem newW_yes {k : Nat} {t : Int} {d m r : List Int} (h : newW k t d m = some (some r)) : ∃ n, bch_size.f t d = some (n, 0) ∧ (m.length : Int) = n ∧ clone d = some d ∧ clone m = some m ∧ nwL k n m (wrap64 (13 * t)) = some r := by
  unfold newW at h
  obtain ⟨⟨n, e⟩, hs, h⟩ := Option.bind_eq_some_iff.1 h
  by_cases he : e = 0
  · rw [if_pos he] at h
    by_cases hn : (m.length : Int) = n
    · rw [if_pos hn] at h
      obtain ⟨d', hd, h⟩ := Option.bind_eq_some_iff.1 h
      obtain ⟨m', hm, h⟩ := Option.bind_eq_some_iff.1 h
      obtain ⟨r', hr, h9⟩ := Option.bind_eq_some_iff.1 h
      obtain rfl := (clone_is hd).1
      obtain rfl := (clone_is hm).1
      obtain rfl := Option.some.inj (Option.some.inj h9)
      have he' : e = 0 := he
      subst he'
      exact ⟨n, hs, hn, hd, hm, hr⟩
    · rw [if_neg hn] at h; exact absurd h (by simp)
  · rw [if_neg he] at h; exact absurd h (by simp)
theorem newW_call_no {k : Nat} {t : Int} {d m : List Int} (h : newW k t d m = some none) (A1 : Option Addr) (c1 : Nat) (A2 : Option Addr) (c2 : Nat) (w : World) (hr1 : Kd.C (Kd.int .u8) w A1 d.length d) (hc1 : d.length ≤ c1) :
    Calls Try.prog 35 #[.int .i64 t, .slice A1 d.length c1, .slice A2 m.length c2] w fun e' w' => e' = .returned (.tuple #[.pointer none, .int .i64 1]) ∧ Below w.heap.size w w' := by
  obtain ⟨n, e, hs, hne⟩ := newW_no h
  exact nw_no t A1 c1 d A2 c2 m n e w hr1 hc1 hs hne
theorem newW_call_yes {k : Nat} {t : Int} {d m r : List Int} (h : newW k t d m = some (some r)) (A1 : Option Addr) (c1 : Nat) (A2 : Option Addr) (c2 : Nat) (w : World) (hr1 : Kd.C (Kd.int .u8) w A1 d.length d) (hc1 : d.length ≤ c1) (hr2 : Kd.C (Kd.int .u8) w A2 m.length m) (hc2 : m.length ≤ c2) :
    Calls Try.prog 35 #[.int .i64 t, .slice A1 d.length c1, .slice A2 m.length c2] w fun e' w' => ∃ g gd cd gm cm : Nat, e' = .returned (.tuple #[.pointer (some ⟨g, 0, none⟩), .int .i64 0]) ∧ WSt w' w.heap.size g t d r gd cd gm cm ∧ w.heap.size ≤ g ∧ Below w.heap.size w w' := by
  obtain ⟨n, hs, hn, hd, hm, hL⟩ := newW_yes h
  exact nw_yes k t A1 c1 d A2 c2 m n r w hr1 hc1 hr2 hc2 hs hn hd hm hL
/-- The sums of a word, told of the word as it lies. -/
theorem sums_calls {k : Nat} {t : Int} {d m s : List Int} {t1 : Int} (h : bch_word_sums.f k t d m = some (s, t1)) (W : World) (base g gd cd gm cm : Nat) (hW : WSt W base g t d m gd cd gm cm) (hg : base ≤ g) :
    Calls Try.prog 37 #[.pointer (some ⟨g, 0, none⟩)] W fun e w' => ∃ A c, e = .returned (.slice A s.length c) ∧ s.length ≤ c ∧ Kd.C (Kd.int .i64) w' A s.length s ∧ Kd.R (Kd.int .i64) 3 w' W.heap.size (fun _ => True) (.slice A s.length c) s ∧ WSt w' base g t1 d m gd cd gm cm ∧ Below base W w' := by
  have hlt := blk_lt hW.blk
  refine (bch_word_sums.callsT (some ⟨gd, 0, none⟩) cd (some ⟨gm, 0, none⟩) cm k g t d m s t1 (cutW W g) W hW.is (cutW_below (Nat.le_of_lt hlt)) h).mono ?_
  rintro e w' ⟨v, rfl, hR, hI, hB, hK⟩
  obtain ⟨A, c, rfl, hc, hC⟩ := Kd.R_reads hR
  refine ⟨A, c, rfl, hc, hC, hR, hW.back hI hK, ⟨hB.os, hB.tape, hB.output, hK.1, fun i hi => hK.2 i (by omega) (by omega) (by simp)⟩⟩
def dec1 : Nat → List Int → Int → Int → Int → Option Int
  | 0, _, _, _, _ => none
  | k + 1, c, x, v, j => if j ≥ 0 then (if j < (c.length : Int) then ((bch_mul.f k v x).bind fun t => dec1 k c x (Go.bits .xor .i64 t (rd c j)) (wrap64 (j - 1))) else none) else some v
def dec0 : Nat → List Int → Int → Int → List Int → List Int → Int → Int → Option (List Int × List Int × Int)
  | 0, _, _, _, _, _, _, _ => none
  | k + 1, c, len, t, d, m, n, i => if i < len then ((gf_Exp.f k (wrap64 (-i))).bind fun x => (dec1 k c x 0 (wrap64 ((c.length : Int) - 1))).bind fun v => if v = 0 then ((flipL t d m i).bind fun q => dec0 k c len t q.1 q.2 (wrap64 (n + 1)) (wrap64 (i + 1))) else dec0 k c len t d m n (wrap64 (i + 1))) else some (d, m, n)
theorem dec1_mono : ∀ k c x v j, LeO (dec1 k c x v j) (dec1 (k + 1) c x v j)
  | 0, _, _, _, _ => LeO.none _
  | k + 1, c, x, v, j => by
    unfold dec1
    exact LeO.ite (LeO.ite (LeO.bind (bch_mul.mono _ _ _) (fun t => dec1_mono k _ _ _ _)) (LeO.refl _)) (LeO.refl _)
theorem dec0_mono : ∀ k c len t d m n i, LeO (dec0 k c len t d m n i) (dec0 (k + 1) c len t d m n i)
  | 0, _, _, _, _, _, _, _ => LeO.none _
  | k + 1, c, len, t, d, m, n, i => by
    unfold dec0
    exact LeO.ite (LeO.bind (gf_Exp.mono _ _) (fun x => LeO.bind (dec1_mono k _ _ _ _) (fun v => LeO.ite (LeO.bind (LeO.refl _) (fun q => dec0_mono k _ _ _ _ _ _ _)) (dec0_mono k _ _ _ _ _ _ _)))) (LeO.refl _)
/-- What Decode comes to behind newWord. -/
def decF (k : Nat) (t : Int) (d m' : List Int) : Option (List Int × List Int × Int × Int) := (bch_word_sums.f k t d m').bind fun p => if p.2 = t then ((bch_locator.f k p.1).bind fun c => if wrap64 ((c.length : Int) - 1) > t then some ([], [], 0, 50) else ((bch_word_len.f t d m').bind fun q => if q.2 = t then ((dec0 k c q.1 t d m' 0 0).bind fun z => if z.2.2 = wrap64 ((c.length : Int) - 1) then ((bch_word_sums.f k t z.1 z.2.1).bind fun p2 => if p2.2 = t then ((bch_nought.f k p2.1).bind fun b => (bits_Ones.f k b).bind fun o => if o > 0 then some ([], [], 0, 50) else some (z.1, z.2.1, z.2.2, 0)) else none) else some ([], [], 0, 50)) else none)) else none
def bch_Decode.f (k : Nat) (t : Int) (d m : List Int) : Option (List Int × List Int × Int × Int) := (newW k t d m).bind fun o => match o with | none => some ([], [], 0, 1) | some m' => decF k t d m'
theorem decF_mono : ∀ k t d m, LeO (decF k t d m) (decF (k + 1) t d m) := by
  intro k t d m
  unfold decF
  exact LeO.bind (bch_word_sums.mono _ _ _ _) (fun p => LeO.ite (LeO.bind (bch_locator.mono _ _) (fun c => LeO.ite (LeO.refl _) (LeO.bind (LeO.refl _) (fun q => LeO.ite (LeO.bind (dec0_mono _ _ _ _ _ _ _ _) (fun z => LeO.ite (LeO.bind (bch_word_sums.mono _ _ _ _) (fun p2 => LeO.ite (LeO.bind (bch_nought.mono _ _) (fun b => LeO.bind (bits_Ones.mono _ _) (fun o => LeO.refl _))) (LeO.refl _))) (LeO.refl _))) (LeO.refl _))))) (LeO.refl _))
theorem bch_Decode.mono : ∀ t d m k, LeO (bch_Decode.f k t d m) (bch_Decode.f (k + 1) t d m) := by
  intro t d m k
  unfold bch_Decode.f
  refine LeO.bind (newW_mono _ _ _ _) (fun o => ?_)
  cases o with
  | none => exact LeO.refl _
  | some m' => exact decF_mono _ _ _ _
theorem loc_calls {k : Nat} {s c : List Int} (h : bch_locator.f k s = some c) (A : Option Addr) (cc : Nat) (W : World) (hr : Kd.C (Kd.int .i64) W A s.length s) (hc : s.length ≤ cc) :
    Calls Try.prog 36 #[.slice A s.length cc] W fun e w' => ∃ A' c', e = .returned (.slice A' c.length c') ∧ c.length ≤ c' ∧ Kd.C (Kd.int .i64) w' A' c.length c ∧ Kd.R (Kd.int .i64) 3 w' W.heap.size (fun _ => True) (.slice A' c.length c') c ∧ Below W.heap.size W w' := by
  refine (bch_locator.calls k A cc s c W hr hc h).mono ?_
  rintro e w' ⟨v, rfl, hR, hB⟩
  obtain ⟨A', c', rfl, hc', hC⟩ := Kd.R_reads hR
  exact ⟨A', c', rfl, hc', hC, hR, hB⟩
/-- A row of the call's own, and a word: both, and what lies below, through whatever runs. -/
structure DSt (w0 W : World) (A : Option Addr) (cc : Nat) (c : List Int) (g : Nat) (t : Int) (d m : List Int) (gd cd gm cm : Nat) : Prop where
  ws : WSt W w0.heap.size g t d m gd cd gm cm
  row : Kd.R (Kd.int .i64) 3 W w0.heap.size (fun k => k ≠ g ∧ k ≠ gd ∧ k ≠ gm) (.slice A c.length cc) c
  below : Below w0.heap.size w0 W
  ge : w0.heap.size ≤ g
theorem DSt.move {w0 W W1 : World} {A : Option Addr} {cc : Nat} {c : List Int} {g : Nat} {t : Int} {d m : List Int} {gd cd gm cm : Nat} (h : DSt w0 W A cc c g t d m gd cd gm cm) (hb : Below W.heap.size W W1) : DSt w0 W1 A cc c g t d m gd cd gm cm :=
  ⟨h.ws.below hb, Kd.R_below h.row hb, below_step h.below hb, h.ge⟩
theorem DSt.len_c {w0 W : World} {A : Option Addr} {cc : Nat} {c : List Int} {g : Nat} {t : Int} {d m : List Int} {gd cd gm cm : Nat} (h : DSt w0 W A cc c g t d m gd cd gm cm) : c.length ≤ 9223372036854775807 ∧ c.length ≤ cc := ⟨(Kd.R_reads' h.row).2.2.2.1, (Kd.R_reads' h.row).2.1⟩
theorem dflip_calls {w0 W : World} {A : Option Addr} {cc : Nat} {c : List Int} {g : Nat} {t : Int} {d m : List Int} {gd cd gm cm : Nat} (h : DSt w0 W A cc c g t d m gd cd gm cm) {i : Int} {q : List Int × List Int} (hf : flipL t d m i = some q) :
    Calls Try.prog 41 #[.pointer (some ⟨g, 0, none⟩), .int .i64 i] W fun e w' => e = .returned (.tuple #[]) ∧ DSt w0 w' A cc c g t q.1 q.2 gd cd gm cm := by
  obtain ⟨d', m'⟩ := q
  refine (flip_keeps W w0.heap.size g t d m gd cd gm cm i d' m' h.ws hf).mono ?_
  rintro e w' ⟨rfl, hst, hb, hk⟩
  exact ⟨rfl, hst, Kd.R_step h.row (fun k ho hlt => hk k hlt ho.2.1 ho.2.2), h.below.trans hb, h.ge⟩
theorem nou_calls {k : Nat} {s c : List Int} (h : bch_nought.f k s = some c) (A : Option Addr) (cc : Nat) (W : World) (hr : Kd.C (Kd.int .i64) W A s.length s) (hc : s.length ≤ cc) :
    Calls Try.prog 43 #[.slice A s.length cc] W fun e w' => ∃ A' c', e = .returned (.slice A' c.length c') ∧ c.length ≤ c' ∧ Kd.C (Kd.int .u8) w' A' c.length c ∧ Below W.heap.size W w' := by
  refine (bch_nought.calls k A cc s c W hr hc h).mono ?_
  rintro e w' ⟨v, rfl, hR, hB⟩
  obtain ⟨A', c', rfl, hc', hC⟩ := Kd.R_reads hR
  exact ⟨A', c', rfl, hc', hC, hB⟩
theorem results_tmp4 {fn : Func} {t u v x : Tmp} (h : fn.results = #[.tmp t, .tmp u, .tmp v, .tmp x]) (tmps : Array Value) (P : Program) (w : World) :
    (results fn tmps).run P w = .ok (.tuple #[tmps.getD t undef, tmps.getD u undef, tmps.getD v undef, tmps.getD x undef]) w := by
  simp [results, h]
theorem dst_start {w0 W W1 : World} {A : Option Addr} {cc : Nat} {c : List Int} {g : Nat} {t : Int} {d m : List Int} {gd cd gm cm : Nat} (h : WSt W w0.heap.size g t d m gd cd gm cm) (hR : Kd.R (Kd.int .i64) 3 W1 W.heap.size (fun _ => True) (.slice A c.length cc) c) (hb : Below w0.heap.size w0 W) (hb1 : Below W.heap.size W W1) (hg : w0.heap.size ≤ g) : DSt w0 W1 A cc c g t d m gd cd gm cm :=
  have hlt := blk_lt h.blk
  have h1 := h.ltd
  have h2 := h.ltm
  ⟨h.below hb1, Kd.R_lower (Kd.R_mono (Kd.R_bound hR) (fun k hk => ⟨by have := hk.2.1; omega, by have := hk.2.1; omega, by have := hk.2.1; omega⟩)) hb.size, below_step hb hb1, hg⟩
theorem dlen_calls {w0 W : World} {A : Option Addr} {cc : Nat} {c : List Int} {g : Nat} {t : Int} {d m : List Int} {gd cd gm cm : Nat} (h : DSt w0 W A cc c g t d m gd cd gm cm) {s t1 : Int} (hl : bch_word_len.f t d m = some (s, t1)) :
    Calls Try.prog 38 #[.pointer (some ⟨g, 0, none⟩)] W fun e w' => e = .returned (.int .i64 s) ∧ DSt w0 w' A cc c g t1 d m gd cd gm cm := by
  have hlt := blk_lt h.ws.blk
  refine (bch_word_len.callsT (some ⟨gd, 0, none⟩) cd (some ⟨gm, 0, none⟩) cm g t d m s t1 (cutW W g) W h.ws.is (cutW_below (Nat.le_of_lt hlt)) hl).mono ?_
  rintro e w' ⟨rfl, hI, hB, hK⟩
  exact ⟨rfl, h.ws.back hI hK, Kd.R_step h.row (fun k ho hlt => hK.2 k hlt ho.1 (by simp)), h.below.trans ⟨hB.os, hB.tape, hB.output, hK.1, fun i hi => hK.2 i (by have := h.below.size; omega) (by have := h.ge; omega) (by simp)⟩, h.ge⟩
theorem dsums_calls {w0 W : World} {A : Option Addr} {cc : Nat} {c : List Int} {g : Nat} {t : Int} {d m : List Int} {gd cd gm cm : Nat} (h : DSt w0 W A cc c g t d m gd cd gm cm) {k : Nat} {s : List Int} {t1 : Int} (hl : bch_word_sums.f k t d m = some (s, t1)) :
    Calls Try.prog 37 #[.pointer (some ⟨g, 0, none⟩)] W fun e w' => ∃ A' c', e = .returned (.slice A' s.length c') ∧ s.length ≤ c' ∧ Kd.C (Kd.int .i64) w' A' s.length s ∧ DSt w0 w' A cc c g t1 d m gd cd gm cm := by
  have hlt := blk_lt h.ws.blk
  refine (bch_word_sums.callsT (some ⟨gd, 0, none⟩) cd (some ⟨gm, 0, none⟩) cm k g t d m s t1 (cutW W g) W h.ws.is (cutW_below (Nat.le_of_lt hlt)) hl).mono ?_
  rintro e w' ⟨v, rfl, hR, hI, hB, hK⟩
  obtain ⟨A', c', rfl, hc', hC⟩ := Kd.R_reads hR
  exact ⟨A', c', rfl, hc', hC, h.ws.back hI hK, Kd.R_step h.row (fun k ho hlt => hK.2 k hlt ho.1 (by simp)), h.below.trans ⟨hB.os, hB.tape, hB.output, hK.1, fun i hi => hK.2 i (by have := h.below.size; omega) (by have := h.ge; omega) (by simp)⟩, h.ge⟩
set_option maxHeartbeats 4000000 in
set_option maxRecDepth 100000 in
theorem bch_Decode.calls (k : Nat) (a0 : Int) (A1 : Option Addr) (c1 : Nat) (l1 : List Int) (A2 : Option Addr) (c2 : Nat) (l2 : List Int) (r1 r2 : List Int) (r3 r4 : Int) (w : World) (hr1 : Kd.C (Kd.int .u8) w A1 l1.length l1) (hc1 : l1.length ≤ c1) (hr2 : Kd.C (Kd.int .u8) w A2 l2.length l2) (hc2 : l2.length ≤ c2) (h : bch_Decode.f k a0 l1 l2 = some (r1, r2, r3, r4)) :
    Calls Try.prog 15 #[.int .i64 a0, .slice A1 l1.length c1, .slice A2 l2.length c2] w fun e w' => ∃ v0_ v1_ : Value, e = .returned (.tuple #[v0_, v1_, .int .i64 r3, .int .i64 r4]) ∧ Kd.R (Kd.int .u8) 5 w' w.heap.size (fun k_ => some k_ ≠ (v1_ : Value).ownBlock) v0_ r1 ∧ Kd.R (Kd.int .u8) 5 w' w.heap.size (fun k_ => some k_ ≠ (v0_ : Value).ownBlock) v1_ r2 ∧ Below w.heap.size w w' := by
  unfold bch_Decode.f at h
  have HR1 := Aside0.mk hr1
  have HR2 := Aside0.mk hr2
  clear hr1 hr2
  obtain ⟨o, hw, h⟩ := Option.bind_eq_some_iff.1 h
  have HW := Aside0.mk hw
  clear hw
  cases o with
  | none =>
    simp only [Option.some.injEq, Prod.mk.injEq] at h
    obtain ⟨rfl, rfl, rfl, rfl⟩ := h
    go_enter Try.func15, Try.ntmps15
    go_wp2_with (first | (go_at_call 35; refine (newW_call_no HW.out A1 c1 A2 c2 _ HR1.out hc1).mono ?_; rintro e' w1 ⟨rfl, hb⟩; have HB := Aside0.mk hb; clear hb))
    refine bodyPost_ret (results_tmp4 rfl _ _ _) rfl ?_
    exact ⟨_, _, rfl, Kd.R_nil _ _ _ _ _, Kd.R_nil _ _ _ _ _, HB.out⟩
  | some m' =>
    simp only [decF] at h
    obtain ⟨⟨s, t1⟩, hs, h⟩ := Option.bind_eq_some_iff.1 h
    by_cases ht1 : t1 = a0
    · rw [if_pos ht1] at h
      subst ht1
      obtain ⟨c, hcl, h⟩ := Option.bind_eq_some_iff.1 h
      have HS := Aside0.mk hs
      have HC := Aside0.mk hcl
      clear hs hcl
      obtain ⟨lc, hlc⟩ : ∃ lc, wrap64 ((c.length : Int) - 1) = lc := ⟨_, rfl⟩
      rw [hlc] at h
      have hlcw : IntKind.i64.wrap ((c.length : Int) - 1) = lc := (i64_w _).trans hlc
      by_cases hgt : lc > t1
      · rw [if_pos hgt] at h
        simp only [Option.some.injEq, Prod.mk.injEq] at h
        obtain ⟨rfl, rfl, rfl, rfl⟩ := h
        have hgtb : decide (t1 < lc) = true := decide_eq_true hgt
        clear hgt
        go_enter Try.func15, Try.ntmps15
        go_wp2_with (first | (go_at_call 35; refine (newW_call_yes HW.out A1 c1 A2 c2 _ HR1.out hc1 HR2.out hc2).mono ?_; rintro e' w1 ⟨g, gd, cd, gm, cm, rfl, hst, hg, hb⟩; have HST := Aside0.mk hst; have HG := Aside0.mk hg; have HB := Aside0.mk hb; clear hst hg hb) | (go_at_call 37; refine (sums_calls HS.out _ _ g gd cd gm cm HST.out HG.out).mono ?_; rintro e' w2 ⟨A, cs, rfl, hc, hC, hR, hst2, hb2⟩; have HB2 := Aside0.mk (HB.out.trans hb2); have HC3 := Aside0.mk hc; have HCC := Aside0.mk hC; clear hc hC hR hst2 hb2 HB) | (go_at_call 36; refine (loc_calls HC.out A cs _ HCC.out HC3.out).mono ?_; rintro e' w3 ⟨A', c', rfl, hc', hC', hR', hb3⟩; have HB3 := Aside0.mk (below_step HB2.out hb3); clear hc' hC' hR' hb3))
        refine bodyPost_ret (results_tmp4 rfl _ _ _) rfl ?_
        exact ⟨_, _, rfl, Kd.R_nil _ _ _ _ _, Kd.R_nil _ _ _ _ _, HB3.out⟩
      · rw [if_neg hgt] at h
        have hgtb : decide (t1 < lc) = false := decide_eq_false hgt
        clear hgt
        obtain ⟨⟨len, t2⟩, hlen, h⟩ := Option.bind_eq_some_iff.1 h
        by_cases ht2 : t2 = t1
        · rw [if_pos ht2] at h
          subst ht2
          obtain ⟨⟨d2, m2, n⟩, hz, h⟩ := Option.bind_eq_some_iff.1 h
          have HLEN := Aside0.mk hlen
          have HZ := Aside0.mk hz
          have H := Aside0.mk h
          clear hlen hz h
          go_enter Try.func15, Try.ntmps15
          go_wp2_with (first | (go_at_call 35; refine (newW_call_yes HW.out A1 c1 A2 c2 _ HR1.out hc1 HR2.out hc2).mono ?_; rintro e' w1 ⟨g, gd, cd, gm, cm, rfl, hst, hg, hb⟩; have HST := Aside0.mk hst; have HG := Aside0.mk hg; have HB := Aside0.mk hb; clear hst hg hb) | (go_at_call 37; refine (sums_calls HS.out _ _ g gd cd gm cm HST.out HG.out).mono ?_; rintro e' w2 ⟨A, cs, rfl, hc, hC, hR, hst2, hb2⟩; have HB2 := Aside0.mk (HB.out.trans hb2); have HC3 := Aside0.mk hc; have HCC := Aside0.mk hC; have HST2 := Aside0.mk hst2; clear hc hC hR hst2 hb2 HB HST) | (go_at_call 36; refine (loc_calls HC.out A cs _ HCC.out HC3.out).mono ?_; rintro e' w3 ⟨A', c', rfl, hc', hC', hR', hb3⟩; have HD := Aside0.mk (dst_start HST2.out hR' HB2.out hb3 HG.out); clear hc' hC' hR' hb3 HST2 HB2 HCC HC3) | (go_at_call 38; refine (dlen_calls HD.out HLEN.out).mono ?_; rintro e' w4 ⟨rfl, hd4⟩; have HD4 := Aside0.mk hd4; clear hd4 HD))
          go_loopg [13, 38] k (fun kq v13 v38 wr => ∃ (nq i : Int) (dq mq : List Int), v13 = .int .i64 nq ∧ v38 = .int .i64 i ∧ Aside0 (dec0 kq c len t2 dq mq nq i = some (d2, m2, n)) ∧ Aside0 (kq ≤ k) ∧ Aside0 (DSt w wr A' c' c g t2 dq mq gd cd gm cm))
          case atStart => exact ⟨0, 0, _, _, rfl, rfl, HZ, ⟨Nat.le_refl _⟩, HD4⟩
          case round =>
            clear HZ HD4
            obtain ⟨nq, i, dq, mq, rfl, rfl, HZ, HK, HD⟩ := hrel
            cases gk with
            | zero => exact absurd HZ.out (by simp [dec0])
            | succ k1 =>
              have hz := HZ.out
              rw [dec0] at hz
              clear HZ
              have hcm := HD.out.len_c.1
              by_cases hi : i < len
              · rw [if_pos hi] at hz
                have hib : decide (i < len) = true := decide_eq_true hi
                clear hi
                obtain ⟨x, hx, hz⟩ := Option.bind_eq_some_iff.1 hz
                obtain ⟨vr, hv, hz⟩ := Option.bind_eq_some_iff.1 hz
                rw [hlc] at hv
                have HX := Aside0.mk hx
                have HV := Aside0.mk hv
                have HZ := Aside0.mk hz
                clear hx hv hz
                go_wp2_with (first | (go_at_call 39; (with_reducible refine (gf_Exp.calls k1 (wrap64 (-i)) x _ HX.out).mono ?_); rintro e' w' ⟨rfl, ⟨nd, rfl⟩⟩))
                go_loopg [16, 17] k1 (fun kq v16 v17 wi => ∃ (v j : Int), v16 = .int .i64 v ∧ v17 = .int .i64 j ∧ Aside0 (dec1 kq c x v j = some vr) ∧ Aside0 (kq ≤ k1) ∧ Aside0 (DSt w wi A' c' c g t2 dq mq gd cd gm cm))
                case atStart => exact ⟨0, lc, rfl, rfl, HV, ⟨Nat.le_refl _⟩, ⟨HD.out.move (pw_below_drewN (Below.refl _ _) _)⟩⟩
                case round =>
                  clear HV HD
                  obtain ⟨v, j, rfl, rfl, HV, HK2, HD⟩ := hrel
                  cases gk with
                  | zero => exact absurd HV.out (by simp [dec1])
                  | succ k2 =>
                    have hv := HV.out
                    rw [dec1] at hv
                    clear HV
                    by_cases hj : j ≥ 0
                    · rw [if_pos hj] at hv
                      have hjb : decide (0 ≤ j) = true := decide_eq_true hj
                      by_cases hj2 : j < (c.length : Int)
                      · rw [if_pos hj2] at hv
                        obtain ⟨q, hq, hv⟩ := Option.bind_eq_some_iff.1 hv
                        have HQ := Aside0.mk hq
                        have HV := Aside0.mk hv
                        obtain ⟨ad, rfl, hcell⟩ := Kd.at_int (Kd.R_reads' HD.out.row).2.2 j hj hj2
                        clear hq hv
                        obtain ⟨cj, hcj⟩ : ∃ cj, rd c j = cj := ⟨_, rfl⟩
                        rw [hcj] at hcell
                        have HCJ := Aside0.mk hcj
                        clear hcj
                        go_wp2_with fail
                        go_region_with (go_at_call 40; (with_reducible refine (bch_mul.calls k2 v x q _ HQ.out).mono ?_); rintro e' w' ⟨rfl, ⟨nd2, rfl⟩⟩)
                        all_goals
                          go_wp2
                          go_roundg k2
                          case measure => have := HK2.out; omega
                          case rel =>
                            rw [← HCJ.out]
                            refine ⟨_, _, rfl, rfl, by first | exact HV | exact ⟨by have h9 := HV.out; rwa [show wrap64 (j - 1) = j - 1 from by unfold wrap64; omega] at h9⟩, ⟨by have := HK2.out; omega⟩, ⟨?_⟩⟩
                            exact HD.out.move (pw_below_drewN (Below.refl _ _) _)
                      · rw [if_neg hj2] at hv; exact absurd hv (by simp)
                    · rw [if_neg hj] at hv
                      have hjb : decide (0 ≤ j) = false := decide_eq_false hj
                      obtain rfl := Option.some.inj hv
                      clear hj hv
                      have hz := HZ.out
                      clear HZ
                      by_cases hv0 : v = 0
                      · rw [if_pos hv0] at hz
                        have hvb : (v == 0) = true := beq_iff_eq.2 hv0
                        clear hv0
                        obtain ⟨q, hq, hz⟩ := Option.bind_eq_some_iff.1 hz
                        have HQ := Aside0.mk hq
                        have HZ := Aside0.mk hz
                        clear hq hz
                        go_wp2_with (first | (go_at_call 41; refine (dflip_calls HD.out HQ.out).mono ?_; rintro e' w5 ⟨rfl, hd5⟩; have HD5 := Aside0.mk hd5; clear hd5 HD))
                        go_roundg k1
                        case measure => have := HK.out; have := HK2.out; omega
                        case rel => exact ⟨_, _, _, _, rfl, rfl, HZ, ⟨by have := HK.out; omega⟩, HD5⟩
                      · rw [if_neg hv0] at hz
                        have hvb : (v == 0) = false := beq_eq_false_iff_ne.2 hv0
                        have HZ := Aside0.mk hz
                        clear hv0 hz
                        go_wp2
                        go_roundg k1
                        case measure => have := HK.out; have := HK2.out; omega
                        case rel => exact ⟨_, _, _, _, rfl, rfl, HZ, ⟨by have := HK.out; omega⟩, HD⟩
              · rw [if_neg hi] at hz
                have hib : decide (i < len) = false := decide_eq_false hi
                simp only [Option.some.injEq, Prod.mk.injEq] at hz
                obtain ⟨rfl, rfl, rfl⟩ := hz
                clear hi
                have h5 := H.out
                clear H
                by_cases hnl : nq = lc
                · rw [if_pos hnl] at h5
                  have hn1 : (nq == lc) = true := beq_iff_eq.2 hnl
                  have hn2 : (nq != lc) = false := bne_eq_false_iff_eq.2 hnl
                  clear hnl
                  obtain ⟨⟨s2, t3⟩, hs2, h6⟩ := Option.bind_eq_some_iff.1 h5
                  by_cases ht3 : t3 = t2
                  · rw [if_pos ht3] at h6
                    obtain rfl : t3 = t2 := ht3
                    obtain ⟨b, hb, h7⟩ := Option.bind_eq_some_iff.1 h6
                    obtain ⟨o, ho, h8⟩ := Option.bind_eq_some_iff.1 h7
                    have HS2 := Aside0.mk hs2
                    have HBB := Aside0.mk hb
                    have HO := Aside0.mk ho
                    clear hs2 hb ho
                    by_cases ho0 : o > 0
                    · rw [if_pos ho0] at h8
                      have hob : decide (0 < o) = true := decide_eq_true ho0
                      simp only [Option.some.injEq, Prod.mk.injEq] at h8
                      obtain ⟨rfl, rfl, rfl, rfl⟩ := h8
                      clear ho0
                      go_wp2_with (first | (go_at_call 37; refine (dsums_calls HD.out HS2.out).mono ?_; rintro e' w6 ⟨A6, c6, rfl, hc6, hC6, hd6⟩; have HC6 := Aside0.mk hC6; have HL6 := Aside0.mk hc6; have HD6 := Aside0.mk hd6; clear hc6 hC6 hd6 HD) | (go_at_call 43; refine (nou_calls HBB.out A6 c6 _ HC6.out HL6.out).mono ?_; rintro e' w7 ⟨A7, c7, rfl, hc7, hC7, hb7⟩; have HC7 := Aside0.mk hC7; have HL7 := Aside0.mk hc7; have HD7 := Aside0.mk (HD6.out.move hb7); clear hc7 hC7 hb7 HD6) | (go_at_call 42; refine (bits_Ones.calls k A7 c7 b o _ HC7.out HL7.out HO.out).mono ?_; rintro e' w8 ⟨rfl, ⟨nd8, rfl⟩⟩))
                      refine bodyPost_ret (results_tmp4 rfl _ _ _) rfl ?_
                      exact ⟨_, _, rfl, Kd.R_nil _ _ _ _ _, Kd.R_nil _ _ _ _ _, pw_below_drewN HD7.out.below _⟩
                    · rw [if_neg ho0] at h8
                      have hob : decide (0 < o) = false := decide_eq_false ho0
                      simp only [Option.some.injEq, Prod.mk.injEq] at h8
                      obtain ⟨rfl, rfl, rfl, rfl⟩ := h8
                      clear ho0
                      go_wp2_with (first | (go_at_call 37; refine (dsums_calls HD.out HS2.out).mono ?_; rintro e' w6 ⟨A6, c6, rfl, hc6, hC6, hd6⟩; have HC6 := Aside0.mk hC6; have HL6 := Aside0.mk hc6; have HD6 := Aside0.mk hd6; clear hc6 hC6 hd6 HD) | (go_at_call 43; refine (nou_calls HBB.out A6 c6 _ HC6.out HL6.out).mono ?_; rintro e' w7 ⟨A7, c7, rfl, hc7, hC7, hb7⟩; have HC7 := Aside0.mk hC7; have HL7 := Aside0.mk hc7; have HD7 := Aside0.mk (HD6.out.move hb7); clear hc7 hC7 hb7 HD6) | (go_at_call 42; refine (bits_Ones.calls k A7 c7 b o _ HC7.out HL7.out HO.out).mono ?_; rintro e' w8 ⟨rfl, ⟨nd8, rfl⟩⟩; have HD8 := Aside0.mk (HD7.out.move (pw_below_drewN (Below.refl _ _) nd8)); have hcl1 : w7.cell? ⟨g, 1, none⟩ = some (.slice (some ⟨gd, 0, none⟩) dq.length cd) := (blk_cell HD7.out.ws.blk 1).trans rfl; have hcl2 : w7.cell? ⟨g, 2, none⟩ = some (.slice (some ⟨gm, 0, none⟩) mq.length cm) := (blk_cell HD7.out.ws.blk 2).trans rfl))
                      go_region
                      go_wp2
                      refine bodyPost_ret (results_tmp4 rfl _ _ _) rfl ?_
                      have HD9 := HD8.out.move (below_drew1 (Below.refl _ _))
                      exact ⟨_, _, rfl, Kd.R_of_own (h1 := fun _ => rfl) HD9.ws.od (fun k hk e => HD9.ws.ne (Option.some.inj ((show some gd = some k from hk).trans (show some k = some gm from e)))), Kd.R_of_own (h1 := fun _ => rfl) HD9.ws.om (fun k hk e => HD9.ws.ne (Option.some.inj ((show some gm = some k from hk).trans (show some k = some gd from e))).symm), HD9.below⟩
                  · rw [if_neg ht3] at h6; exact absurd h6 (by simp)
                · rw [if_neg hnl] at h5
                  have hn1 : (nq == lc) = false := beq_eq_false_iff_ne.2 hnl
                  have hn2 : (nq != lc) = true := bne_iff_ne.2 hnl
                  simp only [Option.some.injEq, Prod.mk.injEq] at h5
                  obtain ⟨rfl, rfl, rfl, rfl⟩ := h5
                  clear hnl
                  go_wp2
                  refine bodyPost_ret (results_tmp4 rfl _ _ _) rfl ?_
                  exact ⟨_, _, rfl, Kd.R_nil _ _ _ _ _, Kd.R_nil _ _ _ _ _, HD.out.below⟩
        · rw [if_neg ht2] at h; exact absurd h (by simp)
    · rw [if_neg ht1] at h; exact absurd h (by simp)
def casematelaw05_awake.f (k : Nat)  : Option (Bool) := (bch_Encode.f k 1 (([1] : List Int))).bind fun bt244 => ((bch_Decode.f k 1 (([3] : List Int)) (([27, 0] : List Int))).bind fun bt254 => ((bch_Bits.f 8).bind fun bt262 => (if (strOfNums bt244.1).toList = ([27, 0] : List UInt8) then (if bt244.2 = 0 then (if (strOfNums bt254.1).toList = ([1] : List UInt8) then (if (strOfNums bt254.2.1).toList = ([27, 0] : List UInt8) then (if bt254.2.2.1 = 1 then (if bt254.2.2.2 = 0 then (if bt262.1 = 104 then (some (bt262.2 == 0)) else (some false)) else (some false)) else (some false)) else (some false)) else (some false)) else (some false)) else (some false))))
theorem casematelaw05_awake.mono : ∀ k, LeO (casematelaw05_awake.f k ) (casematelaw05_awake.f (k + 1) ) := by
  intro  k
  unfold casematelaw05_awake.f
  repeat' first
      | (with_reducible exact bch_Decode.mono _ _ _ _)
      | (with_reducible exact bch_Encode.mono _ _ _)
      | (with_reducible exact LeO.refl _)
      | (with_reducible exact LeO.none _)
      | (with_reducible refine LeO.ite ?_ ?_)
      | (with_reducible refine LeO.bind ?_ (fun _ => ?_))
      | exact bch_Decode.mono _ _ _ _
      | exact bch_Encode.mono _ _ _
      | exact LeO.none _
      | refine LeO.ite ?_ ?_
      | refine LeO.bind ?_ (fun _ => ?_)
theorem casematelaw05_awake.yes (k : Nat) (r : Bool) (h : casematelaw05_awake.f k = some r) : r = true := by
  have e : casematelaw05_awake.f 160 = some true := by decide +kernel
  rcases Nat.le_total k 160 with hk | hk
  · exact Option.some.inj ((at_rounds (g := casematelaw05_awake.f) casematelaw05_awake.mono hk h).symm.trans e)
  · exact Option.some.inj (h.symm.trans (at_rounds (g := casematelaw05_awake.f) casematelaw05_awake.mono hk e))
set_option maxHeartbeats 8000000 in
set_option maxRecDepth 100000 in
theorem casematelaw05_awake.calls (k : Nat)  (r : Bool) (w : World) (h : casematelaw05_awake.f k  = some r) :
    Calls Try.prog 13 #[] w fun e w' => e = .returned (.bool r) ∧ Below w.heap.size w w' := by
  have HB := Aside0.mk (Below.refl w.heap.size w)
  have hr_ := Aside0.mk (casematelaw05_awake.yes k r h)
  have H : ((bch_Encode.f k 1 (([1] : List Int))).bind fun bt244 => ((bch_Decode.f k 1 (([3] : List Int)) (([27, 0] : List Int))).bind fun bt254 => ((bch_Bits.f 8).bind fun bt262 => (if (strOfNums bt244.1).toList = ([27, 0] : List UInt8) then (if bt244.2 = 0 then (if (strOfNums bt254.1).toList = ([1] : List UInt8) then (if (strOfNums bt254.2.1).toList = ([27, 0] : List UInt8) then (if bt254.2.2.1 = 1 then (if bt254.2.2.2 = 0 then (if bt262.1 = 104 then (some (bt262.2 == 0)) else (some false)) else (some false)) else (some false)) else (some false)) else (some false)) else (some false)) else (some false))))) = some r := h
  clear h
  obtain ⟨y241, hy241⟩ : ∃ y_ : List Int, y_ = (([1] : List Int)) := ⟨_, rfl⟩
  replace H : ((bch_Encode.f k 1 y241).bind fun bt244 => ((bch_Decode.f k 1 (([3] : List Int)) (([27, 0] : List Int))).bind fun bt254 => ((bch_Bits.f 8).bind fun bt262 => (if (strOfNums bt244.1).toList = ([27, 0] : List UInt8) then (if bt244.2 = 0 then (if (strOfNums bt254.1).toList = ([1] : List UInt8) then (if (strOfNums bt254.2.1).toList = ([27, 0] : List UInt8) then (if bt254.2.2.1 = 1 then (if bt254.2.2.2 = 0 then (if bt262.1 = 104 then (some (bt262.2 == 0)) else (some false)) else (some false)) else (some false)) else (some false)) else (some false)) else (some false)) else (some false))))) = some r := by first | (rw [hy241]; with_reducible exact H) | (have H2_ := (Option.bind_some _ _).symm.trans H; rw [hy241]; with_reducible exact H2_) | (have H2_ := (Option.bind_some _ _).symm.trans H; with_reducible exact H2_) | with_reducible exact H | (rw [hy241]; exact H) | exact H
  have Ny241 := Aside0.mk hy241
  clear hy241
  replace H := Option.bind_eq_some_iff.mp H
  obtain ⟨⟨t244, t245⟩, A10, H⟩ := H
  replace H : ((bch_Decode.f k 1 (([3] : List Int)) (([27, 0] : List Int))).bind fun bt254 => ((bch_Bits.f 8).bind fun bt262 => (if (strOfNums t244).toList = ([27, 0] : List UInt8) then (if t245 = 0 then (if (strOfNums bt254.1).toList = ([1] : List UInt8) then (if (strOfNums bt254.2.1).toList = ([27, 0] : List UInt8) then (if bt254.2.2.1 = 1 then (if bt254.2.2.2 = 0 then (if bt262.1 = 104 then (some (bt262.2 == 0)) else (some false)) else (some false)) else (some false)) else (some false)) else (some false)) else (some false)) else (some false)))) = some r := H
  have A1 := Aside0.mk A10
  clear A10
  obtain ⟨y248, hy248⟩ : ∃ y_ : List Int, y_ = (([3] : List Int)) := ⟨_, rfl⟩
  replace H : ((bch_Decode.f k 1 y248 (([27, 0] : List Int))).bind fun bt254 => ((bch_Bits.f 8).bind fun bt262 => (if (strOfNums t244).toList = ([27, 0] : List UInt8) then (if t245 = 0 then (if (strOfNums bt254.1).toList = ([1] : List UInt8) then (if (strOfNums bt254.2.1).toList = ([27, 0] : List UInt8) then (if bt254.2.2.1 = 1 then (if bt254.2.2.2 = 0 then (if bt262.1 = 104 then (some (bt262.2 == 0)) else (some false)) else (some false)) else (some false)) else (some false)) else (some false)) else (some false)) else (some false)))) = some r := by first | (rw [hy248]; with_reducible exact H) | (have H2_ := (Option.bind_some _ _).symm.trans H; rw [hy248]; with_reducible exact H2_) | (have H2_ := (Option.bind_some _ _).symm.trans H; with_reducible exact H2_) | with_reducible exact H | (rw [hy248]; exact H) | exact H
  have Ny248 := Aside0.mk hy248
  clear hy248
  obtain ⟨y251, hy251⟩ : ∃ y_ : List Int, y_ = (([27, 0] : List Int)) := ⟨_, rfl⟩
  replace H : ((bch_Decode.f k 1 y248 y251).bind fun bt254 => ((bch_Bits.f 8).bind fun bt262 => (if (strOfNums t244).toList = ([27, 0] : List UInt8) then (if t245 = 0 then (if (strOfNums bt254.1).toList = ([1] : List UInt8) then (if (strOfNums bt254.2.1).toList = ([27, 0] : List UInt8) then (if bt254.2.2.1 = 1 then (if bt254.2.2.2 = 0 then (if bt262.1 = 104 then (some (bt262.2 == 0)) else (some false)) else (some false)) else (some false)) else (some false)) else (some false)) else (some false)) else (some false)))) = some r := by first | (rw [hy251]; with_reducible exact H) | (have H2_ := (Option.bind_some _ _).symm.trans H; rw [hy251]; with_reducible exact H2_) | (have H2_ := (Option.bind_some _ _).symm.trans H; with_reducible exact H2_) | with_reducible exact H | (rw [hy251]; exact H) | exact H
  have Ny251 := Aside0.mk hy251
  clear hy251
  replace H := Option.bind_eq_some_iff.mp H
  obtain ⟨⟨t254, t255, t256, t257⟩, A20, H⟩ := H
  replace H : ((bch_Bits.f 8).bind fun bt262 => (if (strOfNums t244).toList = ([27, 0] : List UInt8) then (if t245 = 0 then (if (strOfNums t254).toList = ([1] : List UInt8) then (if (strOfNums t255).toList = ([27, 0] : List UInt8) then (if t256 = 1 then (if t257 = 0 then (if bt262.1 = 104 then (some (bt262.2 == 0)) else (some false)) else (some false)) else (some false)) else (some false)) else (some false)) else (some false)) else (some false))) = some r := H
  have A2 := Aside0.mk A20
  clear A20
  replace H := Option.bind_eq_some_iff.mp H
  obtain ⟨⟨t262, t263⟩, A30, H⟩ := H
  replace H : (if (strOfNums t244).toList = ([27, 0] : List UInt8) then (if t245 = 0 then (if (strOfNums t254).toList = ([1] : List UInt8) then (if (strOfNums t255).toList = ([27, 0] : List UInt8) then (if t256 = 1 then (if t257 = 0 then (if t262 = 104 then (some (t263 == 0)) else (some false)) else (some false)) else (some false)) else (some false)) else (some false)) else (some false)) else (some false)) = some r := H
  have A3 := Aside0.mk A30
  clear A30
  by_cases c4 : (strOfNums t244).toList = ([27, 0] : List UInt8)
  · rw [if_pos c4] at H
    have c4b0 : ((strOfNums t244).toList == ([27, 0] : List UInt8)) = true := beq_iff_eq.mpr c4
    have c4b1 : ((strOfNums t244).toList != ([27, 0] : List UInt8)) = false := bne_eq_false_iff_eq.mpr c4
    clear c4
    by_cases c5 : t245 = 0
    · rw [if_pos c5] at H
      have c5b0 : (t245 == 0) = true := beq_iff_eq.mpr c5
      have c5b1 : (t245 != 0) = false := bne_eq_false_iff_eq.mpr c5
      clear c5
      by_cases c6 : (strOfNums t254).toList = ([1] : List UInt8)
      · rw [if_pos c6] at H
        have c6b0 : ((strOfNums t254).toList == ([1] : List UInt8)) = true := beq_iff_eq.mpr c6
        have c6b1 : ((strOfNums t254).toList != ([1] : List UInt8)) = false := bne_eq_false_iff_eq.mpr c6
        clear c6
        by_cases c7 : (strOfNums t255).toList = ([27, 0] : List UInt8)
        · rw [if_pos c7] at H
          have c7b0 : ((strOfNums t255).toList == ([27, 0] : List UInt8)) = true := beq_iff_eq.mpr c7
          have c7b1 : ((strOfNums t255).toList != ([27, 0] : List UInt8)) = false := bne_eq_false_iff_eq.mpr c7
          clear c7
          by_cases c8 : t256 = 1
          · rw [if_pos c8] at H
            have c8b0 : (t256 == 1) = true := beq_iff_eq.mpr c8
            have c8b1 : (t256 != 1) = false := bne_eq_false_iff_eq.mpr c8
            clear c8
            by_cases c9 : t257 = 0
            · rw [if_pos c9] at H
              have c9b0 : (t257 == 0) = true := beq_iff_eq.mpr c9
              have c9b1 : (t257 != 0) = false := bne_eq_false_iff_eq.mpr c9
              clear c9
              by_cases c10 : t262 = 104
              · rw [if_pos c10] at H
                have c10b0 : (t262 == 104) = true := beq_iff_eq.mpr c10
                have c10b1 : (t262 != 104) = false := bne_eq_false_iff_eq.mpr c10
                clear c10
                obtain rfl := Option.some.inj H
                go_enter Try.func13, Try.ntmps13
                go_wp2_with (first | ((with_reducible refine gate_dst (N := 10) rfl ?_); refine Kd.R_lit (Kd.int .u8) _ 5 ?hg (N := 10) ?hd (xs := ([1] : List Int)) (inner := [.int .u8 1]) (ok := fun _ => True) (okp := fun _ => True) ?hr ?hp (fun _ hk => hk) trivial (Below.refl _ _) (Nat.le_refl _) (by simp) ?_; (case hd => rfl); (case hg => rfl); (case hr => first | (go_simp; done) | (go_simp; rfl)); (case hp => exact (Reps.one (show Kd.M (Kd.int .u8) _ _ _ 1 [.int .u8 1] from rfl) (Reps.none _ _))); intro v242 w11 ho12 hb hg_ hnew_; clear hg_ hnew_; (first | rw [← Ny241.out] at ho12 | (simp only [Int.reduceToNat] at ho12; rw [← Ny241.out] at ho12)); have n0_ := Aside0.mk (Kd.R_lower ho12 (below_size (by repeat (first | (with_reducible first | exact HB.out | apply below_alloc | apply pw_below_drewN | apply below_drew1) | exact HB.out)))); have n1_ := Aside0.mk (below_step (by repeat (first | (with_reducible first | exact HB.out | apply below_alloc | apply pw_below_drewN | apply below_drew1) | exact HB.out)) hb); clear HB; have HO243 := n0_; have HB := n1_; clear n0_ n1_; clear hb ho12; obtain ⟨Ao13, co13, eo13⟩ := Kd.R_slice HO243.out; subst eo13) | ((with_reducible refine gate_callee (f := 11) rfl ?_); refine goesL_ (some 11) rfl rfl Try.func11 (by kernel_rfl) rfl #[.int .i64 1, .slice Ao13 y241.length co13] rfl (by (try simp only [List.map_toArray, List.map_cons, List.map_nil]); first | done | rfl | (simp only [List.length_drop, List.length_take]; rfl)) ?_; (with_reducible refine (bch_Encode.calls k 1 _ _ y241 t244 t245 _ ?side1 ?side2 A1.out).mono ?_); (case side1 => repeat (first | exact (Kd.R_reads' HO243.out).2.2 | (with_reducible refine Kd.C_alloc ?_ _) | (with_reducible refine Kd.C_drewN ?_ _) | (with_reducible refine Kd.C_drew ?_))); (case side2 => exact (Kd.R_reads' HO243.out).2.1); rintro e w14 ⟨v246, rfl, ho0, hb⟩; refine ⟨_, rfl, ?_⟩; have n0_ := Aside0.mk (Kd.R_elder' (by (with_reducible repeat (first | apply Kd.R_alloc | apply Kd.R_drewN | apply Kd.R_drew)); exact HO243.out) (Kd.R_base ho0) hb); have n1_ := Aside0.mk (Kd.R_lower (Kd.R_new' ho0 (Kd.R_lt (by (with_reducible repeat (first | apply Kd.R_alloc | apply Kd.R_drewN | apply Kd.R_drew)); exact HO243.out))) (below_size (by repeat (first | (with_reducible first | exact HB.out | apply below_alloc | apply pw_below_drewN | apply below_drew1) | exact HB.out)))); have n2_ := Aside0.mk (below_step (by repeat (first | (with_reducible first | exact HB.out | apply below_alloc | apply pw_below_drewN | apply below_drew1) | exact HB.out)) hb); clear HO243; clear HB; have HO243 := n0_; have HO247 := n1_; have HB := n2_; clear n0_ n1_ n2_; (try clear hb); (try clear hb2); (try clear hk); (try clear hi); (try clear ho0)) | ((with_reducible refine gate_dst (N := 15) rfl ?_); refine Kd.R_lit (Kd.int .u8) _ 5 ?hg (N := 15) ?hd (xs := ([3] : List Int)) (inner := [.int .u8 3]) (ok := fun _ => True) (okp := fun _ => True) ?hr ?hp (fun _ hk => hk) trivial (Below.refl _ _) (Nat.le_refl _) (by simp) ?_; (case hd => rfl); (case hg => rfl); (case hr => first | (go_simp; done) | (go_simp; rfl)); (case hp => exact (Reps.one (show Kd.M (Kd.int .u8) _ _ _ 3 [.int .u8 3] from rfl) (Reps.none _ _))); intro v249 w15 ho16 hb hg_ hnew_; clear hg_ hnew_; (first | rw [← Ny248.out] at ho16 | (simp only [Int.reduceToNat] at ho16; rw [← Ny248.out] at ho16)); have n0_ := Aside0.mk (Kd.R_elder' (by (with_reducible repeat (first | apply Kd.R_alloc | apply Kd.R_drewN | apply Kd.R_drew)); exact HO243.out) (Kd.R_base ho16) hb); have n1_ := Aside0.mk (Kd.R_elder' (by (with_reducible repeat (first | apply Kd.R_alloc | apply Kd.R_drewN | apply Kd.R_drew)); exact HO247.out) (Kd.R_base ho16) hb); have n2_ := Aside0.mk (Kd.R_lower (Kd.R_new' (Kd.R_new' ho16 (Kd.R_lt (by (with_reducible repeat (first | apply Kd.R_alloc | apply Kd.R_drewN | apply Kd.R_drew)); exact HO243.out))) (Kd.R_lt (by (with_reducible repeat (first | apply Kd.R_alloc | apply Kd.R_drewN | apply Kd.R_drew)); exact HO247.out))) (below_size (by repeat (first | (with_reducible first | exact HB.out | apply below_alloc | apply pw_below_drewN | apply below_drew1) | exact HB.out)))); have n3_ := Aside0.mk (below_step (by repeat (first | (with_reducible first | exact HB.out | apply below_alloc | apply pw_below_drewN | apply below_drew1) | exact HB.out)) hb); clear HO243; clear HO247; clear HB; have HO243 := n0_; have HO247 := n1_; have HO250 := n2_; have HB := n3_; clear n0_ n1_ n2_ n3_; clear hb ho16) | ((with_reducible refine gate_dst (N := 16) rfl ?_); refine Kd.R_lit (Kd.int .u8) _ 5 ?hg (N := 16) ?hd (xs := ([27, 0] : List Int)) (inner := [.int .u8 27, .int .u8 0]) (ok := fun _ => True) (okp := fun _ => True) ?hr ?hp (fun _ hk => hk) trivial (Below.refl _ _) (Nat.le_refl _) (by simp) ?_; (case hd => rfl); (case hg => rfl); (case hr => first | (go_simp; done) | (go_simp; rfl)); (case hp => exact (Reps.one (show Kd.M (Kd.int .u8) _ _ _ 27 [.int .u8 27] from rfl) (Reps.one (show Kd.M (Kd.int .u8) _ _ _ 0 [.int .u8 0] from rfl) (Reps.none _ _)))); intro v252 w17 ho18 hb hg_ hnew_; clear hg_ hnew_; (first | rw [← Ny251.out] at ho18 | (simp only [Int.reduceToNat] at ho18; rw [← Ny251.out] at ho18)); have n0_ := Aside0.mk (Kd.R_elder' (by (with_reducible repeat (first | apply Kd.R_alloc | apply Kd.R_drewN | apply Kd.R_drew)); exact HO243.out) (Kd.R_base ho18) hb); have n1_ := Aside0.mk (Kd.R_elder' (by (with_reducible repeat (first | apply Kd.R_alloc | apply Kd.R_drewN | apply Kd.R_drew)); exact HO247.out) (Kd.R_base ho18) hb); have n2_ := Aside0.mk (Kd.R_elder' (by (with_reducible repeat (first | apply Kd.R_alloc | apply Kd.R_drewN | apply Kd.R_drew)); exact HO250.out) (Kd.R_base ho18) hb); have n3_ := Aside0.mk (Kd.R_lower (Kd.R_new' (Kd.R_new' (Kd.R_new' ho18 (Kd.R_lt (by (with_reducible repeat (first | apply Kd.R_alloc | apply Kd.R_drewN | apply Kd.R_drew)); exact HO243.out))) (Kd.R_lt (by (with_reducible repeat (first | apply Kd.R_alloc | apply Kd.R_drewN | apply Kd.R_drew)); exact HO247.out))) (Kd.R_lt (by (with_reducible repeat (first | apply Kd.R_alloc | apply Kd.R_drewN | apply Kd.R_drew)); exact HO250.out))) (below_size (by repeat (first | (with_reducible first | exact HB.out | apply below_alloc | apply pw_below_drewN | apply below_drew1) | exact HB.out)))); have n4_ := Aside0.mk (below_step (by repeat (first | (with_reducible first | exact HB.out | apply below_alloc | apply pw_below_drewN | apply below_drew1) | exact HB.out)) hb); clear HO243; clear HO247; clear HO250; clear HB; have HO243 := n0_; have HO247 := n1_; have HO250 := n2_; have HO253 := n3_; have HB := n4_; clear n0_ n1_ n2_ n3_ n4_; clear hb ho18; obtain ⟨Ao19, co19, eo19⟩ := Kd.R_slice HO250.out; subst eo19; obtain ⟨Ao20, co20, eo20⟩ := Kd.R_slice HO253.out; subst eo20) | ((with_reducible refine gate_callee (f := 15) rfl ?_); refine goesL_ (some 17) rfl rfl Try.func15 (by kernel_rfl) rfl #[.int .i64 1, .slice Ao19 y248.length co19, .slice Ao20 y251.length co20] rfl (by (try simp only [List.map_toArray, List.map_cons, List.map_nil]); first | done | rfl | (simp only [List.length_drop, List.length_take]; rfl)) ?_; (with_reducible refine (bch_Decode.calls k 1 _ _ y248 _ _ y251 t254 t255 t256 t257 _ ?side1 ?side2 ?side3 ?side4 A2.out).mono ?_); (case side1 => repeat (first | exact (Kd.R_reads' HO250.out).2.2 | (with_reducible refine Kd.C_alloc ?_ _) | (with_reducible refine Kd.C_drewN ?_ _) | (with_reducible refine Kd.C_drew ?_))); (case side2 => exact (Kd.R_reads' HO250.out).2.1); (case side3 => repeat (first | exact (Kd.R_reads' HO253.out).2.2 | (with_reducible refine Kd.C_alloc ?_ _) | (with_reducible refine Kd.C_drewN ?_ _) | (with_reducible refine Kd.C_drew ?_))); (case side4 => exact (Kd.R_reads' HO253.out).2.1); rintro e w21 ⟨v258, v260, rfl, ho0, ho1, hb⟩; refine ⟨_, rfl, ?_⟩; have n0_ := Aside0.mk (Kd.R_mono (Kd.R_told (Kd.R_told (Kd.R_old (by (with_reducible repeat (first | apply Kd.R_alloc | apply Kd.R_drewN | apply Kd.R_drew)); exact HO243.out) hb) (Kd.R_base ho0)) (Kd.R_base ho1)) (fun _ h_ => h_.1)); have n1_ := Aside0.mk (Kd.R_mono (Kd.R_told (Kd.R_told (Kd.R_old (by (with_reducible repeat (first | apply Kd.R_alloc | apply Kd.R_drewN | apply Kd.R_drew)); exact HO247.out) hb) (Kd.R_base ho0)) (Kd.R_base ho1)) (fun _ h_ => h_.1)); have n2_ := Aside0.mk (Kd.R_mono (Kd.R_told (Kd.R_told (Kd.R_old (by (with_reducible repeat (first | apply Kd.R_alloc | apply Kd.R_drewN | apply Kd.R_drew)); exact HO250.out) hb) (Kd.R_base ho0)) (Kd.R_base ho1)) (fun _ h_ => h_.1)); have n3_ := Aside0.mk (Kd.R_mono (Kd.R_told (Kd.R_told (Kd.R_old (by (with_reducible repeat (first | apply Kd.R_alloc | apply Kd.R_drewN | apply Kd.R_drew)); exact HO253.out) hb) (Kd.R_base ho0)) (Kd.R_base ho1)) (fun _ h_ => h_.1)); have n4_ := Aside0.mk (Kd.R_lower (Kd.R_new' (Kd.R_new' (Kd.R_new' (Kd.R_new' ho0 (Kd.R_lt (by (with_reducible repeat (first | apply Kd.R_alloc | apply Kd.R_drewN | apply Kd.R_drew)); exact HO243.out))) (Kd.R_lt (by (with_reducible repeat (first | apply Kd.R_alloc | apply Kd.R_drewN | apply Kd.R_drew)); exact HO247.out))) (Kd.R_lt (by (with_reducible repeat (first | apply Kd.R_alloc | apply Kd.R_drewN | apply Kd.R_drew)); exact HO250.out))) (Kd.R_lt (by (with_reducible repeat (first | apply Kd.R_alloc | apply Kd.R_drewN | apply Kd.R_drew)); exact HO253.out))) (below_size (by repeat (first | (with_reducible first | exact HB.out | apply below_alloc | apply pw_below_drewN | apply below_drew1) | exact HB.out)))); have n5_ := Aside0.mk (Kd.R_lower (Kd.R_new' (Kd.R_new' (Kd.R_new' (Kd.R_new' ho1 (Kd.R_lt (by (with_reducible repeat (first | apply Kd.R_alloc | apply Kd.R_drewN | apply Kd.R_drew)); exact HO243.out))) (Kd.R_lt (by (with_reducible repeat (first | apply Kd.R_alloc | apply Kd.R_drewN | apply Kd.R_drew)); exact HO247.out))) (Kd.R_lt (by (with_reducible repeat (first | apply Kd.R_alloc | apply Kd.R_drewN | apply Kd.R_drew)); exact HO250.out))) (Kd.R_lt (by (with_reducible repeat (first | apply Kd.R_alloc | apply Kd.R_drewN | apply Kd.R_drew)); exact HO253.out))) (below_size (by repeat (first | (with_reducible first | exact HB.out | apply below_alloc | apply pw_below_drewN | apply below_drew1) | exact HB.out)))); have n6_ := Aside0.mk (below_step (by repeat (first | (with_reducible first | exact HB.out | apply below_alloc | apply pw_below_drewN | apply below_drew1) | exact HB.out)) hb); clear HO243; clear HO247; clear HO250; clear HO253; clear HB; have HO243 := n0_; have HO247 := n1_; have HO250 := n2_; have HO253 := n3_; have HO259 := n4_; have HO261 := n5_; have HB := n6_; clear n0_ n1_ n2_ n3_ n4_ n5_ n6_; (try clear hb); (try clear hb2); (try clear hk); (try clear hi); (try clear ho0); (try clear ho1)) | ((with_reducible refine gate_callee (f := 12) rfl ?_); refine goesL_ (some 23) rfl rfl Try.func12 (by kernel_rfl) rfl #[.int .i64 8] rfl (by (try simp only [List.map_toArray, List.map_cons, List.map_nil]); first | done | rfl | (simp only [List.length_drop, List.length_take]; rfl)) ?_; (with_reducible refine (bch_Bits.calls 8 t262 t263 _ A3.out).mono ?_); rintro e w' ⟨rfl, ⟨nd, rfl⟩⟩; refine ⟨_, rfl, ?_⟩; have hcv22 := own_string (P := Try.prog) Try.underlying22 Try.underlying5 Try.underlying9 (Kd.own_of_R (Kd.R_drewN HO247.out nd)); have hcv23 := own_string (P := Try.prog) Try.underlying22 Try.underlying5 Try.underlying9 (Kd.own_of_R (Kd.R_drewN HO259.out nd)); have hcv24 := own_string (P := Try.prog) Try.underlying22 Try.underlying5 Try.underlying9 (Kd.own_of_R (Kd.R_drewN HO261.out nd))))
                go_ret
                exact ⟨by first | rfl | (simp [errW_none, errW_some] <;> rfl) | (simp [*, errW_none, errW_some] <;> rfl), by repeat (first | (with_reducible first | exact HB.out | apply below_alloc | apply pw_below_drewN | apply below_drew1) | exact HB.out)⟩
              · rw [if_neg c10] at H
                (try rw [hr_.out] at H)
                exact absurd H (by simp)
            · rw [if_neg c9] at H
              (try rw [hr_.out] at H)
              exact absurd H (by simp)
          · rw [if_neg c8] at H
            (try rw [hr_.out] at H)
            exact absurd H (by simp)
        · rw [if_neg c7] at H
          (try rw [hr_.out] at H)
          exact absurd H (by simp)
      · rw [if_neg c6] at H
        (try rw [hr_.out] at H)
        exact absurd H (by simp)
    · rw [if_neg c5] at H
      (try rw [hr_.out] at H)
      exact absurd H (by simp)
  · rw [if_neg c4] at H
    (try rw [hr_.out] at H)
    exact absurd H (by simp)
end Go.Proofs.Ytbaiildpabdlpaa.P

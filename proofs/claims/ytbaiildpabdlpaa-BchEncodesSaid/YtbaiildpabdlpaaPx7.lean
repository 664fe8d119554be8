/- What Go functions of the translation come to, as plain functions, and that their calls come to just that. No condition but that the plain function answers. (Written by a program of this session.) -/
import Derived.Test.YtbaiildpabdlpaaPx0
import Derived.Test.YtbaiildpabdlpaaPx4
import Derived.Test.YtbaiildpabdlpaaPx5
import Derived.Test.YtbaiildpabdlpaaPx6
namespace Go.Proofs.Ytbaiildpabdlpaa.P
open Go.RowKit Go.Proofs.YtbaiildpabdlpaaW.PrintWords Go.Proofs.YtbaiildpabdlpaaW.PrintLast Go.Proofs.YtbaiildpabdlpaaW.PrintMore
attribute [local go_sem] max2_int min2_int max_two min_two max_three min_three max_four min_four   -- for this text's walks alone
set_option linter.unusedVariables false
set_option linter.unusedSimpArgs false
mutual
def bch_locator.l0 : Nat → List Int → List Int → List Int → Int → Int → Int → Int → Int → Option (List Int)
  | 0, _, _, _, _, _, _, _, _ => none
  | k + 1, x0, x3, x4, x5, x6, x7, x20, x21 => if x21 < x20 then (if 0 ≤ x21 then (if x21 < (x0.length : Int) then (bch_locator.l1 k x0 x3 x4 x5 x6 x7 x21 (rd x0 x21) 1 x20 x21) else (none)) else (none)) else (bch_locator.l4 k x3)
def bch_locator.j2 : Nat → List Int → List Int → List Int → Int → Int → Int → Int → Int → Int → Int → Option (List Int)
  | 0, _, _, _, _, _, _, _, _, _, _ => none
  | k + 1, x0, x3, x4, x5, x6, x7, x8, x9, x20, x21 => if x9 = 0 then (bch_locator.l0 k x0 x3 x4 x5 (wrap64 (x6 + 1)) x7 x20 (wrap64 (x21 + 1))) else ((gf_Inv.f k x7).bind fun bt215 => ((bch_mul.f k x9 bt215.1).bind fun t217 => ((slices_Clone_int_int.f x3).bind fun t218 => (bch_locator.l2 k x0 x3 x4 x5 x6 x7 x8 x9 t217 t218 x20 x21))))
def bch_locator.l2 : Nat → List Int → List Int → List Int → Int → Int → Int → Int → Int → Int → List Int → Int → Int → Option (List Int)
  | 0, _, _, _, _, _, _, _, _, _, _, _, _ => none
  | k + 1, x0, x3, x4, x5, x6, x7, x8, x9, x13, x14, x20, x21 => if (x3.length : Int) < (wrap64 ((x4.length : Int) + x6)) then (if 0 < x3.length ∧ x3.length < 17592186044416 then (bch_locator.l2 k x0 (x3 ++ [0]) x4 x5 x6 x7 x8 x9 x13 x14 x20 x21) else (none)) else ((slices_Clone_int_int.f x3).bind fun t224 => (bch_locator.l3 k x0 t224 x4 x5 x6 x7 x8 x9 x13 x14 x20 x21 x4 (x4.length : Int) 0))
def bch_locator.l3 : Nat → List Int → List Int → List Int → Int → Int → Int → Int → Int → Int → List Int → Int → Int → List Int → Int → Int → Option (List Int)
  | 0, _, _, _, _, _, _, _, _, _, _, _, _, _, _, _ => none
  | k + 1, x0, x3, x4, x5, x6, x7, x8, x9, x13, x14, x20, x21, x83, x84, x85 => if x85 < x84 then (if 0 ≤ x85 then (if x85 < (x83.length : Int) then (if 0 ≤ (wrap64 (x85 + x6)) then (if (wrap64 (x85 + x6)) < (x3.length : Int) then ((bch_mul.f k x13 (rd x83 x85)).bind fun t229 => (bch_locator.l3 k x0 (x3.set ((wrap64 (x85 + x6)) : Int).toNat (Go.bits .xor .i64 (rd x3 (wrap64 (x85 + x6))) t229)) x4 x5 x6 x7 x8 x9 x13 x14 x20 x21 x83 x84 (wrap64 (x85 + 1)))) else (none)) else (none)) else (none)) else (none)) else (if (wrap64 (2 * x5)) ≤ x8 then (bch_locator.l0 k x0 x3 x14 (wrap64 ((wrap64 (x8 + 1)) - x5)) 1 x9 x20 (wrap64 (x21 + 1))) else (bch_locator.l0 k x0 x3 x4 x5 (wrap64 (x6 + 1)) x7 x20 (wrap64 (x21 + 1))))
def bch_locator.l1 : Nat → List Int → List Int → List Int → Int → Int → Int → Int → Int → Int → Int → Int → Option (List Int)
  | 0, _, _, _, _, _, _, _, _, _, _, _ => none
  | k + 1, x0, x3, x4, x5, x6, x7, x8, x9, x10, x20, x21 => if x10 ≤ x5 then (if x10 < (x3.length : Int) then (if 0 ≤ x10 then (if 0 ≤ (wrap64 (x8 - x10)) then (if (wrap64 (x8 - x10)) < (x0.length : Int) then ((bch_mul.f k (rd x3 x10) (rd x0 (wrap64 (x8 - x10)))).bind fun t214 => (bch_locator.l1 k x0 x3 x4 x5 x6 x7 x8 (Go.bits .xor .i64 x9 t214) (wrap64 (x10 + 1)) x20 x21)) else (none)) else (none)) else (none)) else (bch_locator.j2 k x0 x3 x4 x5 x6 x7 x8 x9 x20 x21)) else (bch_locator.j2 k x0 x3 x4 x5 x6 x7 x8 x9 x20 x21)
def bch_locator.l4 : Nat → List Int → Option (List Int)
  | 0, _ => none
  | k + 1, x3 => if (x3.length : Int) > 0 then (if 0 ≤ (wrap64 ((x3.length : Int) - 1)) then (if (wrap64 ((x3.length : Int) - 1)) < (x3.length : Int) then (if (rd x3 (wrap64 ((x3.length : Int) - 1))) = 0 then (if (wrap64 ((x3.length : Int) - 1)) ≤ (x3.length : Int) then (bch_locator.l4 k (x3.take ((wrap64 ((x3.length : Int) - 1)) : Int).toNat)) else (none)) else (some x3)) else (none)) else (none)) else (some x3)
end
def bch_locator.f (k : Nat) (l0 : List Int) : Option (List Int) := bch_locator.l0 k l0 (([1] : List Int)) (([1] : List Int)) 0 1 1 (l0.length : Int) 0
theorem bch_locator.mono_l : ∀ k, (∀ y0 y1 y2 y3 y4 y5 y6 y7, LeO (bch_locator.l0 k y0 y1 y2 y3 y4 y5 y6 y7) (bch_locator.l0 (k + 1) y0 y1 y2 y3 y4 y5 y6 y7)) ∧ (∀ y0 y1 y2 y3 y4 y5 y6 y7 y8 y9, LeO (bch_locator.j2 k y0 y1 y2 y3 y4 y5 y6 y7 y8 y9) (bch_locator.j2 (k + 1) y0 y1 y2 y3 y4 y5 y6 y7 y8 y9)) ∧ (∀ y0 y1 y2 y3 y4 y5 y6 y7 y8 y9 y10 y11, LeO (bch_locator.l2 k y0 y1 y2 y3 y4 y5 y6 y7 y8 y9 y10 y11) (bch_locator.l2 (k + 1) y0 y1 y2 y3 y4 y5 y6 y7 y8 y9 y10 y11)) ∧ (∀ y0 y1 y2 y3 y4 y5 y6 y7 y8 y9 y10 y11 y12 y13 y14, LeO (bch_locator.l3 k y0 y1 y2 y3 y4 y5 y6 y7 y8 y9 y10 y11 y12 y13 y14) (bch_locator.l3 (k + 1) y0 y1 y2 y3 y4 y5 y6 y7 y8 y9 y10 y11 y12 y13 y14)) ∧ (∀ y0 y1 y2 y3 y4 y5 y6 y7 y8 y9 y10, LeO (bch_locator.l1 k y0 y1 y2 y3 y4 y5 y6 y7 y8 y9 y10) (bch_locator.l1 (k + 1) y0 y1 y2 y3 y4 y5 y6 y7 y8 y9 y10)) ∧ (∀ y0, LeO (bch_locator.l4 k y0) (bch_locator.l4 (k + 1) y0))
  | 0 => ⟨fun _ _ _ _ _ _ _ _ r h => by simp [bch_locator.l0] at h, fun _ _ _ _ _ _ _ _ _ _ r h => by simp [bch_locator.j2] at h, fun _ _ _ _ _ _ _ _ _ _ _ _ r h => by simp [bch_locator.l2] at h, fun _ _ _ _ _ _ _ _ _ _ _ _ _ _ _ r h => by simp [bch_locator.l3] at h, fun _ _ _ _ _ _ _ _ _ _ _ r h => by simp [bch_locator.l1] at h, fun _ r h => by simp [bch_locator.l4] at h⟩
  | k + 1 => by
    obtain ⟨ih0, ih1, ih2, ih3, ih4, ih5⟩ := bch_locator.mono_l k
    refine ⟨?_, ?_, ?_, ?_, ?_, ?_⟩
    · intro y0 y1 y2 y3 y4 y5 y6 y7
      unfold bch_locator.l0
      repeat' first
      | (with_reducible exact ih0 _ _ _ _ _ _ _ _)
      | (with_reducible exact ih1 _ _ _ _ _ _ _ _ _ _)
      | (with_reducible exact ih2 _ _ _ _ _ _ _ _ _ _ _ _)
      | (with_reducible exact ih3 _ _ _ _ _ _ _ _ _ _ _ _ _ _ _)
      | (with_reducible exact ih4 _ _ _ _ _ _ _ _ _ _ _)
      | (with_reducible exact ih5 _)
      | (with_reducible exact bch_mul.mono _ _ _)
      | (with_reducible exact gf_Inv.mono _ _)
      | (with_reducible exact LeO.refl _)
      | (with_reducible exact LeO.none _)
      | (with_reducible refine LeO.ite ?_ ?_)
      | (with_reducible refine LeO.bind ?_ (fun _ => ?_))
      | exact ih0 _ _ _ _ _ _ _ _
      | exact ih1 _ _ _ _ _ _ _ _ _ _
      | exact ih2 _ _ _ _ _ _ _ _ _ _ _ _
      | exact ih3 _ _ _ _ _ _ _ _ _ _ _ _ _ _ _
      | exact ih4 _ _ _ _ _ _ _ _ _ _ _
      | exact ih5 _
      | exact bch_mul.mono _ _ _
      | exact gf_Inv.mono _ _
      | exact LeO.none _
      | refine LeO.ite ?_ ?_
      | refine LeO.bind ?_ (fun _ => ?_)
    · intro y0 y1 y2 y3 y4 y5 y6 y7 y8 y9
      unfold bch_locator.j2
      repeat' first
      | (with_reducible exact ih0 _ _ _ _ _ _ _ _)
      | (with_reducible exact ih1 _ _ _ _ _ _ _ _ _ _)
      | (with_reducible exact ih2 _ _ _ _ _ _ _ _ _ _ _ _)
      | (with_reducible exact ih3 _ _ _ _ _ _ _ _ _ _ _ _ _ _ _)
      | (with_reducible exact ih4 _ _ _ _ _ _ _ _ _ _ _)
      | (with_reducible exact ih5 _)
      | (with_reducible exact bch_mul.mono _ _ _)
      | (with_reducible exact gf_Inv.mono _ _)
      | (with_reducible exact LeO.refl _)
      | (with_reducible exact LeO.none _)
      | (with_reducible refine LeO.ite ?_ ?_)
      | (with_reducible refine LeO.bind ?_ (fun _ => ?_))
      | exact ih0 _ _ _ _ _ _ _ _
      | exact ih1 _ _ _ _ _ _ _ _ _ _
      | exact ih2 _ _ _ _ _ _ _ _ _ _ _ _
      | exact ih3 _ _ _ _ _ _ _ _ _ _ _ _ _ _ _
      | exact ih4 _ _ _ _ _ _ _ _ _ _ _
      | exact ih5 _
      | exact bch_mul.mono _ _ _
      | exact gf_Inv.mono _ _
      | exact LeO.none _
      | refine LeO.ite ?_ ?_
      | refine LeO.bind ?_ (fun _ => ?_)
    · intro y0 y1 y2 y3 y4 y5 y6 y7 y8 y9 y10 y11
      unfold bch_locator.l2
      repeat' first
      | (with_reducible exact ih0 _ _ _ _ _ _ _ _)
      | (with_reducible exact ih1 _ _ _ _ _ _ _ _ _ _)
      | (with_reducible exact ih2 _ _ _ _ _ _ _ _ _ _ _ _)
      | (with_reducible exact ih3 _ _ _ _ _ _ _ _ _ _ _ _ _ _ _)
      | (with_reducible exact ih4 _ _ _ _ _ _ _ _ _ _ _)
      | (with_reducible exact ih5 _)
      | (with_reducible exact bch_mul.mono _ _ _)
      | (with_reducible exact gf_Inv.mono _ _)
      | (with_reducible exact LeO.refl _)
      | (with_reducible exact LeO.none _)
      | (with_reducible refine LeO.ite ?_ ?_)
      | (with_reducible refine LeO.bind ?_ (fun _ => ?_))
      | exact ih0 _ _ _ _ _ _ _ _
      | exact ih1 _ _ _ _ _ _ _ _ _ _
      | exact ih2 _ _ _ _ _ _ _ _ _ _ _ _
      | exact ih3 _ _ _ _ _ _ _ _ _ _ _ _ _ _ _
      | exact ih4 _ _ _ _ _ _ _ _ _ _ _
      | exact ih5 _
      | exact bch_mul.mono _ _ _
      | exact gf_Inv.mono _ _
      | exact LeO.none _
      | refine LeO.ite ?_ ?_
      | refine LeO.bind ?_ (fun _ => ?_)
    · intro y0 y1 y2 y3 y4 y5 y6 y7 y8 y9 y10 y11 y12 y13 y14
      unfold bch_locator.l3
      repeat' first
      | (with_reducible exact ih0 _ _ _ _ _ _ _ _)
      | (with_reducible exact ih1 _ _ _ _ _ _ _ _ _ _)
      | (with_reducible exact ih2 _ _ _ _ _ _ _ _ _ _ _ _)
      | (with_reducible exact ih3 _ _ _ _ _ _ _ _ _ _ _ _ _ _ _)
      | (with_reducible exact ih4 _ _ _ _ _ _ _ _ _ _ _)
      | (with_reducible exact ih5 _)
      | (with_reducible exact bch_mul.mono _ _ _)
      | (with_reducible exact gf_Inv.mono _ _)
      | (with_reducible exact LeO.refl _)
      | (with_reducible exact LeO.none _)
      | (with_reducible refine LeO.ite ?_ ?_)
      | (with_reducible refine LeO.bind ?_ (fun _ => ?_))
      | exact ih0 _ _ _ _ _ _ _ _
      | exact ih1 _ _ _ _ _ _ _ _ _ _
      | exact ih2 _ _ _ _ _ _ _ _ _ _ _ _
      | exact ih3 _ _ _ _ _ _ _ _ _ _ _ _ _ _ _
      | exact ih4 _ _ _ _ _ _ _ _ _ _ _
      | exact ih5 _
      | exact bch_mul.mono _ _ _
      | exact gf_Inv.mono _ _
      | exact LeO.none _
      | refine LeO.ite ?_ ?_
      | refine LeO.bind ?_ (fun _ => ?_)
    · intro y0 y1 y2 y3 y4 y5 y6 y7 y8 y9 y10
      unfold bch_locator.l1
      repeat' first
      | (with_reducible exact ih0 _ _ _ _ _ _ _ _)
      | (with_reducible exact ih1 _ _ _ _ _ _ _ _ _ _)
      | (with_reducible exact ih2 _ _ _ _ _ _ _ _ _ _ _ _)
      | (with_reducible exact ih3 _ _ _ _ _ _ _ _ _ _ _ _ _ _ _)
      | (with_reducible exact ih4 _ _ _ _ _ _ _ _ _ _ _)
      | (with_reducible exact ih5 _)
      | (with_reducible exact bch_mul.mono _ _ _)
      | (with_reducible exact gf_Inv.mono _ _)
      | (with_reducible exact LeO.refl _)
      | (with_reducible exact LeO.none _)
      | (with_reducible refine LeO.ite ?_ ?_)
      | (with_reducible refine LeO.bind ?_ (fun _ => ?_))
      | exact ih0 _ _ _ _ _ _ _ _
      | exact ih1 _ _ _ _ _ _ _ _ _ _
      | exact ih2 _ _ _ _ _ _ _ _ _ _ _ _
      | exact ih3 _ _ _ _ _ _ _ _ _ _ _ _ _ _ _
      | exact ih4 _ _ _ _ _ _ _ _ _ _ _
      | exact ih5 _
      | exact bch_mul.mono _ _ _
      | exact gf_Inv.mono _ _
      | exact LeO.none _
      | refine LeO.ite ?_ ?_
      | refine LeO.bind ?_ (fun _ => ?_)
    · intro y0
      unfold bch_locator.l4
      repeat' first
      | (with_reducible exact ih0 _ _ _ _ _ _ _ _)
      | (with_reducible exact ih1 _ _ _ _ _ _ _ _ _ _)
      | (with_reducible exact ih2 _ _ _ _ _ _ _ _ _ _ _ _)
      | (with_reducible exact ih3 _ _ _ _ _ _ _ _ _ _ _ _ _ _ _)
      | (with_reducible exact ih4 _ _ _ _ _ _ _ _ _ _ _)
      | (with_reducible exact ih5 _)
      | (with_reducible exact bch_mul.mono _ _ _)
      | (with_reducible exact gf_Inv.mono _ _)
      | (with_reducible exact LeO.refl _)
      | (with_reducible exact LeO.none _)
      | (with_reducible refine LeO.ite ?_ ?_)
      | (with_reducible refine LeO.bind ?_ (fun _ => ?_))
      | exact ih0 _ _ _ _ _ _ _ _
      | exact ih1 _ _ _ _ _ _ _ _ _ _
      | exact ih2 _ _ _ _ _ _ _ _ _ _ _ _
      | exact ih3 _ _ _ _ _ _ _ _ _ _ _ _ _ _ _
      | exact ih4 _ _ _ _ _ _ _ _ _ _ _
      | exact ih5 _
      | exact bch_mul.mono _ _ _
      | exact gf_Inv.mono _ _
      | exact LeO.none _
      | refine LeO.ite ?_ ?_
      | refine LeO.bind ?_ (fun _ => ?_)
theorem bch_locator.mono : ∀ a0 k, LeO (bch_locator.f k a0) (bch_locator.f (k + 1) a0) := by
  intro a0 k
  obtain ⟨ih0, ih1, ih2, ih3, ih4, ih5⟩ := bch_locator.mono_l k
  unfold bch_locator.f
  repeat' first
      | (with_reducible exact ih0 _ _ _ _ _ _ _ _)
      | (with_reducible exact ih1 _ _ _ _ _ _ _ _ _ _)
      | (with_reducible exact ih2 _ _ _ _ _ _ _ _ _ _ _ _)
      | (with_reducible exact ih3 _ _ _ _ _ _ _ _ _ _ _ _ _ _ _)
      | (with_reducible exact ih4 _ _ _ _ _ _ _ _ _ _ _)
      | (with_reducible exact ih5 _)
      | (with_reducible exact bch_mul.mono _ _ _)
      | (with_reducible exact gf_Inv.mono _ _)
      | (with_reducible exact LeO.refl _)
      | (with_reducible exact LeO.none _)
      | (with_reducible refine LeO.ite ?_ ?_)
      | (with_reducible refine LeO.bind ?_ (fun _ => ?_))
      | exact ih0 _ _ _ _ _ _ _ _
      | exact ih1 _ _ _ _ _ _ _ _ _ _
      | exact ih2 _ _ _ _ _ _ _ _ _ _ _ _
      | exact ih3 _ _ _ _ _ _ _ _ _ _ _ _ _ _ _
      | exact ih4 _ _ _ _ _ _ _ _ _ _ _
      | exact ih5 _
      | exact bch_mul.mono _ _ _
      | exact gf_Inv.mono _ _
      | exact LeO.none _
      | refine LeO.ite ?_ ?_
      | refine LeO.bind ?_ (fun _ => ?_)
def bch_locator.T10 : Bool × List (List Nat × List Nat) := (true, [([], []), ([], []), ([], []), ([1, 2], [1, 2]), ([3], [3]), ([], []), ([], []), ([], []), ([6, 7], [6, 7]), ([5, 8], [5, 8]), ([9], [9]), ([4, 10], [4, 10]), ([0, 11], [0, 11]), ([12, 11, 0, 1, 2, 3, 4, 5, 6, 7, 8, 9, 10, 11, 12], [0, 12])])
def bch_locator.B10 : List Nat := [0, 0, 0, 6, 14, 0, 0, 0, 192, 480, 992, 2046, 4095, 8191]
theorem bch_locator.tab10 : rtab .any (opsOf Try.f36 10) = bch_locator.T10 := by kernel_rfl
theorem bch_locator.bits10 : waitsOk bch_locator.T10.2 bch_locator.B10 = true := by kernel_rfl
def bch_locator.T22 : Bool × List (List Nat × List Nat) := (true, [([], []), ([], []), ([], []), ([1, 2], [1, 2]), ([0, 3], [0, 3]), ([4], [4]), ([], []), ([], []), ([6, 7], [6, 7]), ([5, 8], [5, 8]), ([0, 3, 0, 1, 2, 3, 4, 5, 6, 7, 8, 9], [0, 3]), ([10, 9, 8, 0, 1, 2, 3, 4, 5, 6, 7, 8, 9], [9, 10])])
def bch_locator.B22 : List Nat := [0, 0, 0, 6, 15, 31, 0, 0, 192, 511, 1023, 2047]
theorem bch_locator.tab22 : rtab .any (opsOf Try.f36 22) = bch_locator.T22 := by kernel_rfl
theorem bch_locator.bits22 : waitsOk bch_locator.T22.2 bch_locator.B22 = true := by kernel_rfl
set_option maxHeartbeats 8000000 in
set_option maxRecDepth 100000 in
theorem bch_locator.calls (k : Nat) (A0 : Option Addr) (c0 : Nat) (l0 : List Int) (r : List Int) (w : World) (hr0 : Kd.C (Kd.int .i64) w A0 l0.length l0) (hc0 : l0.length ≤ c0) (h : bch_locator.f k l0 = some r) :
    Calls Try.prog 36 #[.slice A0 l0.length c0] w fun e w' => ∃ v0_ : Value, e = .returned (v0_) ∧ Kd.R (Kd.int .i64) 3 w' w.heap.size (fun _ => True) v0_ r ∧ Below w.heap.size w w' := by
  have HR0 := Aside0.mk hr0
  have HC0 := Aside0.mk hc0
  clear hr0 hc0
  have HB := Aside0.mk (Below.refl w.heap.size w)
  have H : (bch_locator.l0 k l0 (([1] : List Int)) (([1] : List Int)) 0 1 1 (l0.length : Int) 0) = some r := h
  clear h
  obtain ⟨y205, hy205⟩ : ∃ y_ : List Int, y_ = (([1] : List Int)) := ⟨_, rfl⟩
  replace H : (bch_locator.l0 k l0 y205 (([1] : List Int)) 0 1 1 (l0.length : Int) 0) = some r := by first | (rw [hy205]; with_reducible exact H) | (have H2_ := (Option.bind_some _ _).symm.trans H; rw [hy205]; with_reducible exact H2_) | (have H2_ := (Option.bind_some _ _).symm.trans H; with_reducible exact H2_) | with_reducible exact H | (rw [hy205]; exact H) | exact H
  have Ny205 := Aside0.mk hy205
  clear hy205
  obtain ⟨y208, hy208⟩ : ∃ y_ : List Int, y_ = (([1] : List Int)) := ⟨_, rfl⟩
  replace H : (bch_locator.l0 k l0 y205 y208 0 1 1 (l0.length : Int) 0) = some r := by first | (rw [hy208]; with_reducible exact H) | (have H2_ := (Option.bind_some _ _).symm.trans H; rw [hy208]; with_reducible exact H2_) | (have H2_ := (Option.bind_some _ _).symm.trans H; with_reducible exact H2_) | with_reducible exact H | (rw [hy208]; exact H) | exact H
  have Ny208 := Aside0.mk hy208
  clear hy208
  have H' := Aside0.mk H
  clear H
  go_enter Try.func36, Try.ntmps36
  go_wp2_with (first | ((with_reducible refine gate_dst (N := 17) rfl ?_); (try (refine gate_guard (by rfl) ?_; dsimp only)); refine Kd.R_lit (Kd.int .i64) _ 3 ?hg (N := 17) ?hd (xs := ([1] : List Int)) (inner := [.int .i64 1]) (ok := fun _ => True) (okp := fun _ => True) ?hr ?hp (fun _ hk => hk) trivial (Below.refl _ _) (Nat.le_refl _) (by simp) ?_; (case hd => rfl); (case hg => rfl); (case hr => first | (go_simp; done) | (go_simp; rfl)); (case hp => exact (Reps.one (show Kd.M (Kd.int .i64) _ _ _ 1 [.int .i64 1] from rfl) (Reps.none _ _))); intro v206 w2 ho3 hb hg_ hnew_; clear hg_ hnew_; (first | rw [← Ny205.out] at ho3 | (simp only [Int.reduceToNat] at ho3; rw [← Ny205.out] at ho3)); have n0_ := Aside0.mk (Kd.R_lower ho3 (below_size (by repeat (first | (with_reducible first | exact HB.out | apply below_alloc | apply pw_below_drewN | apply below_drew1) | exact HB.out)))); have n1_ := Aside0.mk (below_step (by repeat (first | (with_reducible first | exact HB.out | apply below_alloc | apply pw_below_drewN | apply below_drew1) | exact HB.out)) hb); clear HB; have HO207 := n0_; have HB := n1_; clear n0_ n1_; clear hb ho3) | ((with_reducible refine gate_dst (N := 18) rfl ?_); (try (refine gate_guard (by rfl) ?_; dsimp only)); refine Kd.R_lit (Kd.int .i64) _ 3 ?hg (N := 18) ?hd (xs := ([1] : List Int)) (inner := [.int .i64 1]) (ok := fun _ => True) (okp := fun _ => True) ?hr ?hp (fun _ hk => hk) trivial (Below.refl _ _) (Nat.le_refl _) (by simp) ?_; (case hd => rfl); (case hg => rfl); (case hr => first | (go_simp; done) | (go_simp; rfl)); (case hp => exact (Reps.one (show Kd.M (Kd.int .i64) _ _ _ 1 [.int .i64 1] from rfl) (Reps.none _ _))); intro v209 w4 ho5 hb hg_ hnew_; clear hg_ hnew_; (first | rw [← Ny208.out] at ho5 | (simp only [Int.reduceToNat] at ho5; rw [← Ny208.out] at ho5)); have n0_ := Aside0.mk (Kd.R_elder' (by (with_reducible repeat (first | apply Kd.R_alloc | apply Kd.R_drewN | apply Kd.R_drew)); exact HO207.out) (Kd.R_base ho5) hb); have n1_ := Aside0.mk (Kd.R_lower (Kd.R_new' ho5 (Kd.R_lt (by (with_reducible repeat (first | apply Kd.R_alloc | apply Kd.R_drewN | apply Kd.R_drew)); exact HO207.out))) (below_size (by repeat (first | (with_reducible first | exact HB.out | apply below_alloc | apply pw_below_drewN | apply below_drew1) | exact HB.out)))); have n2_ := Aside0.mk (below_step (by repeat (first | (with_reducible first | exact HB.out | apply below_alloc | apply pw_below_drewN | apply below_drew1) | exact HB.out)) hb); clear HO207; clear HB; have HO207 := n0_; have HO210 := n1_; have HB := n2_; clear n0_ n1_ n2_; clear hb ho5))
  go_loopg [3, 4, 5, 6, 7, 21] k (fun kq v3 v4 v5 v6 v7 v21 w' => ∃ (x3_1 : List Int) (x4_1 : List Int) (x5_1 : Int) (x6_1 : Int) (x7_1 : Int) (x21_1 : Int), v5 = .int .i64 x5_1 ∧ v6 = .int .i64 x6_1 ∧ v7 = .int .i64 x7_1 ∧ v21 = .int .i64 x21_1 ∧ Aside0 (bch_locator.l0 kq l0 x3_1 x4_1 x5_1 x6_1 x7_1 (l0.length : Int) x21_1 = some r) ∧ Aside0 (kq ≤ k) ∧ Aside0 (Kd.R (Kd.int .i64) 3 w' w.heap.size (fun k_ => some k_ ≠ (v4 : Value).ownBlock) v3 x3_1) ∧ Aside0 (Kd.R (Kd.int .i64) 3 w' w.heap.size (fun k_ => some k_ ≠ (v3 : Value).ownBlock) v4 x4_1) ∧ Aside0 (Below w.heap.size w w'))
  case atStart => exact ⟨(y205), (y208), (0), (1), (1), (0), (by first | rfl | (simp; done) | (simp [*]; done)), (by first | rfl | (simp; done) | (simp [*]; done)), (by first | rfl | (simp; done) | (simp [*]; done)), (by first | rfl | (simp; done) | (simp [*]; done)), H', ⟨Nat.le_refl _⟩, ⟨by (with_reducible repeat (first | apply Kd.R_alloc | apply Kd.R_drewN | apply Kd.R_drew)); exact Kd.R_mono HO207.out (fun _ hk => hk.2)⟩, ⟨by (with_reducible repeat (first | apply Kd.R_alloc | apply Kd.R_drewN | apply Kd.R_drew)); exact Kd.R_mono HO210.out (fun _ hk => hk.2)⟩, ⟨by repeat (first | (with_reducible first | exact HB.out | apply below_alloc | apply pw_below_drewN | apply below_drew1) | exact HB.out)⟩⟩
  case round =>
    clear H'
    try clear p2
    try clear c3
    obtain ⟨x3_1, x4_1, x5_1, x6_1, x7_1, x21_1, rfl, rfl, rfl, rfl, HA, HK1, HO_3, HO_4, HB⟩ := hrel
    cases gk with
    | zero => exact absurd HA.out (by simp [bch_locator.l0])
    | succ k1 =>
      have H := HA.out
      clear HA
      simp only [bch_locator.l0] at H
      by_cases c6 : x21_1 < (l0.length : Int)
      · rw [if_pos c6] at H
        have c6b0 : decide (x21_1 < (l0.length : Int)) = true := decide_eq_true c6
        clear c6
        by_cases c7 : 0 ≤ x21_1
        · rw [if_pos c7] at H
          have c7b0 : decide (0 ≤ x21_1) = true := decide_eq_true c7
          clear c7
          by_cases c8 : x21_1 < (l0.length : Int)
          · rw [if_pos c8] at H
            have c8b0 : decide (x21_1 < (l0.length : Int)) = true := decide_eq_true c8
            clear c8
            have HC9 := Aside0.mk H
            clear H
            have p211 : 0 ≤ (x21_1 : Int) := of_decide_eq_true (by first | (with_reducible assumption) | assumption)
            have q211 : x21_1 < (l0.length : Int) := of_decide_eq_true (by first | (with_reducible assumption) | assumption)
            obtain ⟨ad211, e211, hx211_0⟩ := Kd.at_int HR0.out x21_1 p211 q211
            cases e211
            replace hx211_0 := (HB.out.cell (World.block_lt_of_cell? w _ hx211_0)).trans hx211_0
            replace p211 := eq_true p211
            replace q211 := eq_true q211
            go_upto_block 2 with (fail)
            go_cut [9] (fun v9 wc => ∃ (kq : Nat) (x9_8 : Int), v9 = .int .i64 x9_8 ∧ Aside0 (bch_locator.j2 kq l0 x3_1 x4_1 x5_1 x6_1 x7_1 x21_1 x9_8 (l0.length : Int) x21_1 = some r) ∧ Aside0 (kq ≤ k1) ∧ Aside0 (Kd.R (Kd.int .i64) 3 wc w.heap.size (fun k_ => some k_ ≠ (u4 : Value).ownBlock) u3 x3_1) ∧ Aside0 (Kd.R (Kd.int .i64) 3 wc w.heap.size (fun k_ => some k_ ≠ (u3 : Value).ownBlock) u4 x4_1) ∧ Aside0 (Below w.heap.size w wc))
            case first =>
              have H := HC9.out
              clear HC9
              have H' := Aside0.mk H
              clear H
              go_wp2
              go_loopg [9, 10] k1 (fun kq v9 v10 w' => ∃ (x9_2 : Int) (x10_2 : Int), v9 = .int .i64 x9_2 ∧ v10 = .int .i64 x10_2 ∧ Aside0 (bch_locator.l1 kq l0 x3_1 x4_1 x5_1 x6_1 x7_1 x21_1 x9_2 x10_2 (l0.length : Int) x21_1 = some r) ∧ Aside0 (kq ≤ k1) ∧ Aside0 (Kd.R (Kd.int .i64) 3 w' w.heap.size (fun k_ => some k_ ≠ (u4 : Value).ownBlock) u3 x3_1) ∧ Aside0 (Kd.R (Kd.int .i64) 3 w' w.heap.size (fun k_ => some k_ ≠ (u3 : Value).ownBlock) u4 x4_1) ∧ Aside0 (Below w.heap.size w w'))
              case atStart => exact ⟨(rd l0 x21_1), (1), (by first | rfl | (simp; done) | (simp [*]; done)), (by first | rfl | (simp; done) | (simp [*]; done)), H', ⟨Nat.le_refl _⟩, ⟨by (with_reducible repeat (first | apply Kd.R_alloc | apply Kd.R_drewN | apply Kd.R_drew)); exact HO_3.out⟩, ⟨by (with_reducible repeat (first | apply Kd.R_alloc | apply Kd.R_drewN | apply Kd.R_drew)); exact HO_4.out⟩, ⟨by repeat (first | (with_reducible first | exact HB.out | apply below_alloc | apply pw_below_drewN | apply below_drew1) | exact HB.out)⟩⟩
              case round =>
                clear H'
                try clear p2
                try clear q2
                try clear hx2
                try clear c3
                try clear c6
                try clear c6b0
                try clear c7
                try clear c7b0
                try clear c8
                try clear c8b0
                try clear hx211_0
                try clear p2
                try clear p211
                try clear q211
                obtain ⟨x9_2, x10_2, rfl, rfl, HA, HK2, HO_3, HO_4, HB⟩ := hrel
                cases gk with
                | zero => exact absurd HA.out (by simp [bch_locator.l1])
                | succ k2 =>
                  have H := HA.out
                  clear HA
                  simp only [bch_locator.l1] at H
                  by_cases c10 : x10_2 ≤ x5_1
                  · rw [if_pos c10] at H
                    have c10b0 : decide (x10_2 ≤ x5_1) = true := decide_eq_true c10
                    clear c10
                    (first | rw [c10b0] | (simp only [i64_w, i32_w]; rw [c10b0]) | skip)
                    by_cases c11 : x10_2 < (x3_1.length : Int)
                    · rw [if_pos c11] at H
                      have c11b0 : decide (x10_2 < (x3_1.length : Int)) = true := decide_eq_true c11
                      clear c11
                      by_cases c12 : 0 ≤ x10_2
                      · rw [if_pos c12] at H
                        have c12b0 : decide (0 ≤ x10_2) = true := decide_eq_true c12
                        clear c12
                        obtain ⟨ji13, hji13⟩ : ∃ j_ : Int, (wrap64 (x21_1 - x10_2)) = j_ := ⟨_, rfl⟩
                        replace H : (if 0 ≤ (ji13) then (if (ji13) < (l0.length : Int) then ((bch_mul.f k2 (rd x3_1 x10_2) (rd l0 (ji13))).bind fun t214 => (bch_locator.l1 k2 l0 x3_1 x4_1 x5_1 x6_1 x7_1 x21_1 (Go.bits .xor .i64 x9_2 t214) (wrap64 (x10_2 + 1)) (l0.length : Int) x21_1)) else (none)) else (none)) = some r := by first | (rw [hji13] at H; exact H) | (simp only [hji13] at H ⊢; exact H)
                        have hji13w : (IntKind.i64.wrap (x21_1 - x10_2)) = ji13 := (i64_w _).trans hji13
                        by_cases c14 : 0 ≤ (ji13)
                        · rw [if_pos c14] at H
                          have c14b0 : decide (0 ≤ (ji13)) = true := decide_eq_true c14
                          clear c14
                          by_cases c15 : (ji13) < (l0.length : Int)
                          · rw [if_pos c15] at H
                            have c15b0 : decide ((ji13) < (l0.length : Int)) = true := decide_eq_true c15
                            clear c15
                            replace H := Option.bind_eq_some_iff.mp H
                            obtain ⟨t214, A160, H⟩ := H
                            replace H : (bch_locator.l1 k2 l0 x3_1 x4_1 x5_1 x6_1 x7_1 x21_1 (Go.bits .xor .i64 x9_2 t214) (wrap64 (x10_2 + 1)) (l0.length : Int) x21_1) = some r := H
                            have A16 := Aside0.mk A160
                            clear A160
                            have H' := Aside0.mk H
                            clear H
                            obtain ⟨Ao17, co17, eo17⟩ := Kd.R_slice HO_3.out
                            subst eo17
                            try go_wp2
                            have n0_ := Aside0.mk (Kd.R_drew HO_3.out)
                            have n1_ := Aside0.mk (Kd.R_drew HO_4.out)
                            have n2_ := Aside0.mk (below_drew1 HB.out)
                            clear HO_3
                            clear HO_4
                            clear HB
                            have HO_3 := n0_
                            have HO_4 := n1_
                            have HB := n2_
                            clear n0_ n1_ n2_
                            have p212 : 0 ≤ (x10_2 : Int) := of_decide_eq_true (by first | (with_reducible assumption) | assumption)
                            have q212 : x10_2 < (x3_1.length : Int) := of_decide_eq_true (by first | (with_reducible assumption) | assumption)
                            obtain ⟨ad212, e212, hx212_0⟩ := Kd.at_int (Kd.R_reads' HO_3.out).2.2 x10_2 p212 q212
                            cases e212
                            replace p212 := eq_true p212
                            replace q212 := eq_true q212
                            have p213 : 0 ≤ ((ji13) : Int) := of_decide_eq_true (by first | (with_reducible assumption) | assumption)
                            have q213 : (ji13) < (l0.length : Int) := of_decide_eq_true (by first | (with_reducible assumption) | assumption)
                            obtain ⟨ad213, e213, hx213_0⟩ := Kd.at_int HR0.out (ji13) p213 q213
                            have hw213_0 := hx213_0
                            obtain rfl : ad211 = ad213 := (by injection e213)
                            replace hx213_0 := (HB.out.cell (World.block_lt_of_cell? w _ hx213_0)).trans hx213_0
                            replace p213 := eq_true p213
                            replace q213 := eq_true q213
                            refine start_ (n := 14) (S := fun w' => w'.cell? (ad212.add (x10_2).toNat) = some (.int .i64 (rd x3_1 x10_2)) ∧ w'.cell? (ad211.add ((ji13)).toNat) = some (.int .i64 (rd l0 (ji13)))) (ds := []) #[false, false, false, false, false, false, false, false, false, false, false, false, false, false] (by kernel_rfl) rfl rfl ⟨hx212_0, ((HB.out.cell (World.block_lt_of_cell? w _ hw213_0)).trans hw213_0)⟩ (fun hHeld => ?_); refine with_tabW bch_locator.tab10 bch_locator.bits10 (fun HT_ HW_ => ?_)
                            generalize wr.drew = w18 at HO_3 HO_4 HB hx212_0 hx213_0 hHeld ⊢
                            refine pure_ (i := 0) (N := some 39) (v := ?_) (a' := ?_) #[true, false, false, false, false, false, false, false, false, false, false, false, false, false] rfl rfl (any_of HT_.out (by kernel_rfl)) (fun _ _ _ h => h) (Or.inl ⟨by rfl, ?_⟩) ?_ ?_
                            rotate_left
                            · intro w'
                              go_simp
                              with_reducible rfl
                            rotate_left
                            · simp only [Act.put, List.setIfInBounds_toArray, List.set_cons_zero, List.set_cons_succ, i64_w, i32_w]
                              rfl
                            refine pure_ (i := 1) (N := some 40) (v := ?_) (a' := ?_) #[true, true, false, false, false, false, false, false, false, false, false, false, false, false] rfl rfl (any_of HT_.out (by kernel_rfl)) (fun _ _ _ h => h) (Or.inl ⟨by rfl, ?_⟩) ?_ ?_
                            rotate_left
                            · intro w'
                              go_simp
                              with_reducible rfl
                            rotate_left
                            · simp only [Act.put, List.setIfInBounds_toArray, List.set_cons_zero, List.set_cons_succ, i64_w, i32_w]
                              rfl
                            refine pure_ (i := 2) (N := some 41) (v := ?_) (a' := ?_) #[true, true, true, false, false, false, false, false, false, false, false, false, false, false] rfl rfl (any_of HT_.out (by kernel_rfl)) (fun _ _ _ h => h) (Or.inl ⟨by rfl, ?_⟩) ?_ ?_
                            rotate_left
                            · intro w'
                              go_simp
                              with_reducible rfl
                            rotate_left
                            · simp only [Act.put, List.setIfInBounds_toArray, List.set_cons_zero, List.set_cons_succ, i64_w, i32_w]
                              rfl
                            refine pure_ (i := 3) (N := some 42) (v := ?_) (a' := ?_) #[true, true, true, true, false, false, false, false, false, false, false, false, false, false] rfl rfl (any_of HT_.out (by kernel_rfl)) (fun _ _ _ h => h) (Or.inl ⟨by rfl, ?_⟩) ?_ ?_
                            rotate_left
                            · intro w'
                              go_simp
                              with_reducible rfl
                            rotate_left
                            · simp only [Act.put, List.setIfInBounds_toArray, List.set_cons_zero, List.set_cons_succ, i64_w, i32_w]
                              rfl
                            refine pure_ (i := 5) (N := some 44) (v := ?_) (a' := ?_) #[true, true, true, true, false, true, false, false, false, false, false, false, false, false] rfl rfl (any_of HT_.out (by kernel_rfl)) (fun _ _ _ h => h) (Or.inl ⟨by rfl, ?_⟩) ?_ ?_
                            rotate_left
                            · intro w'
                              go_simp
                              with_reducible rfl
                            rotate_left
                            · simp only [Act.put, List.setIfInBounds_toArray, List.set_cons_zero, List.set_cons_succ, i64_w, i32_w]
                              rfl
                            refine pure_ (i := 6) (N := some 45) (v := ?_) (a' := ?_) #[true, true, true, true, false, true, true, false, false, false, false, false, false, false] rfl rfl (any_of HT_.out (by kernel_rfl)) (fun _ _ _ h => h) (Or.inl ⟨by rfl, ?_⟩) ?_ ?_
                            rotate_left
                            · intro w'
                              go_simp
                              with_reducible rfl
                            rotate_left
                            · simp only [Act.put, List.setIfInBounds_toArray, List.set_cons_zero, List.set_cons_succ, i64_w, i32_w]
                              rfl
                            refine pure_ (i := 7) (N := some 46) (v := ?_) (a' := ?_) #[true, true, true, true, false, true, true, true, false, false, false, false, false, false] rfl rfl (any_of HT_.out (by kernel_rfl)) (fun _ _ _ h => h) (Or.inl ⟨by rfl, ?_⟩) ?_ ?_
                            rotate_left
                            · intro w'
                              go_simp
                              with_reducible rfl
                            rotate_left
                            · simp only [Act.put, List.setIfInBounds_toArray, List.set_cons_zero, List.set_cons_succ, i64_w, i32_w]
                              rfl
                            refine pure_ (i := 8) (N := some 47) (v := ?_) (a' := ?_) #[true, true, true, true, false, true, true, true, true, false, false, false, false, false] rfl rfl (any_of HT_.out (by kernel_rfl)) (fun _ _ _ h => h) (Or.inl ⟨by rfl, ?_⟩) ?_ ?_
                            rotate_left
                            · intro w'
                              go_simp
                              with_reducible rfl
                            rotate_left
                            · simp only [Act.put, List.setIfInBounds_toArray, List.set_cons_zero, List.set_cons_succ, i64_w, i32_w]
                              rfl
                            refine pure_ (i := 9) (N := some 48) (v := ?_) (a' := ?_) #[true, true, true, true, false, true, true, true, true, true, false, false, false, false] rfl rfl (any_of HT_.out (by kernel_rfl)) (fun _ _ _ h => h) (Or.inl ⟨by rfl, ?_⟩) ?_ ?_
                            rotate_left
                            · intro w'
                              go_simp
                              with_reducible rfl
                            rotate_left
                            · simp only [Act.put, List.setIfInBounds_toArray, List.set_cons_zero, List.set_cons_succ, i64_w, i32_w]
                              rfl
                            refine take_ (i := 4) (N := some 43) (v := ?_) (a' := ?_) #[true, true, true, true, true, true, true, true, true, true, false, false, false, false] rfl rfl (take_ofW HT_.out HW_.out (by kernel_rfl)) (fun _ _ _ h => h) (Or.inl ⟨by rfl, ?_⟩) hHeld ?_ ?_
                            rotate_left
                            · rintro w' ⟨s0, s1⟩
                              go_simp
                              with_reducible rfl
                            rotate_left
                            · simp only [Act.put, List.setIfInBounds_toArray, List.set_cons_zero, List.set_cons_succ, i64_w, i32_w]
                              rfl
                            refine take_ (i := 10) (N := some 49) (v := ?_) (a' := ?_) #[true, true, true, true, true, true, true, true, true, true, true, false, false, false] rfl rfl (take_ofW HT_.out HW_.out (by kernel_rfl)) (fun _ _ _ h => h) (Or.inl ⟨by rfl, ?_⟩) hHeld ?_ ?_
                            rotate_left
                            · rintro w' ⟨s0, s1⟩
                              go_simp
                              with_reducible rfl
                            rotate_left
                            · simp only [Act.put, List.setIfInBounds_toArray, List.set_cons_zero, List.set_cons_succ, i64_w, i32_w]
                              rfl
                            refine one_ (i := 11) (N := some 50) #[true, true, true, true, true, true, true, true, true, true, true, true, false, false] rfl rfl (one_of HT_.out (by kernel_rfl)) (by decide) (fun K hK => ?_)
                            refine goes_ Try.func40 (by kernel_rfl) rfl #[.int .i64 (rd x3_1 x10_2), .int .i64 (rd l0 (ji13))] (by rfl) rfl rfl (by (try simp only [List.map_toArray, List.map_cons, List.map_nil]); first | done | (simp only [hji13]; rfl) | rfl | (simp only [List.length_drop, List.length_take]; rfl)) ?_
                            with_reducible refine (bch_mul.calls k2 (rd x3_1 x10_2) (rd l0 (ji13)) t214 _ A16.out).mono ?_
                            rintro e w' ⟨rfl, ⟨nd, rfl⟩⟩
                            refine ⟨_, rfl, ?_⟩
                            refine hK.out _ _ ⟨hHeld.1, ((HB.out.cell (World.block_lt_of_cell? w _ hw213_0)).trans hw213_0)⟩ (fun hHeld => ?_)
                            clear hK K
                            refine norm_ (a' := ?_) ?_ ?_
                            rotate_left
                            · show Act.put _ (some 50) _ = _
                              simp only [Act.put, List.setIfInBounds_toArray, List.set_cons_zero, List.set_cons_succ, i64_w, i32_w]
                              rfl
                            refine pure_ (i := 12) (N := some 51) (v := ?_) (a' := ?_) #[true, true, true, true, true, true, true, true, true, true, true, true, true, false] rfl rfl (any_of HT_.out (by kernel_rfl)) (fun _ _ _ h => h) (Or.inl ⟨by rfl, ?_⟩) ?_ ?_
                            rotate_left
                            · intro w'
                              go_simp
                              with_reducible rfl
                            rotate_left
                            · simp only [Act.put, List.setIfInBounds_toArray, List.set_cons_zero, List.set_cons_succ, i64_w, i32_w]
                              rfl
                            refine pure_ (i := 13) (N := some 9) (v := ?_) (a' := ?_) #[true, true, true, true, true, true, true, true, true, true, true, true, true, true] rfl rfl (any_of HT_.out (by kernel_rfl)) (fun _ _ _ h => h) (Or.inl ⟨by rfl, ?_⟩) ?_ ?_
                            rotate_left
                            · intro w'
                              go_simp
                              with_reducible rfl
                            rotate_left
                            · simp only [Act.put, List.setIfInBounds_toArray, List.set_cons_zero, List.set_cons_succ, i64_w, i32_w]
                              rfl
                            refine done_ (done_of HT_.out (by kernel_rfl)) ?_
                            try go_wp2
                            go_roundg k2
                            case measure => have := HK1.out; have := HK2.out; omega
                            case rel => exact ⟨(Go.bits .xor .i64 x9_2 t214), (wrap64 (x10_2 + 1)), (by first | rfl | (simp; done) | (simp [*]; done)), (by first | rfl | (simp; done) | (simp [*]; done)), H', ⟨by have := HK1.out; have := HK2.out; omega⟩, ⟨by (with_reducible repeat (first | apply Kd.R_alloc | apply Kd.R_drewN | apply Kd.R_drew)); exact HO_3.out⟩, ⟨by (with_reducible repeat (first | apply Kd.R_alloc | apply Kd.R_drewN | apply Kd.R_drew)); exact HO_4.out⟩, ⟨by repeat (first | (with_reducible first | exact HB.out | apply below_alloc | apply pw_below_drewN | apply below_drew1) | exact HB.out)⟩⟩
                          · rw [if_neg c15] at H
                            exact absurd H (by simp)
                        · rw [if_neg c14] at H
                          exact absurd H (by simp)
                      · rw [if_neg c12] at H
                        exact absurd H (by simp)
                    · rw [if_neg c11] at H
                      have c11b0 : decide (x10_2 < (x3_1.length : Int)) = false := decide_eq_false c11
                      clear c11
                      have H' := Aside0.mk H
                      clear H
                      obtain ⟨Ao19, co19, eo19⟩ := Kd.R_slice HO_3.out
                      subst eo19
                      go_wp2
                      go_meet
                      case rel => exact ⟨_, (x9_2), (by first | rfl | (simp; done) | (simp [*]; done)), H', ⟨by have := HK1.out; have := HK2.out; first | omega | exact Nat.le_refl _⟩, ⟨by (with_reducible repeat (first | apply Kd.R_alloc | apply Kd.R_drewN | apply Kd.R_drew)); exact HO_3.out⟩, ⟨by (with_reducible repeat (first | apply Kd.R_alloc | apply Kd.R_drewN | apply Kd.R_drew)); exact HO_4.out⟩, ⟨by repeat (first | (with_reducible first | exact HB.out | apply below_alloc | apply pw_below_drewN | apply below_drew1) | exact HB.out)⟩⟩
                  · rw [if_neg c10] at H
                    have c10b0 : decide (x10_2 ≤ x5_1) = false := decide_eq_false c10
                    clear c10
                    (first | rw [c10b0] | (simp only [i64_w, i32_w]; rw [c10b0]) | skip)
                    have H' := Aside0.mk H
                    clear H
                    go_wp2
                    go_meet
                    case rel => exact ⟨_, (x9_2), (by first | rfl | (simp; done) | (simp [*]; done)), H', ⟨by have := HK1.out; have := HK2.out; first | omega | exact Nat.le_refl _⟩, ⟨by (with_reducible repeat (first | apply Kd.R_alloc | apply Kd.R_drewN | apply Kd.R_drew)); exact HO_3.out⟩, ⟨by (with_reducible repeat (first | apply Kd.R_alloc | apply Kd.R_drewN | apply Kd.R_drew)); exact HO_4.out⟩, ⟨by repeat (first | (with_reducible first | exact HB.out | apply below_alloc | apply pw_below_drewN | apply below_drew1) | exact HB.out)⟩⟩
            case rest =>
              clear HC9
              try clear c1
              try clear p2
              try clear q2
              try clear hx2
              try clear c3
              try clear c4
              try clear c6
              try clear c6b0
              try clear p6
              try clear c7
              try clear c7b0
              try clear c8
              try clear c8b0
              try clear c10
              try clear c10b0
              try clear c11
              try clear c11b0
              try clear c12
              try clear c12b0
              try clear c14
              try clear c14b0
              try clear c15
              try clear c15b0
              try clear hx211_0
              try clear hx212_0
              try clear hx213_0
              try clear p2
              try clear p211
              try clear p212
              try clear p213
              try clear q2
              try clear q211
              try clear q212
              try clear q213
              obtain ⟨kq, x9_8, rfl, HA, HJ8, HO_3, HO_4, HB⟩ := hcut
              cases kq with
              | zero => exact absurd HA.out (by simp [bch_locator.j2])
              | succ kj8 =>
                have H := HA.out
                clear HA
                simp only [bch_locator.j2] at H
                by_cases c20 : x9_8 = 0
                · rw [if_pos c20] at H
                  have c20b0 : (x9_8 == 0) = true := beq_iff_eq.mpr c20
                  have c20b1 : (x9_8 != 0) = false := bne_eq_false_iff_eq.mpr c20
                  clear c20
                  have H' := Aside0.mk H
                  clear H
                  go_wp2
                  go_roundg kj8
                  case measure => have := HK1.out; have := HJ8.out; omega
                  case rel => exact ⟨(x3_1), (x4_1), (x5_1), (wrap64 (x6_1 + 1)), (x7_1), (wrap64 (x21_1 + 1)), (by first | rfl | (simp; done) | (simp [*]; done)), (by first | rfl | (simp; done) | (simp [*]; done)), (by first | rfl | (simp; done) | (simp [*]; done)), (by first | rfl | (simp; done) | (simp [*]; done)), H', ⟨by have := HK1.out; have := HJ8.out; omega⟩, ⟨by (with_reducible repeat (first | apply Kd.R_alloc | apply Kd.R_drewN | apply Kd.R_drew)); exact HO_3.out⟩, ⟨by (with_reducible repeat (first | apply Kd.R_alloc | apply Kd.R_drewN | apply Kd.R_drew)); exact HO_4.out⟩, ⟨by repeat (first | (with_reducible first | exact HB.out | apply below_alloc | apply pw_below_drewN | apply below_drew1) | exact HB.out)⟩⟩
                · rw [if_neg c20] at H
                  have c20b0 : (x9_8 == 0) = false := beq_eq_false_iff_ne.mpr c20
                  have c20b1 : (x9_8 != 0) = true := bne_iff_ne.mpr c20
                  replace H := Option.bind_eq_some_iff.mp H
                  obtain ⟨⟨t215, t216⟩, A210, H⟩ := H
                  replace H : ((bch_mul.f kj8 x9_8 t215).bind fun t217 => ((slices_Clone_int_int.f x3_1).bind fun t218 => (bch_locator.l2 kj8 l0 x3_1 x4_1 x5_1 x6_1 x7_1 x21_1 x9_8 t217 t218 (l0.length : Int) x21_1))) = some r := H
                  have A21 := Aside0.mk A210
                  clear A210
                  replace H := Option.bind_eq_some_iff.mp H
                  obtain ⟨t217, A220, H⟩ := H
                  replace H : ((slices_Clone_int_int.f x3_1).bind fun t218 => (bch_locator.l2 kj8 l0 x3_1 x4_1 x5_1 x6_1 x7_1 x21_1 x9_8 t217 t218 (l0.length : Int) x21_1)) = some r := H
                  have A22 := Aside0.mk A220
                  clear A220
                  replace H := Option.bind_eq_some_iff.mp H
                  obtain ⟨t218, A230, H⟩ := H
                  replace H : (bch_locator.l2 kj8 l0 x3_1 x4_1 x5_1 x6_1 x7_1 x21_1 x9_8 t217 t218 (l0.length : Int) x21_1) = some r := H
                  have A23 := Aside0.mk A230
                  clear A230
                  have H' := Aside0.mk H
                  clear H
                  go_wp2_with (first | ((with_reducible refine gate_callee (f := 57) rfl ?_); refine goesL_ (some 58) rfl rfl Try.func57 (by kernel_rfl) rfl #[.int .i64 x7_1] rfl (by (try simp only [List.map_toArray, List.map_cons, List.map_nil]); first | done | rfl | (simp only [List.length_drop, List.length_take]; rfl)) ?_; (with_reducible refine (gf_Inv.calls kj8 x7_1 t215 t216 _ A21.out).mono ?_); rintro e w' ⟨rfl, ⟨nd, rfl⟩⟩; refine ⟨_, rfl, ?_⟩) | ((with_reducible refine gate_callee (f := 40) rfl ?_); refine goesL_ (some 63) rfl rfl Try.func40 (by kernel_rfl) rfl #[.int .i64 x9_8, .int .i64 t215] rfl (by (try simp only [List.map_toArray, List.map_cons, List.map_nil]); first | done | rfl | (simp only [List.length_drop, List.length_take]; rfl)) ?_; (with_reducible refine (bch_mul.calls kj8 x9_8 t215 t217 _ A22.out).mono ?_); rintro e w' ⟨rfl, ⟨nd, rfl⟩⟩; refine ⟨_, rfl, ?_⟩; obtain ⟨Ao24, co24, eo24⟩ := Kd.R_slice HO_3.out; subst eo24) | ((with_reducible refine gate_callee (f := 58) rfl ?_); refine goesL_ (some 65) rfl rfl Try.func58 (by kernel_rfl) rfl #[.slice Ao24 x3_1.length co24] rfl (by (try simp only [List.map_toArray, List.map_cons, List.map_nil]); first | done | rfl | (simp only [List.length_drop, List.length_take]; rfl)) ?_; (with_reducible refine (slices_Clone_int_int.calls _ _ x3_1 t218 _ ?side1 ?side2 A23.out).mono ?_); (case side1 => repeat (first | exact (Kd.R_reads' HO_3.out).2.2 | (with_reducible refine Kd.C_alloc ?_ _) | (with_reducible refine Kd.C_drewN ?_ _) | (with_reducible refine Kd.C_drew ?_))); (case side2 => exact (Kd.R_reads' HO_3.out).2.1); rintro e w25 ⟨v219, rfl, ho0, hb⟩; refine ⟨_, rfl, ?_⟩; have n0_ := Aside0.mk (Kd.R_elder' (by (with_reducible repeat (first | apply Kd.R_alloc | apply Kd.R_drewN | apply Kd.R_drew)); exact HO_3.out) (Kd.R_base ho0) hb); have n1_ := Aside0.mk (Kd.R_elder' (by (with_reducible repeat (first | apply Kd.R_alloc | apply Kd.R_drewN | apply Kd.R_drew)); exact HO_4.out) (Kd.R_base ho0) hb); have n2_ := Aside0.mk (Kd.R_lower (Kd.R_new' (Kd.R_new' ho0 (Kd.R_lt (by (with_reducible repeat (first | apply Kd.R_alloc | apply Kd.R_drewN | apply Kd.R_drew)); exact HO_3.out))) (Kd.R_lt (by (with_reducible repeat (first | apply Kd.R_alloc | apply Kd.R_drewN | apply Kd.R_drew)); exact HO_4.out))) (below_size (by repeat (first | (with_reducible first | exact HB.out | apply below_alloc | apply pw_below_drewN | apply below_drew1) | exact HB.out)))); have n3_ := Aside0.mk (below_step (by repeat (first | (with_reducible first | exact HB.out | apply below_alloc | apply pw_below_drewN | apply below_drew1) | exact HB.out)) hb); clear HO_3; clear HO_4; clear HB; have HO_3 := n0_; have HO_4 := n1_; have HO220 := n2_; have HB := n3_; clear n0_ n1_ n2_ n3_; (try clear hb); (try clear hb2); (try clear hk); (try clear hi); (try clear ho0)))
                  go_loopg [3] kj8 (fun kq v3 w' => ∃ (x3_3 : List Int), Aside0 (bch_locator.l2 kq l0 x3_3 x4_1 x5_1 x6_1 x7_1 x21_1 x9_8 t217 t218 (l0.length : Int) x21_1 = some r) ∧ Aside0 (kq ≤ kj8) ∧ Aside0 (Kd.R (Kd.int .i64) 3 w' w.heap.size (fun k_ => some k_ ≠ (u4 : Value).ownBlock ∧ some k_ ≠ (v219 : Value).ownBlock) v3 x3_3) ∧ Aside0 (Kd.R (Kd.int .i64) 3 w' w.heap.size (fun k_ => some k_ ≠ (v3 : Value).ownBlock ∧ some k_ ≠ (v219 : Value).ownBlock) u4 x4_1) ∧ Aside0 (Kd.R (Kd.int .i64) 3 w' w.heap.size (fun k_ => some k_ ≠ (v3 : Value).ownBlock ∧ some k_ ≠ (u4 : Value).ownBlock) v219 t218) ∧ Aside0 (Below w.heap.size w w'))
                  case atStart => exact ⟨(x3_1), H', ⟨Nat.le_refl _⟩, ⟨by (with_reducible repeat (first | apply Kd.R_alloc | apply Kd.R_drewN | apply Kd.R_drew)); exact HO_3.out⟩, ⟨by (with_reducible repeat (first | apply Kd.R_alloc | apply Kd.R_drewN | apply Kd.R_drew)); exact HO_4.out⟩, ⟨by (with_reducible repeat (first | apply Kd.R_alloc | apply Kd.R_drewN | apply Kd.R_drew)); exact Kd.R_mono HO220.out (fun _ hk => ⟨hk.1.2, hk.2⟩)⟩, ⟨by repeat (first | (with_reducible first | exact HB.out | apply below_alloc | apply pw_below_drewN | apply below_drew1) | exact HB.out)⟩⟩
                  case round =>
                    clear H'
                    try clear c1
                    try clear c2
                    try clear p2
                    try clear q2
                    try clear hx2
                    try clear c3
                    try clear c4
                    try clear c5
                    try clear c6
                    try clear c6b0
                    try clear p6
                    try clear c7
                    try clear c7b0
                    try clear c8
                    try clear c8b0
                    try clear c10
                    try clear c10b0
                    try clear c11
                    try clear c11b0
                    try clear c12
                    try clear c12b0
                    try clear c14
                    try clear c14b0
                    try clear c15
                    try clear c15b0
                    try clear c20
                    try clear c20b0
                    try clear c20b1
                    try clear p21
                    try clear q21
                    try clear hx21
                    try clear hx211_0
                    try clear hx212_0
                    try clear hx213_0
                    try clear p2
                    try clear p211
                    try clear p212
                    try clear p213
                    try clear p6
                    try clear q2
                    try clear q211
                    try clear q212
                    try clear q213
                    obtain ⟨x3_3, HA, HK3, HO_3, HO_4, HO_14, HB⟩ := hrel
                    cases gk with
                    | zero => exact absurd HA.out (by simp [bch_locator.l2])
                    | succ k3 =>
                      have H := HA.out
                      clear HA
                      simp only [bch_locator.l2] at H
                      by_cases c26 : (x3_3.length : Int) < (wrap64 ((x4_1.length : Int) + x6_1))
                      · rw [if_pos c26] at H
                        have c26b0 : decide ((x3_3.length : Int) < (wrap64 ((x4_1.length : Int) + x6_1))) = true := decide_eq_true c26
                        clear c26
                        by_cases c27 : 0 < x3_3.length ∧ x3_3.length < 17592186044416
                        · rw [if_pos c27] at H
                          have LMc27 := Aside0.mk c27
                          clear c27
                          obtain ⟨y221, hy221⟩ : ∃ y_ : List Int, y_ = (x3_3 ++ [0]) := ⟨_, rfl⟩
                          replace H : (bch_locator.l2 k3 l0 y221 x4_1 x5_1 x6_1 x7_1 x21_1 x9_8 t217 t218 (l0.length : Int) x21_1) = some r := by first | (rw [hy221]; with_reducible exact H) | (have H2_ := (Option.bind_some _ _).symm.trans H; rw [hy221]; with_reducible exact H2_) | (have H2_ := (Option.bind_some _ _).symm.trans H; with_reducible exact H2_) | with_reducible exact H | (rw [hy221]; exact H) | exact H
                          have Ny221 := Aside0.mk hy221
                          clear hy221
                          have H' := Aside0.mk H
                          clear H
                          obtain ⟨Ao28, co28, eo28⟩ := Kd.R_slice HO_3.out
                          subst eo28
                          obtain ⟨Ao29, co29, eo29⟩ := Kd.R_slice HO_4.out
                          subst eo29
                          obtain ⟨adz_, eaz_, hcz_⟩ := cl_cells (Kd.R_reads' HO_3.out).2.2 rfl LMc27.out.1
                          subst eaz_
                          have hroomz_ := (Kd.R_reads' HO_3.out).2.1
                          have HCZ := Aside0.mk hcz_
                          clear hcz_
                          go_wp2_with (first | ((with_reducible refine gate_builtin (b := .append) (xs := #[.tmp 78, .tmp 79]) rfl ?_); at_builtin; refine cut_append (.tmp 78) (.tmp 79) rfl rfl adz_ x3_3 rfl (fun j u hu => cl_al _ (HCZ.out j u hu)) wr.heap.size 0 rfl ((blk_cell (blk_new wr _) 0).trans rfl) LMc27.out.2 ?_; intro v222 w30 ho hb0; rw [← Ny221.out] at ho; have hE := below_step (below_alloc (Below.refl _ wr) _) hb0; rw [World.size_alloc] at ho; have ho1 := Kd.R_lower ho (Nat.le_succ wr.heap.size); have n0_ := Aside0.mk (Kd.R_elder' (Kd.R_mono HO_4.out (fun _ hk => hk.2)) (own_base (Kd.own_of_R ho1)) hE); have n1_ := Aside0.mk (Kd.R_elder' (Kd.R_mono HO_14.out (fun _ hk => hk.2)) (own_base (Kd.own_of_R ho1)) hE); have n2_ := Aside0.mk (below_step HB.out hE); have n3_ := Aside0.mk (Kd.R_lower (Kd.R_mono (ok' := (fun k_ => some k_ ≠ (.slice Ao29 x4_1.length co29 : Value).ownBlock ∧ some k_ ≠ (v219 : Value).ownBlock)) (Kd.R_bound ho1) (fun k_ hk => ⟨Kd.fresh' (Kd.R_lt HO_4.out) k_ hk.2.1, Kd.fresh' (Kd.R_lt HO_14.out) k_ hk.2.1⟩)) HB.out.size); clear HO_4; clear HO_14; clear HB; clear HO_3; have HO_4 := n0_; have HO_14 := n1_; have HB := n2_; have HO223 := n3_; clear n0_ n1_ n2_ n3_; clear ho ho1 hb0 hE HCZ))
                          go_roundg k3
                          case measure => have := HK1.out; have := HJ8.out; have := HK3.out; omega
                          case rel => exact ⟨(y221), H', ⟨by have := HK1.out; have := HJ8.out; have := HK3.out; omega⟩, ⟨by (with_reducible repeat (first | apply Kd.R_alloc | apply Kd.R_drewN | apply Kd.R_drew)); exact HO223.out⟩, ⟨by (with_reducible repeat (first | apply Kd.R_alloc | apply Kd.R_drewN | apply Kd.R_drew)); exact Kd.R_mono HO_4.out (fun _ hk => ⟨hk.2, hk.1⟩)⟩, ⟨by (with_reducible repeat (first | apply Kd.R_alloc | apply Kd.R_drewN | apply Kd.R_drew)); exact Kd.R_mono HO_14.out (fun _ hk => ⟨hk.2, hk.1⟩)⟩, ⟨by repeat (first | (with_reducible first | exact HB.out | apply below_alloc | apply pw_below_drewN | apply below_drew1) | exact HB.out)⟩⟩
                        · rw [if_neg c27] at H
                          exact absurd H (by simp)
                      · rw [if_neg c26] at H
                        have c26b0 : decide ((x3_3.length : Int) < (wrap64 ((x4_1.length : Int) + x6_1))) = false := decide_eq_false c26
                        clear c26
                        replace H := Option.bind_eq_some_iff.mp H
                        obtain ⟨t224, A310, H⟩ := H
                        replace H : (bch_locator.l3 k3 l0 t224 x4_1 x5_1 x6_1 x7_1 x21_1 x9_8 t217 t218 (l0.length : Int) x21_1 x4_1 (x4_1.length : Int) 0) = some r := H
                        have A31 := Aside0.mk A310
                        clear A310
                        have H' := Aside0.mk H
                        clear H
                        obtain ⟨Ao32, co32, eo32⟩ := Kd.R_slice HO_3.out
                        subst eo32
                        obtain ⟨Ao33, co33, eo33⟩ := Kd.R_slice HO_4.out
                        subst eo33
                        go_wp2_with (first | ((with_reducible refine gate_callee (f := 58) rfl ?_); refine goesL_ (some 82) rfl rfl Try.func58 (by kernel_rfl) rfl #[.slice Ao32 x3_3.length co32] rfl (by (try simp only [List.map_toArray, List.map_cons, List.map_nil]); first | done | rfl | (simp only [List.length_drop, List.length_take]; rfl)) ?_; (with_reducible refine (slices_Clone_int_int.calls _ _ x3_3 t224 _ ?side1 ?side2 A31.out).mono ?_); (case side1 => repeat (first | exact (Kd.R_reads' HO_3.out).2.2 | (with_reducible refine Kd.C_alloc ?_ _) | (with_reducible refine Kd.C_drewN ?_ _) | (with_reducible refine Kd.C_drew ?_))); (case side2 => exact (Kd.R_reads' HO_3.out).2.1); rintro e w34 ⟨v225, rfl, ho0, hb⟩; refine ⟨_, rfl, ?_⟩; have n0_ := Aside0.mk (Kd.R_elder' (by (with_reducible repeat (first | apply Kd.R_alloc | apply Kd.R_drewN | apply Kd.R_drew)); exact HO_3.out) (Kd.R_base ho0) hb); have n1_ := Aside0.mk (Kd.R_elder' (by (with_reducible repeat (first | apply Kd.R_alloc | apply Kd.R_drewN | apply Kd.R_drew)); exact HO_4.out) (Kd.R_base ho0) hb); have n2_ := Aside0.mk (Kd.R_elder' (by (with_reducible repeat (first | apply Kd.R_alloc | apply Kd.R_drewN | apply Kd.R_drew)); exact HO_14.out) (Kd.R_base ho0) hb); have n3_ := Aside0.mk (Kd.R_lower (Kd.R_new' (Kd.R_new' (Kd.R_new' ho0 (Kd.R_lt (by (with_reducible repeat (first | apply Kd.R_alloc | apply Kd.R_drewN | apply Kd.R_drew)); exact HO_3.out))) (Kd.R_lt (by (with_reducible repeat (first | apply Kd.R_alloc | apply Kd.R_drewN | apply Kd.R_drew)); exact HO_4.out))) (Kd.R_lt (by (with_reducible repeat (first | apply Kd.R_alloc | apply Kd.R_drewN | apply Kd.R_drew)); exact HO_14.out))) (below_size (by repeat (first | (with_reducible first | exact HB.out | apply below_alloc | apply pw_below_drewN | apply below_drew1) | exact HB.out)))); have n4_ := Aside0.mk (below_step (by repeat (first | (with_reducible first | exact HB.out | apply below_alloc | apply pw_below_drewN | apply below_drew1) | exact HB.out)) hb); clear HO_3; clear HO_4; clear HO_14; clear HB; have HO_3 := n0_; have HO_4 := n1_; have HO_14 := n2_; have HO226 := n3_; have HB := n4_; clear n0_ n1_ n2_ n3_ n4_; (try clear hb); (try clear hb2); (try clear hk); (try clear hi); (try clear ho0)))
                        go_loopg [85] k3 (fun kq v85 w' => ∃ (x3_4 : List Int) (x85_4 : Int), v85 = .int .i64 x85_4 ∧ Aside0 (bch_locator.l3 kq l0 x3_4 x4_1 x5_1 x6_1 x7_1 x21_1 x9_8 t217 t218 (l0.length : Int) x21_1 x4_1 (x4_1.length : Int) x85_4 = some r) ∧ Aside0 (kq ≤ k3) ∧ Aside0 (Kd.R (Kd.int .i64) 3 w' w.heap.size (fun k_ => some k_ ≠ ((.slice Ao33 x4_1.length co33) : Value).ownBlock ∧ some k_ ≠ (v219 : Value).ownBlock ∧ some k_ ≠ ((.slice Ao33 x4_1.length co33) : Value).ownBlock) v225 x3_4) ∧ Aside0 (Kd.R (Kd.int .i64) 3 w' w.heap.size (fun k_ => some k_ ≠ (v225 : Value).ownBlock ∧ some k_ ≠ (v219 : Value).ownBlock) (.slice Ao33 x4_1.length co33) x4_1) ∧ Aside0 (Kd.R (Kd.int .i64) 3 w' w.heap.size (fun k_ => some k_ ≠ (v225 : Value).ownBlock ∧ some k_ ≠ ((.slice Ao33 x4_1.length co33) : Value).ownBlock ∧ some k_ ≠ ((.slice Ao33 x4_1.length co33) : Value).ownBlock) v219 t218) ∧ Aside0 (Kd.R (Kd.int .i64) 3 w' w.heap.size (fun k_ => some k_ ≠ (v225 : Value).ownBlock ∧ some k_ ≠ (v219 : Value).ownBlock) (.slice Ao33 x4_1.length co33) x4_1) ∧ Aside0 (Below w.heap.size w w'))
                        case atStart => exact ⟨(t224), (0), (by first | rfl | (simp; done) | (simp [*]; done)), H', ⟨Nat.le_refl _⟩, ⟨by (with_reducible repeat (first | apply Kd.R_alloc | apply Kd.R_drewN | apply Kd.R_drew)); exact Kd.R_mono HO226.out (fun _ hk => ⟨hk.1.2, ⟨hk.2, hk.1.2⟩⟩)⟩, ⟨by (with_reducible repeat (first | apply Kd.R_alloc | apply Kd.R_drewN | apply Kd.R_drew)); exact Kd.R_mono HO_4.out (fun _ hk => ⟨hk.2, hk.1.2⟩)⟩, ⟨by (with_reducible repeat (first | apply Kd.R_alloc | apply Kd.R_drewN | apply Kd.R_drew)); exact Kd.R_mono HO_14.out (fun _ hk => ⟨hk.2, ⟨hk.1.2, hk.1.2⟩⟩)⟩, ⟨by (with_reducible repeat (first | apply Kd.R_alloc | apply Kd.R_drewN | apply Kd.R_drew)); exact Kd.R_mono HO_4.out (fun _ hk => ⟨hk.2, hk.1.2⟩)⟩, ⟨by repeat (first | (with_reducible first | exact HB.out | apply below_alloc | apply pw_below_drewN | apply below_drew1) | exact HB.out)⟩⟩
                        case round =>
                          clear H'
                          try clear c1
                          try clear c2
                          try clear p2
                          try clear q2
                          try clear hx2
                          try clear c3
                          try clear c4
                          try clear c5
                          try clear c6
                          try clear c6b0
                          try clear p6
                          try clear c7
                          try clear c7b0
                          try clear c8
                          try clear c8b0
                          try clear c10
                          try clear c10b0
                          try clear c11
                          try clear c11b0
                          try clear c12
                          try clear c12b0
                          try clear c14
                          try clear c14b0
                          try clear c15
                          try clear c15b0
                          try clear c20
                          try clear c20b0
                          try clear c20b1
                          try clear p21
                          try clear q21
                          try clear hx21
                          try clear c26
                          try clear c26b0
                          try clear c27
                          try clear hx211_0
                          try clear hx212_0
                          try clear hx213_0
                          try clear p2
                          try clear p21
                          try clear p211
                          try clear p212
                          try clear p213
                          try clear p6
                          try clear q2
                          try clear q21
                          try clear q211
                          try clear q212
                          try clear q213
                          obtain ⟨x3_4, x85_4, rfl, HA, HK4, HO_3, HO_4, HO_14, HO_83, HB⟩ := hrel
                          cases gk with
                          | zero => exact absurd HA.out (by simp [bch_locator.l3])
                          | succ k4 =>
                            have H := HA.out
                            clear HA
                            simp only [bch_locator.l3] at H
                            by_cases c35 : x85_4 < (x4_1.length : Int)
                            · rw [if_pos c35] at H
                              have c35b0 : decide (x85_4 < (x4_1.length : Int)) = true := decide_eq_true c35
                              clear c35
                              by_cases c36 : 0 ≤ x85_4
                              · rw [if_pos c36] at H
                                have c36b0 : decide (0 ≤ x85_4) = true := decide_eq_true c36
                                clear c36
                                by_cases c37 : x85_4 < (x4_1.length : Int)
                                · rw [if_pos c37] at H
                                  have c37b0 : decide (x85_4 < (x4_1.length : Int)) = true := decide_eq_true c37
                                  clear c37
                                  obtain ⟨ji38, hji38⟩ : ∃ j_ : Int, (wrap64 (x85_4 + x6_1)) = j_ := ⟨_, rfl⟩
                                  replace H : (if 0 ≤ (ji38) then (if (ji38) < (x3_4.length : Int) then ((bch_mul.f k4 t217 (rd x4_1 x85_4)).bind fun t229 => (bch_locator.l3 k4 l0 (x3_4.set ((ji38) : Int).toNat (Go.bits .xor .i64 (rd x3_4 (ji38)) t229)) x4_1 x5_1 x6_1 x7_1 x21_1 x9_8 t217 t218 (l0.length : Int) x21_1 x4_1 (x4_1.length : Int) (wrap64 (x85_4 + 1)))) else (none)) else (none)) = some r := by first | (rw [hji38] at H; exact H) | (simp only [hji38] at H ⊢; exact H)
                                  have hji38w : (IntKind.i64.wrap (x85_4 + x6_1)) = ji38 := (i64_w _).trans hji38
                                  by_cases c39 : 0 ≤ (ji38)
                                  · rw [if_pos c39] at H
                                    have c39b0 : decide (0 ≤ (ji38)) = true := decide_eq_true c39
                                    clear c39
                                    by_cases c40 : (ji38) < (x3_4.length : Int)
                                    · rw [if_pos c40] at H
                                      have c40b0 : decide ((ji38) < (x3_4.length : Int)) = true := decide_eq_true c40
                                      clear c40
                                      replace H := Option.bind_eq_some_iff.mp H
                                      obtain ⟨t229, A410, H⟩ := H
                                      replace H : (bch_locator.l3 k4 l0 (x3_4.set ((ji38) : Int).toNat (Go.bits .xor .i64 (rd x3_4 (ji38)) t229)) x4_1 x5_1 x6_1 x7_1 x21_1 x9_8 t217 t218 (l0.length : Int) x21_1 x4_1 (x4_1.length : Int) (wrap64 (x85_4 + 1))) = some r := H
                                      have A41 := Aside0.mk A410
                                      clear A410
                                      obtain ⟨y230, hy230⟩ : ∃ y_ : List Int, y_ = (x3_4.set ((ji38) : Int).toNat (Go.bits .xor .i64 (rd x3_4 (ji38)) t229)) := ⟨_, rfl⟩
                                      replace H : (bch_locator.l3 k4 l0 y230 x4_1 x5_1 x6_1 x7_1 x21_1 x9_8 t217 t218 (l0.length : Int) x21_1 x4_1 (x4_1.length : Int) (wrap64 (x85_4 + 1))) = some r := by first | (rw [hy230]; with_reducible exact H) | (have H2_ := (Option.bind_some _ _).symm.trans H; rw [hy230]; with_reducible exact H2_) | (have H2_ := (Option.bind_some _ _).symm.trans H; with_reducible exact H2_) | with_reducible exact H | (rw [hy230]; exact H) | exact H
                                      have Ny230 := Aside0.mk hy230
                                      clear hy230
                                      have H' := Aside0.mk H
                                      clear H
                                      have p227 : 0 ≤ (x85_4 : Int) := of_decide_eq_true (by first | (with_reducible assumption) | assumption)
                                      have q227 : x85_4 < (x4_1.length : Int) := of_decide_eq_true (by first | (with_reducible assumption) | assumption)
                                      obtain ⟨ad227, e227, hx227_0⟩ := Kd.at_int (Kd.R_reads' HO_83.out).2.2 x85_4 p227 q227
                                      cases e227
                                      replace p227 := eq_true p227
                                      replace q227 := eq_true q227
                                      try go_wp2
                                      have n0_ := Aside0.mk (Kd.R_drew HO_3.out)
                                      have n1_ := Aside0.mk (Kd.R_drew HO_4.out)
                                      have n2_ := Aside0.mk (Kd.R_drew HO_14.out)
                                      have n3_ := Aside0.mk (Kd.R_drew HO_83.out)
                                      have n4_ := Aside0.mk (below_drew1 HB.out)
                                      clear HO_3
                                      clear HO_4
                                      clear HO_14
                                      clear HO_83
                                      clear HB
                                      have HO_3 := n0_
                                      have HO_4 := n1_
                                      have HO_14 := n2_
                                      have HO_83 := n3_
                                      have HB := n4_
                                      clear n0_ n1_ n2_ n3_ n4_
                                      obtain ⟨Ao44, co44, eo44⟩ := Kd.R_slice HO_3.out
                                      (first | subst eo44 | (injection eo44 with f1_ f2_ f3_; have f4_ := f1_.symm; have f5_ := f3_.symm; clear f1_ f2_ f3_; subst f4_; subst f5_))
                                      have p228 : 0 ≤ ((ji38) : Int) := of_decide_eq_true (by first | (with_reducible assumption) | assumption)
                                      have q228 : (ji38) < (x3_4.length : Int) := of_decide_eq_true (by first | (with_reducible assumption) | assumption)
                                      obtain ⟨ad228, e228, hx228_0⟩ := Kd.at_int (Kd.R_reads' HO_3.out).2.2 (ji38) p228 q228
                                      cases e228
                                      replace p228 := eq_true p228
                                      replace q228 := eq_true q228
                                      refine start_ (n := 12) (S := fun w' => w'.cell? (ad228.add ((ji38)).toNat) = some (.int .i64 (rd x3_4 (ji38)))) (ds := [11]) #[false, false, false, false, false, false, false, false, false, false, false, false] (by kernel_rfl) rfl rfl (hx228_0) (fun hHeld => ?_); refine with_tabW bch_locator.tab22 bch_locator.bits22 (fun HT_ HW_ => ?_)
                                      generalize wr.drew = w43 at HO_3 HO_4 HO_14 HO_83 HB hx228_0 hHeld ⊢
                                      refine pure_ (i := 0) (N := some 90) (v := ?_) (a' := ?_) #[true, false, false, false, false, false, false, false, false, false, false, false] rfl rfl (any_of HT_.out (by kernel_rfl)) (fun _ _ _ h => h) (Or.inl ⟨by rfl, ?_⟩) ?_ ?_
                                      rotate_left
                                      · intro w'
                                        go_simp
                                        with_reducible rfl
                                      rotate_left
                                      · simp only [Act.put, List.setIfInBounds_toArray, List.set_cons_zero, List.set_cons_succ, i64_w, i32_w]
                                        rfl
                                      refine pure_ (i := 1) (N := some 91) (v := ?_) (a' := ?_) #[true, true, false, false, false, false, false, false, false, false, false, false] rfl rfl (any_of HT_.out (by kernel_rfl)) (fun _ _ _ h => h) (Or.inl ⟨by rfl, ?_⟩) ?_ ?_
                                      rotate_left
                                      · intro w'
                                        go_simp
                                        with_reducible rfl
                                      rotate_left
                                      · simp only [Act.put, List.setIfInBounds_toArray, List.set_cons_zero, List.set_cons_succ, i64_w, i32_w]
                                        rfl
                                      refine pure_ (i := 2) (N := some 92) (v := ?_) (a' := ?_) #[true, true, true, false, false, false, false, false, false, false, false, false] rfl rfl (any_of HT_.out (by kernel_rfl)) (fun _ _ _ h => h) (Or.inl ⟨by rfl, ?_⟩) ?_ ?_
                                      rotate_left
                                      · intro w'
                                        go_simp
                                        with_reducible rfl
                                      rotate_left
                                      · simp only [Act.put, List.setIfInBounds_toArray, List.set_cons_zero, List.set_cons_succ, i64_w, i32_w]
                                        rfl
                                      refine pure_ (i := 3) (N := some 93) (v := ?_) (a' := ?_) #[true, true, true, true, false, false, false, false, false, false, false, false] rfl rfl (any_of HT_.out (by kernel_rfl)) (fun _ _ _ h => h) (Or.inl ⟨by rfl, ?_⟩) ?_ ?_
                                      rotate_left
                                      · intro w'
                                        go_simp
                                        with_reducible rfl
                                      rotate_left
                                      · simp only [Act.put, List.setIfInBounds_toArray, List.set_cons_zero, List.set_cons_succ, i64_w, i32_w]
                                        rfl
                                      refine pure_ (i := 4) (N := some 94) (v := ?_) (a' := ?_) #[true, true, true, true, true, false, false, false, false, false, false, false] rfl rfl (any_of HT_.out (by kernel_rfl)) (fun _ _ _ h => h) (Or.inl ⟨by rfl, ?_⟩) ?_ ?_
                                      rotate_left
                                      · intro w'
                                        go_simp
                                        with_reducible rfl
                                      rotate_left
                                      · simp only [Act.put, List.setIfInBounds_toArray, List.set_cons_zero, List.set_cons_succ, i64_w, i32_w]
                                        rfl
                                      refine pure_ (i := 6) (N := some 96) (v := ?_) (a' := ?_) #[true, true, true, true, true, false, true, false, false, false, false, false] rfl rfl (any_of HT_.out (by kernel_rfl)) (fun _ _ _ h => h) (Or.inl ⟨by rfl, ?_⟩) ?_ ?_
                                      rotate_left
                                      · intro w'
                                        go_simp
                                        with_reducible rfl
                                      rotate_left
                                      · simp only [Act.put, List.setIfInBounds_toArray, List.set_cons_zero, List.set_cons_succ, i64_w, i32_w]
                                        rfl
                                      refine pure_ (i := 7) (N := some 97) (v := ?_) (a' := ?_) #[true, true, true, true, true, false, true, true, false, false, false, false] rfl rfl (any_of HT_.out (by kernel_rfl)) (fun _ _ _ h => h) (Or.inl ⟨by rfl, ?_⟩) ?_ ?_
                                      rotate_left
                                      · intro w'
                                        go_simp
                                        with_reducible rfl
                                      rotate_left
                                      · simp only [Act.put, List.setIfInBounds_toArray, List.set_cons_zero, List.set_cons_succ, i64_w, i32_w]
                                        rfl
                                      refine take_ (i := 5) (N := some 95) (v := ?_) (a' := ?_) #[true, true, true, true, true, true, true, true, false, false, false, false] rfl rfl (take_ofW HT_.out HW_.out (by kernel_rfl)) (fun _ _ _ h => h) (Or.inl ⟨by rfl, ?_⟩) hHeld ?_ ?_
                                      rotate_left
                                      · intro w' s0
                                        go_simp
                                        with_reducible rfl
                                      rotate_left
                                      · simp only [Act.put, List.setIfInBounds_toArray, List.set_cons_zero, List.set_cons_succ, i64_w, i32_w]
                                        rfl
                                      refine one_ (i := 8) (N := some 98) #[true, true, true, true, true, true, true, true, true, false, false, false] rfl rfl (one_of HT_.out (by kernel_rfl)) (by decide) (fun K hK => ?_)
                                      refine goes_ Try.func40 (by kernel_rfl) rfl #[.int .i64 t217, .int .i64 (rd x4_1 x85_4)] (by rfl) rfl rfl (by (try simp only [List.map_toArray, List.map_cons, List.map_nil]); first | done | rfl | (simp only [List.length_drop, List.length_take]; rfl)) ?_
                                      with_reducible refine (bch_mul.calls k4 t217 (rd x4_1 x85_4) t229 _ A41.out).mono ?_
                                      rintro e w' ⟨rfl, ⟨nd, rfl⟩⟩
                                      refine ⟨_, rfl, ?_⟩
                                      have p42 : 0 ≤ ((ji38) : Int) := of_decide_eq_true (by first | (with_reducible assumption) | assumption)
                                      have q42 : ((ji38) : Int) < ((x3_4.length : Int) : Int) := of_decide_eq_true (by first | (with_reducible assumption) | assumption)
                                      obtain ⟨go42, co42, eo42, gb42, gl42, cl42, HG42⟩ := Kd.R_form HO_3.out (by omega)
                                      (first | cases eo42 | (injection eo42 with ea_ en_ ec_; (first | subst ea_ | (injection ea_ with ea_; subst ea_)); subst ec_; clear en_))
                                      have GB42 := Aside0.mk gb42
                                      have GG42 := Aside0.mk HG42
                                      clear gb42 gl42 HG42
                                      (first | simp only [add_plain] at hx228_0 | skip)
                                      obtain ⟨hx42_0, hf42_0⟩ := Kd.R_celln 0 HO_3.out ((ji38) : Int) p42 q42
                                      replace p42 := eq_true p42
                                      replace q42 := eq_true q42
                                      have HP45 := Kd.R_putn HO_3.out ((ji38) : Int) (Go.bits .xor .i64 (rd x3_4 (ji38)) t229)
                                      rw [← Ny230.out] at HP45
                                      have HQ45 := Aside0.mk HP45
                                      clear HP45
                                      refine hK.out _ _ (hHeld) (fun hHeld => ?_)
                                      clear hK K
                                      refine norm_ (a' := ?_) ?_ ?_
                                      rotate_left
                                      · show Act.put _ (some 98) _ = _
                                        simp only [Act.put, List.setIfInBounds_toArray, List.set_cons_zero, List.set_cons_succ, i64_w, i32_w]
                                        rfl
                                      refine pure_ (i := 9) (N := some 99) (v := ?_) (a' := ?_) #[true, true, true, true, true, true, true, true, true, true, false, false] rfl rfl (any_of HT_.out (by kernel_rfl)) (fun _ _ _ h => h) (Or.inl ⟨by rfl, ?_⟩) ?_ ?_
                                      rotate_left
                                      · intro w'
                                        go_simp
                                        with_reducible rfl
                                      rotate_left
                                      · simp only [Act.put, List.setIfInBounds_toArray, List.set_cons_zero, List.set_cons_succ, i64_w, i32_w]
                                        rfl
                                      refine pure_ (i := 10) (N := some 100) (v := ?_) (a' := ?_) #[true, true, true, true, true, true, true, true, true, true, true, false] rfl rfl (any_of HT_.out (by kernel_rfl)) (fun _ _ _ h => h) (Or.inl ⟨by rfl, ?_⟩) ?_ ?_
                                      rotate_left
                                      · intro w'
                                        go_simp
                                        with_reducible rfl
                                      rotate_left
                                      · simp only [Act.put, List.setIfInBounds_toArray, List.set_cons_zero, List.set_cons_succ, i64_w, i32_w]
                                        rfl
                                      refine last_ (i := 11) (N := none) #[true, true, true, true, true, true, true, true, true, true, true, true] rfl rfl (one_of HT_.out (by kernel_rfl)) (by decide) (fun K hK => ?_)
                                      refine skip_ (w1 := ?_) (by rfl) rfl ?_ ?_
                                      rotate_left
                                      · go_simp
                                        rfl
                                      refine hK.out _ _ ?_
                                      clear hK K
                                      refine done_ (done_of HT_.out (by kernel_rfl)) ?_
                                      try go_wp2
                                      go_roundg k4
                                      case measure => have := HK1.out; have := HJ8.out; have := HK3.out; have := HK4.out; omega
                                      case rel => exact ⟨(y230), (wrap64 (x85_4 + 1)), (by first | rfl | (simp; done) | (simp [*]; done)), H', ⟨by have := HK1.out; have := HJ8.out; have := HK3.out; have := HK4.out; omega⟩, ⟨by (with_reducible repeat (first | apply Kd.R_alloc | apply Kd.R_drewN | apply Kd.R_drew)); exact HQ45.out⟩, ⟨by (with_reducible repeat (first | apply Kd.R_alloc | apply Kd.R_drewN | apply Kd.R_drew)); exact Kd.R_mono (Kd.R_far (p := ⟨go42, ((ji38) : Int).toNat, none⟩) (Kd.R_mono HO_4.out (fun k_ hk => (⟨hk, fun e_ => hk.1 (by rw [e_]; rfl)⟩ : _ ∧ k_ ≠ go42))) (fun _ hk => hk.2) (.int .i64 (Go.bits .xor .i64 (rd x3_4 (ji38)) t229))) (fun _ hk => ⟨hk.1.1, hk.1.2⟩)⟩, ⟨by (with_reducible repeat (first | apply Kd.R_alloc | apply Kd.R_drewN | apply Kd.R_drew)); exact Kd.R_mono (Kd.R_far (p := ⟨go42, ((ji38) : Int).toNat, none⟩) (Kd.R_mono HO_14.out (fun k_ hk => (⟨hk, fun e_ => hk.1 (by rw [e_]; rfl)⟩ : _ ∧ k_ ≠ go42))) (fun _ hk => hk.2) (.int .i64 (Go.bits .xor .i64 (rd x3_4 (ji38)) t229))) (fun _ hk => ⟨hk.1.1, ⟨hk.1.2.1, hk.1.2.2⟩⟩)⟩, ⟨by (with_reducible repeat (first | apply Kd.R_alloc | apply Kd.R_drewN | apply Kd.R_drew)); exact Kd.R_mono (Kd.R_far (p := ⟨go42, ((ji38) : Int).toNat, none⟩) (Kd.R_mono HO_83.out (fun k_ hk => (⟨hk, fun e_ => hk.1 (by rw [e_]; rfl)⟩ : _ ∧ k_ ≠ go42))) (fun _ hk => hk.2) (.int .i64 (Go.bits .xor .i64 (rd x3_4 (ji38)) t229))) (fun _ hk => ⟨hk.1.1, hk.1.2⟩)⟩, ⟨by repeat (first | (with_reducible first | exact HB.out | apply below_alloc | apply pw_below_drewN | apply below_drew1 | refine below_set ?_ GB42.out) | exact HB.out)⟩⟩
                                    · rw [if_neg c40] at H
                                      exact absurd H (by simp)
                                  · rw [if_neg c39] at H
                                    exact absurd H (by simp)
                                · rw [if_neg c37] at H
                                  exact absurd H (by simp)
                              · rw [if_neg c36] at H
                                exact absurd H (by simp)
                            · rw [if_neg c35] at H
                              have c35b0 : decide (x85_4 < (x4_1.length : Int)) = false := decide_eq_false c35
                              clear c35
                              by_cases c46 : (wrap64 (2 * x5_1)) ≤ x21_1
                              · rw [if_pos c46] at H
                                have c46b0 : decide ((wrap64 (2 * x5_1)) ≤ x21_1) = true := decide_eq_true c46
                                clear c46
                                have H' := Aside0.mk H
                                clear H
                                go_wp2
                                go_roundg k4
                                case measure => have := HK1.out; have := HJ8.out; have := HK3.out; have := HK4.out; omega
                                case rel => exact ⟨(x3_4), (t218), (wrap64 ((wrap64 (x21_1 + 1)) - x5_1)), (1), (x9_8), (wrap64 (x21_1 + 1)), (by first | rfl | (simp; done) | (simp [*]; done)), (by first | rfl | (simp; done) | (simp [*]; done)), (by first | rfl | (simp; done) | (simp [*]; done)), (by first | rfl | (simp; done) | (simp [*]; done)), H', ⟨by have := HK1.out; have := HJ8.out; have := HK3.out; have := HK4.out; omega⟩, ⟨by (with_reducible repeat (first | apply Kd.R_alloc | apply Kd.R_drewN | apply Kd.R_drew)); exact Kd.R_mono HO_3.out (fun _ hk => hk.2.1)⟩, ⟨by (with_reducible repeat (first | apply Kd.R_alloc | apply Kd.R_drewN | apply Kd.R_drew)); exact Kd.R_mono HO_14.out (fun _ hk => hk.1)⟩, ⟨by repeat (first | (with_reducible first | exact HB.out | apply below_alloc | apply pw_below_drewN | apply below_drew1) | exact HB.out)⟩⟩
                              · rw [if_neg c46] at H
                                have c46b0 : decide ((wrap64 (2 * x5_1)) ≤ x21_1) = false := decide_eq_false c46
                                clear c46
                                have H' := Aside0.mk H
                                clear H
                                go_wp2
                                go_roundg k4
                                case measure => have := HK1.out; have := HJ8.out; have := HK3.out; have := HK4.out; omega
                                case rel => exact ⟨(x3_4), (x4_1), (x5_1), (wrap64 (x6_1 + 1)), (x7_1), (wrap64 (x21_1 + 1)), (by first | rfl | (simp; done) | (simp [*]; done)), (by first | rfl | (simp; done) | (simp [*]; done)), (by first | rfl | (simp; done) | (simp [*]; done)), (by first | rfl | (simp; done) | (simp [*]; done)), H', ⟨by have := HK1.out; have := HJ8.out; have := HK3.out; have := HK4.out; omega⟩, ⟨by (with_reducible repeat (first | apply Kd.R_alloc | apply Kd.R_drewN | apply Kd.R_drew)); exact Kd.R_mono HO_3.out (fun _ hk => hk.1)⟩, ⟨by (with_reducible repeat (first | apply Kd.R_alloc | apply Kd.R_drewN | apply Kd.R_drew)); exact Kd.R_mono HO_4.out (fun _ hk => hk.1)⟩, ⟨by repeat (first | (with_reducible first | exact HB.out | apply below_alloc | apply pw_below_drewN | apply below_drew1) | exact HB.out)⟩⟩
          · rw [if_neg c8] at H
            exact absurd H (by simp)
        · rw [if_neg c7] at H
          exact absurd H (by simp)
      · rw [if_neg c6] at H
        have c6b0 : decide (x21_1 < (l0.length : Int)) = false := decide_eq_false c6
        clear c6
        have H' := Aside0.mk H
        clear H
        go_wp2
        go_loopg [3] k1 (fun kq v3 w' => ∃ (x3_2 : List Int), Aside0 (bch_locator.l4 kq x3_2 = some r) ∧ Aside0 (kq ≤ k1) ∧ Aside0 (Kd.R (Kd.int .i64) 3 w' w.heap.size (fun _ => True) v3 x3_2) ∧ Aside0 (Below w.heap.size w w'))
        case atStart => exact ⟨(x3_1), H', ⟨Nat.le_refl _⟩, ⟨by (with_reducible repeat (first | apply Kd.R_alloc | apply Kd.R_drewN | apply Kd.R_drew)); exact Kd.R_mono HO_3.out (fun _ hk => trivial)⟩, ⟨by repeat (first | (with_reducible first | exact HB.out | apply below_alloc | apply pw_below_drewN | apply below_drew1) | exact HB.out)⟩⟩
        case round =>
          clear H'
          try clear c1
          try clear c2
          try clear p2
          try clear q2
          try clear hx2
          try clear c3
          try clear c4
          try clear p4
          try clear q4
          try clear hx4
          try clear hf4
          try clear c5
          try clear c6
          try clear c6b0
          try clear p6
          try clear c7
          try clear c7b0
          try clear c8
          try clear c8b0
          try clear c10
          try clear c10b0
          try clear c11
          try clear c11b0
          try clear c12
          try clear c12b0
          try clear c14
          try clear c14b0
          try clear c15
          try clear c15b0
          try clear c20
          try clear c20b0
          try clear c20b1
          try clear p21
          try clear q21
          try clear hx21
          try clear p22
          try clear q22
          try clear hx22
          try clear c26
          try clear c26b0
          try clear c27
          try clear c35
          try clear c35b0
          try clear c36
          try clear c36b0
          try clear c37
          try clear c37b0
          try clear c39
          try clear c39b0
          try clear c40
          try clear c40b0
          try clear p42
          try clear q42
          try clear hx42
          try clear hf42
          try clear c46
          try clear c46b0
          try clear hx211_0
          try clear hx212_0
          try clear hx213_0
          try clear hx227_0
          try clear hx228_0
          try clear hx42_0
          try clear p2
          try clear p21
          try clear p211
          try clear p212
          try clear p213
          try clear p227
          try clear p228
          try clear p42
          try clear p6
          try clear q2
          try clear q21
          try clear q211
          try clear q212
          try clear q213
          try clear q227
          try clear q228
          try clear q42
          obtain ⟨x3_2, HA, HK2, HO_3, HB⟩ := hrel
          cases gk with
          | zero => exact absurd HA.out (by simp [bch_locator.l4])
          | succ k2 =>
            have H := HA.out
            clear HA
            simp only [bch_locator.l4] at H
            by_cases c47 : (x3_2.length : Int) > 0
            · rw [if_pos c47] at H
              have c47b0 : decide (0 < (x3_2.length : Int)) = true := decide_eq_true c47
              have c47b1 : decide (0 < x3_2.length) = true := decide_eq_true (by omega)
              clear c47
              obtain ⟨ji48, hji48⟩ : ∃ j_ : Int, (wrap64 ((x3_2.length : Int) - 1)) = j_ := ⟨_, rfl⟩
              replace H : (if 0 ≤ (ji48) then (if (ji48) < (x3_2.length : Int) then (if (rd x3_2 (ji48)) = 0 then (if (ji48) ≤ (x3_2.length : Int) then (bch_locator.l4 k2 (x3_2.take ((ji48) : Int).toNat)) else (none)) else (some x3_2)) else (none)) else (none)) = some r := by first | (rw [hji48] at H; exact H) | (simp only [hji48] at H ⊢; exact H)
              have hji48w : (IntKind.i64.wrap ((x3_2.length : Int) - 1)) = ji48 := (i64_w _).trans hji48
              by_cases c49 : 0 ≤ (ji48)
              · rw [if_pos c49] at H
                have c49b0 : decide (0 ≤ (ji48)) = true := decide_eq_true c49
                clear c49
                by_cases c50 : (ji48) < (x3_2.length : Int)
                · rw [if_pos c50] at H
                  have c50b0 : decide ((ji48) < (x3_2.length : Int)) = true := decide_eq_true c50
                  clear c50
                  by_cases c51 : (rd x3_2 (ji48)) = 0
                  · rw [if_pos c51] at H
                    have c51b0 : ((rd x3_2 (ji48)) == 0) = true := beq_iff_eq.mpr c51
                    have c51b1 : ((rd x3_2 (ji48)) != 0) = false := bne_eq_false_iff_eq.mpr c51
                    clear c51
                    by_cases c52 : (ji48) ≤ (x3_2.length : Int)
                    · rw [if_pos c52] at H
                      have c52b0 := eq_true c52
                      have c52b1 : decide ((ji48) ≤ (x3_2.length : Int)) = true := decide_eq_true c52
                      clear c52
                      obtain ⟨y232, hy232⟩ : ∃ y_ : List Int, y_ = (x3_2.take ((ji48) : Int).toNat) := ⟨_, rfl⟩
                      replace H : (bch_locator.l4 k2 y232) = some r := by first | (rw [hy232]; with_reducible exact H) | (have H2_ := (Option.bind_some _ _).symm.trans H; rw [hy232]; with_reducible exact H2_) | (have H2_ := (Option.bind_some _ _).symm.trans H; with_reducible exact H2_) | with_reducible exact H | (rw [hy232]; exact H) | exact H
                      have Ny232 := Aside0.mk hy232
                      clear hy232
                      have H' := Aside0.mk H
                      clear H
                      obtain ⟨Ao53, co53, eo53⟩ := Kd.R_slice HO_3.out
                      subst eo53
                      have p231 : 0 ≤ ((ji48) : Int) := of_decide_eq_true (by first | (with_reducible assumption) | assumption)
                      have q231 : (ji48) < (x3_2.length : Int) := of_decide_eq_true (by first | (with_reducible assumption) | assumption)
                      obtain ⟨ad231, e231, hx231_0⟩ := Kd.at_int (Kd.R_reads' HO_3.out).2.2 (ji48) p231 q231
                      cases e231
                      replace p231 := eq_true p231
                      replace q231 := eq_true q231
                      have q54 : ((ji48) : Int) ≤ ((x3_2.length : Int) : Int) := of_decide_eq_true (by first | (with_reducible assumption) | assumption)
                      obtain ⟨i054, hi054, _, hsz54, _⟩ := info_parts info3
                      have hcut54 := cut_to (P := Try.prog) 38 3 .i64 Try.underlying38 hi054 (some ad231) x3_2.length co53 (ji48) (of_decide_eq_true (by first | (with_reducible assumption) | assumption)) q54 (Kd.R_reads' HO_3.out).2.1
                      have hr54 := Kd.R_take (m := ((ji48) : Int).toNat) HO_3.out (by omega)
                      have hy54 : y232.length = ((ji48) : Int).toNat := (by rw [Ny232.out, List.length_take]; omega)
                      rw [← Ny232.out] at hr54
                      rw [← hy54] at hr54 hcut54
                      clear hy54 hi054 hsz54 HO_3
                      have HO234 := Aside0.mk hr54
                      clear hr54
                      replace q54 := eq_true q54
                      go_wp2
                      go_roundg k2
                      case measure => have := HK1.out; have := HK2.out; omega
                      case rel => exact ⟨(y232), H', ⟨by have := HK1.out; have := HK2.out; omega⟩, ⟨by (with_reducible repeat (first | apply Kd.R_alloc | apply Kd.R_drewN | apply Kd.R_drew)); exact HO234.out⟩, ⟨by repeat (first | (with_reducible first | exact HB.out | apply below_alloc | apply pw_below_drewN | apply below_drew1) | exact HB.out)⟩⟩
                    · rw [if_neg c52] at H
                      exact absurd H (by simp)
                  · rw [if_neg c51] at H
                    have c51b0 : ((rd x3_2 (ji48)) == 0) = false := beq_eq_false_iff_ne.mpr c51
                    have c51b1 : ((rd x3_2 (ji48)) != 0) = true := bne_iff_ne.mpr c51
                    obtain rfl := Option.some.inj H
                    obtain ⟨Ao55, co55, eo55⟩ := Kd.R_slice HO_3.out
                    subst eo55
                    have p231 : 0 ≤ ((ji48) : Int) := of_decide_eq_true (by first | (with_reducible assumption) | assumption)
                    have q231 : (ji48) < (x3_2.length : Int) := of_decide_eq_true (by first | (with_reducible assumption) | assumption)
                    obtain ⟨ad231, e231, hx231_0⟩ := Kd.at_int (Kd.R_reads' HO_3.out).2.2 (ji48) p231 q231
                    cases e231
                    replace p231 := eq_true p231
                    replace q231 := eq_true q231
                    go_wp2
                    go_ret
                    exact ⟨_, by first | rfl | (simp [errW_none, errW_some] <;> rfl) | (simp only [← hji48]; first | rfl | (simp [errW_none, errW_some] <;> rfl)) | (simp [*, errW_none, errW_some] <;> rfl), by (with_reducible repeat (first | apply Kd.R_alloc | apply Kd.R_drewN | apply Kd.R_drew)); exact HO_3.out, by repeat (first | (with_reducible first | exact HB.out | apply below_alloc | apply pw_below_drewN | apply below_drew1) | exact HB.out)⟩
                · rw [if_neg c50] at H
                  exact absurd H (by simp)
              · rw [if_neg c49] at H
                exact absurd H (by simp)
            · rw [if_neg c47] at H
              have c47b0 : decide (0 < (x3_2.length : Int)) = false := decide_eq_false c47
              have c47b1 : decide (0 < x3_2.length) = false := decide_eq_false (by omega)
              clear c47
              obtain rfl := Option.some.inj H
              obtain ⟨Ao56, co56, eo56⟩ := Kd.R_slice HO_3.out
              subst eo56
              go_wp2
              go_ret
              exact ⟨_, by first | rfl | (simp [errW_none, errW_some] <;> rfl) | (simp [*, errW_none, errW_some] <;> rfl), by (with_reducible repeat (first | apply Kd.R_alloc | apply Kd.R_drewN | apply Kd.R_drew)); exact HO_3.out, by repeat (first | (with_reducible first | exact HB.out | apply below_alloc | apply pw_below_drewN | apply below_drew1) | exact HB.out)⟩
end Go.Proofs.Ytbaiildpabdlpaa.P

/- What Go functions of the translation come to, and that their calls come to just that. No condition but that the plain function answers. -/
import Derived.Test.YtfpdloccmneabaaPx0
import Derived.Test.YtfpdloccmneabaaPx4
import Derived.Test.YtfpdloccmneabaaUp
namespace Go.Proofs.Ytfpdloccmneabaa.P
open Go.RowKit Go.Proofs.YtfpdloccmneabaaW.PrintWords Go.Proofs.YtfpdloccmneabaaW.PrintLast Go.Proofs.YtfpdloccmneabaaW.PrintMore
attribute [local go_sem] max2_int min2_int max_two min_two max_three min_three max_four min_four   -- for this text's walks alone
set_option linter.unusedVariables false
set_option linter.unusedSimpArgs false
mutual
def bch_locator.l0 : Nat → List Int → List Int → List Int → Int → Int → Int → Int → Int → Option (List Int)
 | 0, _, _, _, _, _, _, _, _ => none
 | k + 1, x0, x3, x4, x5, x6, x7, x20, x21 => if x21 < x20 then (if 0 ≤ x21 then (if x21 < (x0.length : Int) then (bch_locator.l1 k x0 x3 x4 x5 x6 x7 x21 (rd x0 x21) 1 x20 x21) else (none)) else (none)) else (bch_locator.l4 k x3)
def bch_locator.j2 : Nat → List Int → List Int → List Int → Int → Int → Int → Int → Int → Int → Int → Option (List Int)
 | 0, _, _, _, _, _, _, _, _, _, _ => none
 | k + 1, x0, x3, x4, x5, x6, x7, x8, x9, x20, x21 => if x9 = 0 then (bch_locator.l0 k x0 x3 x4 x5 (wrap64 (x6 + 1)) x7 x20 (wrap64 (x21 + 1))) else ((gf_Inv.f k x7).bind fun bt164 => ((bch_mul.f k x9 bt164.1).bind fun t166 => ((slices_Clone_int_int.f x3).bind fun t167 => (bch_locator.l2 k x0 x3 x4 x5 x6 x7 x8 x9 t166 t167 x20 x21))))
def bch_locator.l2 : Nat → List Int → List Int → List Int → Int → Int → Int → Int → Int → Int → List Int → Int → Int → Option (List Int)
 | 0, _, _, _, _, _, _, _, _, _, _, _, _ => none
 | k + 1, x0, x3, x4, x5, x6, x7, x8, x9, x13, x14, x20, x21 => if (x3.length : Int) < (wrap64 ((x4.length : Int) + x6)) then (if 0 < x3.length ∧ x3.length < 17592186044416 then (bch_locator.l2 k x0 (x3 ++ [0]) x4 x5 x6 x7 x8 x9 x13 x14 x20 x21) else (none)) else ((slices_Clone_int_int.f x3).bind fun t173 => (bch_locator.l3 k x0 t173 x4 x5 x6 x7 x8 x9 x13 x14 x20 x21 x4 (x4.length : Int) 0))
def bch_locator.l3 : Nat → List Int → List Int → List Int → Int → Int → Int → Int → Int → Int → List Int → Int → Int → List Int → Int → Int → Option (List Int)
 | 0, _, _, _, _, _, _, _, _, _, _, _, _, _, _, _ => none
 | k + 1, x0, x3, x4, x5, x6, x7, x8, x9, x13, x14, x20, x21, x83, x84, x85 => if x85 < x84 then (if 0 ≤ x85 then (if x85 < (x83.length : Int) then (if 0 ≤ (wrap64 (x85 + x6)) then (if (wrap64 (x85 + x6)) < (x3.length : Int) then ((bch_mul.f k x13 (rd x83 x85)).bind fun t178 => (bch_locator.l3 k x0 (x3.set ((wrap64 (x85 + x6)) : Int).toNat (Go.bits .xor .i64 (rd x3 (wrap64 (x85 + x6))) t178)) x4 x5 x6 x7 x8 x9 x13 x14 x20 x21 x83 x84 (wrap64 (x85 + 1)))) else (none)) else (none)) else (none)) else (none)) else (if (wrap64 (2 * x5)) ≤ x8 then (bch_locator.l0 k x0 x3 x14 (wrap64 ((wrap64 (x8 + 1)) - x5)) 1 x9 x20 (wrap64 (x21 + 1))) else (bch_locator.l0 k x0 x3 x4 x5 (wrap64 (x6 + 1)) x7 x20 (wrap64 (x21 + 1))))
def bch_locator.l1 : Nat → List Int → List Int → List Int → Int → Int → Int → Int → Int → Int → Int → Int → Option (List Int)
 | 0, _, _, _, _, _, _, _, _, _, _, _ => none
 | k + 1, x0, x3, x4, x5, x6, x7, x8, x9, x10, x20, x21 => if x10 ≤ x5 then (if x10 < (x3.length : Int) then (if 0 ≤ x10 then (if 0 ≤ (wrap64 (x8 - x10)) then (if (wrap64 (x8 - x10)) < (x0.length : Int) then ((bch_mul.f k (rd x3 x10) (rd x0 (wrap64 (x8 - x10)))).bind fun t163 => (bch_locator.l1 k x0 x3 x4 x5 x6 x7 x8 (Go.bits .xor .i64 x9 t163) (wrap64 (x10 + 1)) x20 x21)) else (none)) else (none)) else (none)) else (bch_locator.j2 k x0 x3 x4 x5 x6 x7 x8 x9 x20 x21)) else (bch_locator.j2 k x0 x3 x4 x5 x6 x7 x8 x9 x20 x21)
def bch_locator.l4 : Nat → List Int → Option (List Int)
 | 0, _ => none
 | k + 1, x3 => if (x3.length : Int) > 0 then (if 0 ≤ (wrap64 ((x3.length : Int) - 1)) then (if (wrap64 ((x3.length : Int) - 1)) < (x3.length : Int) then (if (rd x3 (wrap64 ((x3.length : Int) - 1))) = 0 then (if (wrap64 ((x3.length : Int) - 1)) ≤ (x3.length : Int) then (bch_locator.l4 k (x3.take ((wrap64 ((x3.length : Int) - 1)) : Int).toNat)) else (none)) else (some x3)) else (none)) else (none)) else (some x3)
end
def bch_locator.f (k : Nat) (l0 : List Int) : Option (List Int) := bch_locator.l0 k l0 (([1] : List Int)) (([1] : List Int)) 0 1 1 (l0.length : Int) 0
theorem bch_locator.mono_l : ∀ k, (∀ y0 y1 y2 y3 y4 y5 y6 y7, LeO (bch_locator.l0 k y0 y1 y2 y3 y4 y5 y6 y7) (bch_locator.l0 (k + 1) y0 y1 y2 y3 y4 y5 y6 y7)) ∧ (∀ y0 y1 y2 y3 y4 y5 y6 y7 y8 y9, LeO (bch_locator.j2 k y0 y1 y2 y3 y4 y5 y6 y7 y8 y9) (bch_locator.j2 (k + 1) y0 y1 y2 y3 y4 y5 y6 y7 y8 y9)) ∧ (∀ y0 y1 y2 y3 y4 y5 y6 y7 y8 y9 y10 y11, LeO (bch_locator.l2 k y0 y1 y2 y3 y4 y5 y6 y7 y8 y9 y10 y11) (bch_locator.l2 (k + 1) y0 y1 y2 y3 y4 y5 y6 y7 y8 y9 y10 y11)) ∧ (∀ y0 y1 y2 y3 y4 y5 y6 y7 y8 y9 y10 y11 y12 y13 y14, LeO (bch_locator.l3 k y0 y1 y2 y3 y4 y5 y6 y7 y8 y9 y10 y11 y12 y13 y14) (bch_locator.l3 (k + 1) y0 y1 y2 y3 y4 y5 y6 y7 y8 y9 y10 y11 y12 y13 y14)) ∧ (∀ y0 y1 y2 y3 y4 y5 y6 y7 y8 y9 y10, LeO (bch_locator.l1 k y0 y1 y2 y3 y4 y5 y6 y7 y8 y9 y10) (bch_locator.l1 (k + 1) y0 y1 y2 y3 y4 y5 y6 y7 y8 y9 y10)) ∧ (∀ y0, LeO (bch_locator.l4 k y0) (bch_locator.l4 (k + 1) y0))
 | 0 => ⟨fun _ _ _ _ _ _ _ _ r h => by simp [bch_locator.l0] at h, fun _ _ _ _ _ _ _ _ _ _ r h => by simp [bch_locator.j2] at h, fun _ _ _ _ _ _ _ _ _ _ _ _ r h => by simp [bch_locator.l2] at h, fun _ _ _ _ _ _ _ _ _ _ _ _ _ _ _ r h => by simp [bch_locator.l3] at h, fun _ _ _ _ _ _ _ _ _ _ _ r h => by simp [bch_locator.l1] at h, fun _ r h => by simp [bch_locator.l4] at h⟩
 | k + 1 => by
  obtain ⟨ih0, ih1, ih2, ih3, ih4, ih5⟩ := bch_locator.mono_l k
  refine ⟨?_, ?_, ?_, ?_, ?_, ?_⟩
  ·intro y0 y1 y2 y3 y4 y5 y6 y7
   unfold bch_locator.l0
   repeat' first
   | (with_reducible exact ih0 _ _ _ _ _ _ _ _)
   | (with_reducible exact ih1 _ _ _ _ _ _ _ _ _ _)
   | (with_reducible exact ih2 _ _ _ _ _ _ _ _ _ _ _ _)
   | (with_reducible exact ih3 _ _ _ _ _ _ _ _ _ _ _ _ _ _ _)
   | (with_reducible exact ih4 _ _ _ _ _ _ _ _ _ _ _)
   | (with_reducible exact ih5 _)
   | (with_reducible exact bch_mul.mono _ _ _)
   | (with_reducible exact gf_Inv.mono _ _)
   | (with_reducible exact LeO.refl _)
   | (with_reducible exact LeO.none _)
   | (with_reducible refine LeO.ite ?_ ?_)
   | (with_reducible refine LeO.bind ?_ (fun _ => ?_))
   | exact ih0 _ _ _ _ _ _ _ _
   | exact ih1 _ _ _ _ _ _ _ _ _ _
   | exact ih2 _ _ _ _ _ _ _ _ _ _ _ _
   | exact ih3 _ _ _ _ _ _ _ _ _ _ _ _ _ _ _
   | exact ih4 _ _ _ _ _ _ _ _ _ _ _
   | exact ih5 _
   | exact bch_mul.mono _ _ _
   | exact gf_Inv.mono _ _
   | exact LeO.none _
   | refine LeO.ite ?_ ?_
   | refine LeO.bind ?_ (fun _ => ?_)
  ·intro y0 y1 y2 y3 y4 y5 y6 y7 y8 y9
   unfold bch_locator.j2
   repeat' first
   | (with_reducible exact ih0 _ _ _ _ _ _ _ _)
   | (with_reducible exact ih1 _ _ _ _ _ _ _ _ _ _)
   | (with_reducible exact ih2 _ _ _ _ _ _ _ _ _ _ _ _)
   | (with_reducible exact ih3 _ _ _ _ _ _ _ _ _ _ _ _ _ _ _)
   | (with_reducible exact ih4 _ _ _ _ _ _ _ _ _ _ _)
   | (with_reducible exact ih5 _)
   | (with_reducible exact bch_mul.mono _ _ _)
   | (with_reducible exact gf_Inv.mono _ _)
   | (with_reducible exact LeO.refl _)
   | (with_reducible exact LeO.none _)
   | (with_reducible refine LeO.ite ?_ ?_)
   | (with_reducible refine LeO.bind ?_ (fun _ => ?_))
   | exact ih0 _ _ _ _ _ _ _ _
   | exact ih1 _ _ _ _ _ _ _ _ _ _
   | exact ih2 _ _ _ _ _ _ _ _ _ _ _ _
   | exact ih3 _ _ _ _ _ _ _ _ _ _ _ _ _ _ _
   | exact ih4 _ _ _ _ _ _ _ _ _ _ _
   | exact ih5 _
   | exact bch_mul.mono _ _ _
   | exact gf_Inv.mono _ _
   | exact LeO.none _
   | refine LeO.ite ?_ ?_
   | refine LeO.bind ?_ (fun _ => ?_)
  ·intro y0 y1 y2 y3 y4 y5 y6 y7 y8 y9 y10 y11
   unfold bch_locator.l2
   repeat' first
   | (with_reducible exact ih0 _ _ _ _ _ _ _ _)
   | (with_reducible exact ih1 _ _ _ _ _ _ _ _ _ _)
   | (with_reducible exact ih2 _ _ _ _ _ _ _ _ _ _ _ _)
   | (with_reducible exact ih3 _ _ _ _ _ _ _ _ _ _ _ _ _ _ _)
   | (with_reducible exact ih4 _ _ _ _ _ _ _ _ _ _ _)
   | (with_reducible exact ih5 _)
   | (with_reducible exact bch_mul.mono _ _ _)
   | (with_reducible exact gf_Inv.mono _ _)
   | (with_reducible exact LeO.refl _)
   | (with_reducible exact LeO.none _)
   | (with_reducible refine LeO.ite ?_ ?_)
   | (with_reducible refine LeO.bind ?_ (fun _ => ?_))
   | exact ih0 _ _ _ _ _ _ _ _
   | exact ih1 _ _ _ _ _ _ _ _ _ _
   | exact ih2 _ _ _ _ _ _ _ _ _ _ _ _
   | exact ih3 _ _ _ _ _ _ _ _ _ _ _ _ _ _ _
   | exact ih4 _ _ _ _ _ _ _ _ _ _ _
   | exact ih5 _
   | exact bch_mul.mono _ _ _
   | exact gf_Inv.mono _ _
   | exact LeO.none _
   | refine LeO.ite ?_ ?_
   | refine LeO.bind ?_ (fun _ => ?_)
  ·intro y0 y1 y2 y3 y4 y5 y6 y7 y8 y9 y10 y11 y12 y13 y14
   unfold bch_locator.l3
   repeat' first
   | (with_reducible exact ih0 _ _ _ _ _ _ _ _)
   | (with_reducible exact ih1 _ _ _ _ _ _ _ _ _ _)
   | (with_reducible exact ih2 _ _ _ _ _ _ _ _ _ _ _ _)
   | (with_reducible exact ih3 _ _ _ _ _ _ _ _ _ _ _ _ _ _ _)
   | (with_reducible exact ih4 _ _ _ _ _ _ _ _ _ _ _)
   | (with_reducible exact ih5 _)
   | (with_reducible exact bch_mul.mono _ _ _)
   | (with_reducible exact gf_Inv.mono _ _)
   | (with_reducible exact LeO.refl _)
   | (with_reducible exact LeO.none _)
   | (with_reducible refine LeO.ite ?_ ?_)
   | (with_reducible refine LeO.bind ?_ (fun _ => ?_))
   | exact ih0 _ _ _ _ _ _ _ _
   | exact ih1 _ _ _ _ _ _ _ _ _ _
   | exact ih2 _ _ _ _ _ _ _ _ _ _ _ _
   | exact ih3 _ _ _ _ _ _ _ _ _ _ _ _ _ _ _
   | exact ih4 _ _ _ _ _ _ _ _ _ _ _
   | exact ih5 _
   | exact bch_mul.mono _ _ _
   | exact gf_Inv.mono _ _
   | exact LeO.none _
   | refine LeO.ite ?_ ?_
   | refine LeO.bind ?_ (fun _ => ?_)
  ·intro y0 y1 y2 y3 y4 y5 y6 y7 y8 y9 y10
   unfold bch_locator.l1
   repeat' first
   | (with_reducible exact ih0 _ _ _ _ _ _ _ _)
   | (with_reducible exact ih1 _ _ _ _ _ _ _ _ _ _)
   | (with_reducible exact ih2 _ _ _ _ _ _ _ _ _ _ _ _)
   | (with_reducible exact ih3 _ _ _ _ _ _ _ _ _ _ _ _ _ _ _)
   | (with_reducible exact ih4 _ _ _ _ _ _ _ _ _ _ _)
   | (with_reducible exact ih5 _)
   | (with_reducible exact bch_mul.mono _ _ _)
   | (with_reducible exact gf_Inv.mono _ _)
   | (with_reducible exact LeO.refl _)
   | (with_reducible exact LeO.none _)
   | (with_reducible refine LeO.ite ?_ ?_)
   | (with_reducible refine LeO.bind ?_ (fun _ => ?_))
   | exact ih0 _ _ _ _ _ _ _ _
   | exact ih1 _ _ _ _ _ _ _ _ _ _
   | exact ih2 _ _ _ _ _ _ _ _ _ _ _ _
   | exact ih3 _ _ _ _ _ _ _ _ _ _ _ _ _ _ _
   | exact ih4 _ _ _ _ _ _ _ _ _ _ _
   | exact ih5 _
   | exact bch_mul.mono _ _ _
   | exact gf_Inv.mono _ _
   | exact LeO.none _
   | refine LeO.ite ?_ ?_
   | refine LeO.bind ?_ (fun _ => ?_)
  ·intro y0
   unfold bch_locator.l4
   repeat' first
   | (with_reducible exact ih0 _ _ _ _ _ _ _ _)
   | (with_reducible exact ih1 _ _ _ _ _ _ _ _ _ _)
   | (with_reducible exact ih2 _ _ _ _ _ _ _ _ _ _ _ _)
   | (with_reducible exact ih3 _ _ _ _ _ _ _ _ _ _ _ _ _ _ _)
   | (with_reducible exact ih4 _ _ _ _ _ _ _ _ _ _ _)
   | (with_reducible exact ih5 _)
   | (with_reducible exact bch_mul.mono _ _ _)
   | (with_reducible exact gf_Inv.mono _ _)
   | (with_reducible exact LeO.refl _)
   | (with_reducible exact LeO.none _)
   | (with_reducible refine LeO.ite ?_ ?_)
   | (with_reducible refine LeO.bind ?_ (fun _ => ?_))
   | exact ih0 _ _ _ _ _ _ _ _
   | exact ih1 _ _ _ _ _ _ _ _ _ _
   | exact ih2 _ _ _ _ _ _ _ _ _ _ _ _
   | exact ih3 _ _ _ _ _ _ _ _ _ _ _ _ _ _ _
   | exact ih4 _ _ _ _ _ _ _ _ _ _ _
   | exact ih5 _
   | exact bch_mul.mono _ _ _
   | exact gf_Inv.mono _ _
   | exact LeO.none _
   | refine LeO.ite ?_ ?_
   | refine LeO.bind ?_ (fun _ => ?_)
theorem bch_locator.mono : ∀ a0 k, LeO (bch_locator.f k a0) (bch_locator.f (k + 1) a0) := by
 intro a0 k
 obtain ⟨ih0, ih1, ih2, ih3, ih4, ih5⟩ := bch_locator.mono_l k
 unfold bch_locator.f
 repeat' first
   | (with_reducible exact ih0 _ _ _ _ _ _ _ _)
   | (with_reducible exact ih1 _ _ _ _ _ _ _ _ _ _)
   | (with_reducible exact ih2 _ _ _ _ _ _ _ _ _ _ _ _)
   | (with_reducible exact ih3 _ _ _ _ _ _ _ _ _ _ _ _ _ _ _)
   | (with_reducible exact ih4 _ _ _ _ _ _ _ _ _ _ _)
   | (with_reducible exact ih5 _)
   | (with_reducible exact bch_mul.mono _ _ _)
   | (with_reducible exact gf_Inv.mono _ _)
   | (with_reducible exact LeO.refl _)
   | (with_reducible exact LeO.none _)
   | (with_reducible refine LeO.ite ?_ ?_)
   | (with_reducible refine LeO.bind ?_ (fun _ => ?_))
   | exact ih0 _ _ _ _ _ _ _ _
   | exact ih1 _ _ _ _ _ _ _ _ _ _
   | exact ih2 _ _ _ _ _ _ _ _ _ _ _ _
   | exact ih3 _ _ _ _ _ _ _ _ _ _ _ _ _ _ _
   | exact ih4 _ _ _ _ _ _ _ _ _ _ _
   | exact ih5 _
   | exact bch_mul.mono _ _ _
   | exact gf_Inv.mono _ _
   | exact LeO.none _
   | refine LeO.ite ?_ ?_
   | refine LeO.bind ?_ (fun _ => ?_)
def bch_locator.T10 : Bool × List (List Nat × List Nat) := (true, [([], []), ([], []), ([], []), ([1, 2], [1, 2]), ([3], [3]), ([], []), ([], []), ([], []), ([6, 7], [6, 7]), ([5, 8], [5, 8]), ([9], [9]), ([4, 10], [4, 10]), ([0, 11], [0, 11]), ([12, 11, 0, 1, 2, 3, 4, 5, 6, 7, 8, 9, 10, 11, 12], [0, 12])])
def bch_locator.B10 : List Nat := [0, 0, 0, 6, 14, 0, 0, 0, 192, 480, 992, 2046, 4095, 8191]
theorem bch_locator.tab10 : rtab .any (opsOf Try.f40 10) = bch_locator.T10 := by kernel_rfl
theorem bch_locator.bits10 : waitsOk bch_locator.T10.2 bch_locator.B10 = true := by kernel_rfl
def bch_locator.T22 : Bool × List (List Nat × List Nat) := (true, [([], []), ([], []), ([], []), ([1, 2], [1, 2]), ([0, 3], [0, 3]), ([4], [4]), ([], []), ([], []), ([6, 7], [6, 7]), ([5, 8], [5, 8]), ([0, 3, 0, 1, 2, 3, 4, 5, 6, 7, 8, 9], [0, 3]), ([10, 9, 8, 0, 1, 2, 3, 4, 5, 6, 7, 8, 9], [9, 10])])
def bch_locator.B22 : List Nat := [0, 0, 0, 6, 15, 31, 0, 0, 192, 511, 1023, 2047]
theorem bch_locator.tab22 : rtab .any (opsOf Try.f40 22) = bch_locator.T22 := by kernel_rfl
theorem bch_locator.bits22 : waitsOk bch_locator.T22.2 bch_locator.B22 = true := by kernel_rfl
set_option maxHeartbeats 8000000 in
set_option maxRecDepth 100000 in
theorem bch_locator.calls (k : Nat) (A0 : Option Addr) (c0 : Nat) (l0 : List Int) (r : List Int) (w : World) (hr0 : Kd.C (Kd.int .i64) w A0 l0.length l0) (hc0 : l0.length ≤ c0) (h : bch_locator.f k l0 = some r) :
  Calls Try.prog 40 #[.slice A0 l0.length c0] w fun e w' => ∃ v0_ : Value, e = .returned (v0_) ∧ Kd.R (Kd.int .i64) 3 w' w.heap.size (fun _ => True) v0_ r ∧ Below w.heap.size w w' := by
 have HR0 := Aside0.mk hr0
 have HC0 := Aside0.mk hc0
 clear hr0 hc0
 have HB := Aside0.mk (Below.refl w.heap.size w)
 have H : (bch_locator.l0 k l0 (([1] : List Int)) (([1] : List Int)) 0 1 1 (l0.length : Int) 0) = some r := h
 clear h
 obtain ⟨y154, hy154⟩ : ∃ y_ : List Int, y_ = (([1] : List Int)) := ⟨_, rfl⟩
 replace H : (bch_locator.l0 k l0 y154 (([1] : List Int)) 0 1 1 (l0.length : Int) 0) = some r := by first | (rw [hy154]; with_reducible exact H) | (have H2_ := (Option.bind_some _ _).symm.trans H; rw [hy154]; with_reducible exact H2_) | (have H2_ := (Option.bind_some _ _).symm.trans H; with_reducible exact H2_) | with_reducible exact H | (rw [hy154]; exact H) | exact H
 have Ny154 := Aside0.mk hy154
 clear hy154
 obtain ⟨y157, hy157⟩ : ∃ y_ : List Int, y_ = (([1] : List Int)) := ⟨_, rfl⟩
 replace H : (bch_locator.l0 k l0 y154 y157 0 1 1 (l0.length : Int) 0) = some r := by first | (rw [hy157]; with_reducible exact H) | (have H2_ := (Option.bind_some _ _).symm.trans H; rw [hy157]; with_reducible exact H2_) | (have H2_ := (Option.bind_some _ _).symm.trans H; with_reducible exact H2_) | with_reducible exact H | (rw [hy157]; exact H) | exact H
 have Ny157 := Aside0.mk hy157
 clear hy157
 have H' := Aside0.mk H
 clear H
 go_enter Try.func40, Try.ntmps40
 go_wp2_with (first | ((with_reducible refine gate_dst (N := 17) rfl ?_); (try (refine gate_guard (by rfl) ?_; dsimp only)); refine Kd.R_lit (Kd.int .i64) _ 3 ?hg (N := 17) ?hd (xs := ([1] : List Int)) (inner := [.int .i64 1]) (ok := fun _ => True) (okp := fun _ => True) ?hr ?hp (fun _ hk => hk) trivial (Below.refl _ _) (Nat.le_refl _) (by simp) ?_; (case hd => rfl); (case hg => rfl); (case hr => first | (go_simp; done) | (go_simp; rfl)); (case hp => exact (Reps.one (show Kd.M (Kd.int .i64) _ _ _ 1 [.int .i64 1] from rfl) (Reps.none _ _))); intro v155 w2 ho3 hb hg_ hnew_; clear hg_ hnew_; (first | rw [← Ny154.out] at ho3 | (simp only [Int.reduceToNat] at ho3; rw [← Ny154.out] at ho3)); have n0_ := Aside0.mk (Kd.R_lower ho3 (below_size (uB HB.out))); have n1_ := Aside0.mk (below_step (uB HB.out) hb); clear HB; have HO156 := n0_; have HB := n1_; clear n0_ n1_; clear hb ho3) | ((with_reducible refine gate_dst (N := 18) rfl ?_); (try (refine gate_guard (by rfl) ?_; dsimp only)); refine Kd.R_lit (Kd.int .i64) _ 3 ?hg (N := 18) ?hd (xs := ([1] : List Int)) (inner := [.int .i64 1]) (ok := fun _ => True) (okp := fun _ => True) ?hr ?hp (fun _ hk => hk) trivial (Below.refl _ _) (Nat.le_refl _) (by simp) ?_; (case hd => rfl); (case hg => rfl); (case hr => first | (go_simp; done) | (go_simp; rfl)); (case hp => exact (Reps.one (show Kd.M (Kd.int .i64) _ _ _ 1 [.int .i64 1] from rfl) (Reps.none _ _))); intro v158 w4 ho5 hb hg_ hnew_; clear hg_ hnew_; (first | rw [← Ny157.out] at ho5 | (simp only [Int.reduceToNat] at ho5; rw [← Ny157.out] at ho5)); have n0_ := Aside0.mk (Kd.R_elder' (uR HO156.out) (Kd.R_base ho5) hb); have n1_ := Aside0.mk (Kd.R_lower (Kd.R_new' ho5 (Kd.R_lt (uR HO156.out))) (below_size (uB HB.out))); have n2_ := Aside0.mk (below_step (uB HB.out) hb); clear HO156; clear HB; have HO156 := n0_; have HO159 := n1_; have HB := n2_; clear n0_ n1_ n2_; clear hb ho5))
 go_loopg [3, 4, 5, 6, 7, 21] k (fun kq v3 v4 v5 v6 v7 v21 w' => ∃ (x3_1 : List Int) (x4_1 : List Int) (x5_1 : Int) (x6_1 : Int) (x7_1 : Int) (x21_1 : Int), v5 = .int .i64 x5_1 ∧ v6 = .int .i64 x6_1 ∧ v7 = .int .i64 x7_1 ∧ v21 = .int .i64 x21_1 ∧ Aside0 (bch_locator.l0 kq l0 x3_1 x4_1 x5_1 x6_1 x7_1 (l0.length : Int) x21_1 = some r) ∧ Aside0 (kq ≤ k) ∧ Aside0 (Kd.R (Kd.int .i64) 3 w' w.heap.size (fun k_ => some k_ ≠ (v4 : Value).ownBlock) v3 x3_1) ∧ Aside0 (Kd.R (Kd.int .i64) 3 w' w.heap.size (fun k_ => some k_ ≠ (v3 : Value).ownBlock) v4 x4_1) ∧ Aside0 (Below w.heap.size w w'))
 case atStart => exact ⟨(y154), (y157), (0), (1), (1), (0), (by first | rfl | (simp; done) | (simp [*]; done)), (by first | rfl | (simp; done) | (simp [*]; done)), (by first | rfl | (simp; done) | (simp [*]; done)), (by first | rfl | (simp; done) | (simp [*]; done)), H', ⟨Nat.le_refl _⟩, ⟨by (with_reducible repeat (first | apply Kd.R_alloc | apply Kd.R_drewN | apply Kd.R_drew)); exact Kd.R_mono HO156.out (fun _ hk => hk.2)⟩, ⟨by (with_reducible repeat (first | apply Kd.R_alloc | apply Kd.R_drewN | apply Kd.R_drew)); exact Kd.R_mono HO159.out (fun _ hk => hk.2)⟩, ⟨uB HB.out⟩⟩
 case round =>
  clear H'
  try clear p2
  try clear c4
  obtain ⟨x3_1, x4_1, x5_1, x6_1, x7_1, x21_1, rfl, rfl, rfl, rfl, HA, HK1, HO_3, HO_4, HB⟩ := hrel
  cases gk with
  | zero => exact absurd HA.out (by simp [bch_locator.l0])
  | succ k1 =>
   have H := HA.out
   clear HA
   simp only [bch_locator.l0] at H
   by_cases c6 : x21_1 < (l0.length : Int)
   ·rw [if_pos c6] at H
    have c6b0 : decide (x21_1 < (l0.length : Int)) = true := decide_eq_true c6
    clear c6
    by_cases c7 : 0 ≤ x21_1
    ·rw [if_pos c7] at H
     have c7b0 : decide (0 ≤ x21_1) = true := decide_eq_true c7
     clear c7
     by_cases c8 : x21_1 < (l0.length : Int)
     ·rw [if_pos c8] at H
      have c8b0 : decide (x21_1 < (l0.length : Int)) = true := decide_eq_true c8
      clear c8
      have HC9 := Aside0.mk H
      clear H
      have p160 : 0 ≤ (x21_1 : Int) := of_decide_eq_true (by first | (with_reducible assumption) | assumption)
      have q160 : x21_1 < (l0.length : Int) := of_decide_eq_true (by first | (with_reducible assumption) | assumption)
      obtain ⟨ad160, e160, hx160_0⟩ := Kd.at_int HR0.out x21_1 p160 q160
      cases e160
      replace hx160_0 := (HB.out.cell (World.block_lt_of_cell? w _ hx160_0)).trans hx160_0
      replace p160 := eq_true p160
      replace q160 := eq_true q160
      go_upto_block 2 with (fail)
      go_cut [9] (fun v9 wc => ∃ (kq : Nat) (x9_8 : Int), v9 = .int .i64 x9_8 ∧ Aside0 (bch_locator.j2 kq l0 x3_1 x4_1 x5_1 x6_1 x7_1 x21_1 x9_8 (l0.length : Int) x21_1 = some r) ∧ Aside0 (kq ≤ k1) ∧ Aside0 (Kd.R (Kd.int .i64) 3 wc w.heap.size (fun k_ => some k_ ≠ (u4 : Value).ownBlock) u3 x3_1) ∧ Aside0 (Kd.R (Kd.int .i64) 3 wc w.heap.size (fun k_ => some k_ ≠ (u3 : Value).ownBlock) u4 x4_1) ∧ Aside0 (Below w.heap.size w wc))
      case first =>
       have H := HC9.out
       clear HC9
       have H' := Aside0.mk H
       clear H
       go_wp2
       go_loopg [9, 10] k1 (fun kq v9 v10 w' => ∃ (x9_2 : Int) (x10_2 : Int), v9 = .int .i64 x9_2 ∧ v10 = .int .i64 x10_2 ∧ Aside0 (bch_locator.l1 kq l0 x3_1 x4_1 x5_1 x6_1 x7_1 x21_1 x9_2 x10_2 (l0.length : Int) x21_1 = some r) ∧ Aside0 (kq ≤ k1) ∧ Aside0 (Kd.R (Kd.int .i64) 3 w' w.heap.size (fun k_ => some k_ ≠ (u4 : Value).ownBlock) u3 x3_1) ∧ Aside0 (Kd.R (Kd.int .i64) 3 w' w.heap.size (fun k_ => some k_ ≠ (u3 : Value).ownBlock) u4 x4_1) ∧ Aside0 (Below w.heap.size w w'))
       case atStart => exact ⟨(rd l0 x21_1), (1), (by first | rfl | (simp; done) | (simp [*]; done)), (by first | rfl | (simp; done) | (simp [*]; done)), H', ⟨Nat.le_refl _⟩, ⟨uR HO_3.out⟩, ⟨uR HO_4.out⟩, ⟨uB HB.out⟩⟩
       case round =>
        clear H'
        try clear p1
        try clear q1
        try clear hx1
        try clear p2
        try clear c4
        try clear c6
        try clear c6b0
        try clear c7
        try clear c7b0
        try clear c8
        try clear c8b0
        try clear hx160_0
        try clear p160
        try clear p2
        try clear q160
        obtain ⟨x9_2, x10_2, rfl, rfl, HA, HK2, HO_3, HO_4, HB⟩ := hrel
        cases gk with
        | zero => exact absurd HA.out (by simp [bch_locator.l1])
        | succ k2 =>
         have H := HA.out
         clear HA
         simp only [bch_locator.l1] at H
         by_cases c10 : x10_2 ≤ x5_1
         ·rw [if_pos c10] at H
          have c10b0 : decide (x10_2 ≤ x5_1) = true := decide_eq_true c10
          clear c10
          (first | rw [c10b0] | (simp only [i64_w, i32_w]; rw [c10b0]) | skip)
          by_cases c11 : x10_2 < (x3_1.length : Int)
          ·rw [if_pos c11] at H
           have c11b0 : decide (x10_2 < (x3_1.length : Int)) = true := decide_eq_true c11
           clear c11
           by_cases c12 : 0 ≤ x10_2
           ·rw [if_pos c12] at H
            have c12b0 : decide (0 ≤ x10_2) = true := decide_eq_true c12
            clear c12
            obtain ⟨ji13, hji13⟩ : ∃ j_ : Int, (wrap64 (x21_1 - x10_2)) = j_ := ⟨_, rfl⟩
            replace H : (if 0 ≤ (ji13) then (if (ji13) < (l0.length : Int) then ((bch_mul.f k2 (rd x3_1 x10_2) (rd l0 (ji13))).bind fun t163 => (bch_locator.l1 k2 l0 x3_1 x4_1 x5_1 x6_1 x7_1 x21_1 (Go.bits .xor .i64 x9_2 t163) (wrap64 (x10_2 + 1)) (l0.length : Int) x21_1)) else (none)) else (none)) = some r := by first | (rw [hji13] at H; exact H) | (simp only [hji13] at H ⊢; exact H)
            have hji13w : (IntKind.i64.wrap (x21_1 - x10_2)) = ji13 := (i64_w _).trans hji13
            by_cases c14 : 0 ≤ (ji13)
            ·rw [if_pos c14] at H
             have c14b0 : decide (0 ≤ (ji13)) = true := decide_eq_true c14
             clear c14
             by_cases c15 : (ji13) < (l0.length : Int)
             ·rw [if_pos c15] at H
              have c15b0 : decide ((ji13) < (l0.length : Int)) = true := decide_eq_true c15
              clear c15
              replace H := Option.bind_eq_some_iff.mp H
              obtain ⟨t163, A160, H⟩ := H
              replace H : (bch_locator.l1 k2 l0 x3_1 x4_1 x5_1 x6_1 x7_1 x21_1 (Go.bits .xor .i64 x9_2 t163) (wrap64 (x10_2 + 1)) (l0.length : Int) x21_1) = some r := H
              have A16 := Aside0.mk A160
              clear A160
              have H' := Aside0.mk H
              clear H
              obtain ⟨Ao17, co17, eo17⟩ := Kd.R_slice HO_3.out
              subst eo17
              try go_wp2
              have n0_ := Aside0.mk (Kd.R_drew HO_3.out)
              have n1_ := Aside0.mk (Kd.R_drew HO_4.out)
              have n2_ := Aside0.mk (below_drew1 HB.out)
              clear HO_3
              clear HO_4
              clear HB
              have HO_3 := n0_
              have HO_4 := n1_
              have HB := n2_
              clear n0_ n1_ n2_
              have p161 : 0 ≤ (x10_2 : Int) := of_decide_eq_true (by first | (with_reducible assumption) | assumption)
              have q161 : x10_2 < (x3_1.length : Int) := of_decide_eq_true (by first | (with_reducible assumption) | assumption)
              obtain ⟨ad161, e161, hx161_0⟩ := Kd.at_int (Kd.R_reads' HO_3.out).2.2 x10_2 p161 q161
              cases e161
              replace p161 := eq_true p161
              replace q161 := eq_true q161
              have p162 : 0 ≤ ((ji13) : Int) := of_decide_eq_true (by first | (with_reducible assumption) | assumption)
              have q162 : (ji13) < (l0.length : Int) := of_decide_eq_true (by first | (with_reducible assumption) | assumption)
              obtain ⟨ad162, e162, hx162_0⟩ := Kd.at_int HR0.out (ji13) p162 q162
              have hw162_0 := hx162_0
              obtain rfl : ad160 = ad162 := (by injection e162)
              replace hx162_0 := (HB.out.cell (World.block_lt_of_cell? w _ hx162_0)).trans hx162_0
              replace p162 := eq_true p162
              replace q162 := eq_true q162
              refine start_ (n := 14) (S := fun w' => w'.cell? (ad161.add (x10_2).toNat) = some (.int .i64 (rd x3_1 x10_2)) ∧ w'.cell? (ad160.add ((ji13)).toNat) = some (.int .i64 (rd l0 (ji13)))) (ds := []) #[false, false, false, false, false, false, false, false, false, false, false, false, false, false] (by kernel_rfl) rfl rfl ⟨hx161_0, ((HB.out.cell (World.block_lt_of_cell? w _ hw162_0)).trans hw162_0)⟩ (fun hHeld => ?_); refine with_tabW bch_locator.tab10 bch_locator.bits10 (fun HT_ HW_ => ?_)
              generalize wr.drew = w18 at HO_3 HO_4 HB hx161_0 hx162_0 hHeld ⊢
              refine pure_ (i := 0) (N := some 39) (v := ?_) (a' := ?_) #[true, false, false, false, false, false, false, false, false, false, false, false, false, false] rfl rfl (any_of HT_.out (by kernel_rfl)) (fun _ _ _ h => h) (Or.inl ⟨by rfl, ?_⟩) ?_ ?_
              rotate_left; (intro w'; go_simp; with_reducible rfl)
              rotate_left; (simp only [Act.put, List.setIfInBounds_toArray, List.set_cons_zero, List.set_cons_succ, i64_w, i32_w]; rfl)
              refine pure_ (i := 1) (N := some 40) (v := ?_) (a' := ?_) #[true, true, false, false, false, false, false, false, false, false, false, false, false, false] rfl rfl (any_of HT_.out (by kernel_rfl)) (fun _ _ _ h => h) (Or.inl ⟨by rfl, ?_⟩) ?_ ?_
              rotate_left; (intro w'; go_simp; with_reducible rfl)
              rotate_left; (simp only [Act.put, List.setIfInBounds_toArray, List.set_cons_zero, List.set_cons_succ, i64_w, i32_w]; rfl)
              refine pure_ (i := 2) (N := some 41) (v := ?_) (a' := ?_) #[true, true, true, false, false, false, false, false, false, false, false, false, false, false] rfl rfl (any_of HT_.out (by kernel_rfl)) (fun _ _ _ h => h) (Or.inl ⟨by rfl, ?_⟩) ?_ ?_
              rotate_left; (intro w'; go_simp; with_reducible rfl)
              rotate_left; (simp only [Act.put, List.setIfInBounds_toArray, List.set_cons_zero, List.set_cons_succ, i64_w, i32_w]; rfl)
              refine pure_ (i := 3) (N := some 42) (v := ?_) (a' := ?_) #[true, true, true, true, false, false, false, false, false, false, false, false, false, false] rfl rfl (any_of HT_.out (by kernel_rfl)) (fun _ _ _ h => h) (Or.inl ⟨by rfl, ?_⟩) ?_ ?_
              rotate_left; (intro w'; go_simp; with_reducible rfl)
              rotate_left; (simp only [Act.put, List.setIfInBounds_toArray, List.set_cons_zero, List.set_cons_succ, i64_w, i32_w]; rfl)
              refine pure_ (i := 5) (N := some 44) (v := ?_) (a' := ?_) #[true, true, true, true, false, true, false, false, false, false, false, false, false, false] rfl rfl (any_of HT_.out (by kernel_rfl)) (fun _ _ _ h => h) (Or.inl ⟨by rfl, ?_⟩) ?_ ?_
              rotate_left; (intro w'; go_simp; with_reducible rfl)
              rotate_left; (simp only [Act.put, List.setIfInBounds_toArray, List.set_cons_zero, List.set_cons_succ, i64_w, i32_w]; rfl)
              refine pure_ (i := 6) (N := some 45) (v := ?_) (a' := ?_) #[true, true, true, true, false, true, true, false, false, false, false, false, false, false] rfl rfl (any_of HT_.out (by kernel_rfl)) (fun _ _ _ h => h) (Or.inl ⟨by rfl, ?_⟩) ?_ ?_
              rotate_left; (intro w'; go_simp; with_reducible rfl)
              rotate_left; (simp only [Act.put, List.setIfInBounds_toArray, List.set_cons_zero, List.set_cons_succ, i64_w, i32_w]; rfl)
              refine pure_ (i := 7) (N := some 46) (v := ?_) (a' := ?_) #[true, true, true, true, false, true, true, true, false, false, false, false, false, false] rfl rfl (any_of HT_.out (by kernel_rfl)) (fun _ _ _ h => h) (Or.inl ⟨by rfl, ?_⟩) ?_ ?_
              rotate_left; (intro w'; go_simp; with_reducible rfl)
              rotate_left; (simp only [Act.put, List.setIfInBounds_toArray, List.set_cons_zero, List.set_cons_succ, i64_w, i32_w]; rfl)
              refine pure_ (i := 8) (N := some 47) (v := ?_) (a' := ?_) #[true, true, true, true, false, true, true, true, true, false, false, false, false, false] rfl rfl (any_of HT_.out (by kernel_rfl)) (fun _ _ _ h => h) (Or.inl ⟨by rfl, ?_⟩) ?_ ?_
              rotate_left; (intro w'; go_simp; with_reducible rfl)
              rotate_left; (simp only [Act.put, List.setIfInBounds_toArray, List.set_cons_zero, List.set_cons_succ, i64_w, i32_w]; rfl)
              refine pure_ (i := 9) (N := some 48) (v := ?_) (a' := ?_) #[true, true, true, true, false, true, true, true, true, true, false, false, false, false] rfl rfl (any_of HT_.out (by kernel_rfl)) (fun _ _ _ h => h) (Or.inl ⟨by rfl, ?_⟩) ?_ ?_
              rotate_left; (intro w'; go_simp; with_reducible rfl)
              rotate_left; (simp only [Act.put, List.setIfInBounds_toArray, List.set_cons_zero, List.set_cons_succ, i64_w, i32_w]; rfl)
              refine take_ (i := 4) (N := some 43) (v := ?_) (a' := ?_) #[true, true, true, true, true, true, true, true, true, true, false, false, false, false] rfl rfl (take_ofW HT_.out HW_.out (by kernel_rfl)) (fun _ _ _ h => h) (Or.inl ⟨by rfl, ?_⟩) hHeld ?_ ?_
              rotate_left; (rintro w' ⟨s0, s1⟩; go_simp; with_reducible rfl)
              rotate_left; (simp only [Act.put, List.setIfInBounds_toArray, List.set_cons_zero, List.set_cons_succ, i64_w, i32_w]; rfl)
              refine take_ (i := 10) (N := some 49) (v := ?_) (a' := ?_) #[true, true, true, true, true, true, true, true, true, true, true, false, false, false] rfl rfl (take_ofW HT_.out HW_.out (by kernel_rfl)) (fun _ _ _ h => h) (Or.inl ⟨by rfl, ?_⟩) hHeld ?_ ?_
              rotate_left; (rintro w' ⟨s0, s1⟩; go_simp; with_reducible rfl)
              rotate_left; (simp only [Act.put, List.setIfInBounds_toArray, List.set_cons_zero, List.set_cons_succ, i64_w, i32_w]; rfl)
              refine one_ (i := 11) (N := some 50) #[true, true, true, true, true, true, true, true, true, true, true, true, false, false] rfl rfl (one_of HT_.out (by kernel_rfl)) (by decide) (fun K hK => ?_)
              refine goes_ Try.func44 (by kernel_rfl) rfl #[.int .i64 (rd x3_1 x10_2), .int .i64 (rd l0 (ji13))] (by rfl) rfl rfl (by (try simp only [List.map_toArray, List.map_cons, List.map_nil]); first | done | (simp only [hji13]; rfl) | rfl | (simp only [List.length_drop, List.length_take]; rfl)) ?_
              with_reducible refine (bch_mul.calls k2 (rd x3_1 x10_2) (rd l0 (ji13)) t163 _ A16.out).mono ?_
              rintro e w' ⟨rfl, ⟨nd, rfl⟩⟩
              refine ⟨_, rfl, ?_⟩
              refine hK.out _ _ ⟨hHeld.1, ((HB.out.cell (World.block_lt_of_cell? w _ hw162_0)).trans hw162_0)⟩ (fun hHeld => ?_)
              clear hK K
              refine norm_ (a' := ?_) ?_ ?_
              rotate_left
              ·show Act.put _ (some 50) _ = _
               simp only [Act.put, List.setIfInBounds_toArray, List.set_cons_zero, List.set_cons_succ, i64_w, i32_w]
               rfl
              refine pure_ (i := 12) (N := some 51) (v := ?_) (a' := ?_) #[true, true, true, true, true, true, true, true, true, true, true, true, true, false] rfl rfl (any_of HT_.out (by kernel_rfl)) (fun _ _ _ h => h) (Or.inl ⟨by rfl, ?_⟩) ?_ ?_
              rotate_left; (intro w'; go_simp; with_reducible rfl)
              rotate_left; (simp only [Act.put, List.setIfInBounds_toArray, List.set_cons_zero, List.set_cons_succ, i64_w, i32_w]; rfl)
              refine pure_ (i := 13) (N := some 9) (v := ?_) (a' := ?_) #[true, true, true, true, true, true, true, true, true, true, true, true, true, true] rfl rfl (any_of HT_.out (by kernel_rfl)) (fun _ _ _ h => h) (Or.inl ⟨by rfl, ?_⟩) ?_ ?_
              rotate_left; (intro w'; go_simp; with_reducible rfl)
              rotate_left; (simp only [Act.put, List.setIfInBounds_toArray, List.set_cons_zero, List.set_cons_succ, i64_w, i32_w]; rfl)
              refine done_ (done_of HT_.out (by kernel_rfl)) ?_
              try go_wp2
              go_roundg k2
              case measure => have := HK1.out; have := HK2.out; omega
              case rel => exact ⟨(Go.bits .xor .i64 x9_2 t163), (wrap64 (x10_2 + 1)), (by first | rfl | (simp; done) | (simp [*]; done)), (by first | rfl | (simp; done) | (simp [*]; done)), H', ⟨by have := HK1.out; have := HK2.out; omega⟩, ⟨uR HO_3.out⟩, ⟨uR HO_4.out⟩, ⟨uB HB.out⟩⟩
             ·rw [if_neg c15] at H
              exact absurd H (by simp)
            ·rw [if_neg c14] at H
             exact absurd H (by simp)
           ·rw [if_neg c12] at H
            exact absurd H (by simp)
          ·rw [if_neg c11] at H
           have c11b0 : decide (x10_2 < (x3_1.length : Int)) = false := decide_eq_false c11
           clear c11
           have H' := Aside0.mk H
           clear H
           obtain ⟨Ao19, co19, eo19⟩ := Kd.R_slice HO_3.out
           subst eo19
           go_wp2
           go_meet
           case rel => exact ⟨_, (x9_2), (by first | rfl | (simp; done) | (simp [*]; done)), H', ⟨by have := HK1.out; have := HK2.out; first | omega | exact Nat.le_refl _⟩, ⟨uR HO_3.out⟩, ⟨uR HO_4.out⟩, ⟨uB HB.out⟩⟩
         ·rw [if_neg c10] at H
          have c10b0 : decide (x10_2 ≤ x5_1) = false := decide_eq_false c10
          clear c10
          (first | rw [c10b0] | (simp only [i64_w, i32_w]; rw [c10b0]) | skip)
          have H' := Aside0.mk H
          clear H
          go_wp2
          go_meet
          case rel => exact ⟨_, (x9_2), (by first | rfl | (simp; done) | (simp [*]; done)), H', ⟨by have := HK1.out; have := HK2.out; first | omega | exact Nat.le_refl _⟩, ⟨uR HO_3.out⟩, ⟨uR HO_4.out⟩, ⟨uB HB.out⟩⟩
      case rest =>
       clear HC9
       try clear c1
       try clear p1
       try clear q1
       try clear hx1
       try clear p2
       try clear c4
       try clear c6
       try clear c6b0
       try clear p6
       try clear c7
       try clear c7b0
       try clear c8
       try clear c8b0
       try clear c10
       try clear c10b0
       try clear c11
       try clear c11b0
       try clear c12
       try clear c12b0
       try clear c14
       try clear c14b0
       try clear c15
       try clear c15b0
       try clear p16
       try clear q16
       try clear hx16
       try clear hx160_0
       try clear hx161_0
       try clear hx162_0
       try clear p1
       try clear p160
       try clear p161
       try clear p162
       try clear p2
       try clear q1
       try clear q160
       try clear q161
       try clear q162
       obtain ⟨kq, x9_8, rfl, HA, HJ8, HO_3, HO_4, HB⟩ := hcut
       cases kq with
       | zero => exact absurd HA.out (by simp [bch_locator.j2])
       | succ kj8 =>
        have H := HA.out
        clear HA
        simp only [bch_locator.j2] at H
        by_cases c20 : x9_8 = 0
        ·rw [if_pos c20] at H
         have c20b0 : (x9_8 == 0) = true := beq_iff_eq.mpr c20
         have c20b1 : (x9_8 != 0) = false := bne_eq_false_iff_eq.mpr c20
         clear c20
         have H' := Aside0.mk H
         clear H
         go_wp2
         go_roundg kj8
         case measure => have := HK1.out; have := HJ8.out; omega
         case rel => exact ⟨(x3_1), (x4_1), (x5_1), (wrap64 (x6_1 + 1)), (x7_1), (wrap64 (x21_1 + 1)), (by first | rfl | (simp; done) | (simp [*]; done)), (by first | rfl | (simp; done) | (simp [*]; done)), (by first | rfl | (simp; done) | (simp [*]; done)), (by first | rfl | (simp; done) | (simp [*]; done)), H', ⟨by have := HK1.out; have := HJ8.out; omega⟩, ⟨uR HO_3.out⟩, ⟨uR HO_4.out⟩, ⟨uB HB.out⟩⟩
        ·rw [if_neg c20] at H
         have c20b0 : (x9_8 == 0) = false := beq_eq_false_iff_ne.mpr c20
         have c20b1 : (x9_8 != 0) = true := bne_iff_ne.mpr c20
         replace H := Option.bind_eq_some_iff.mp H
         obtain ⟨⟨t164, t165⟩, A210, H⟩ := H
         replace H : ((bch_mul.f kj8 x9_8 t164).bind fun t166 => ((slices_Clone_int_int.f x3_1).bind fun t167 => (bch_locator.l2 kj8 l0 x3_1 x4_1 x5_1 x6_1 x7_1 x21_1 x9_8 t166 t167 (l0.length : Int) x21_1))) = some r := H
         have A21 := Aside0.mk A210
         clear A210
         replace H := Option.bind_eq_some_iff.mp H
         obtain ⟨t166, A220, H⟩ := H
         replace H : ((slices_Clone_int_int.f x3_1).bind fun t167 => (bch_locator.l2 kj8 l0 x3_1 x4_1 x5_1 x6_1 x7_1 x21_1 x9_8 t166 t167 (l0.length : Int) x21_1)) = some r := H
         have A22 := Aside0.mk A220
         clear A220
         replace H := Option.bind_eq_some_iff.mp H
         obtain ⟨t167, A230, H⟩ := H
         replace H : (bch_locator.l2 kj8 l0 x3_1 x4_1 x5_1 x6_1 x7_1 x21_1 x9_8 t166 t167 (l0.length : Int) x21_1) = some r := H
         have A23 := Aside0.mk A230
         clear A230
         have H' := Aside0.mk H
         clear H
         go_wp2_with (first | ((with_reducible refine gate_callee (f := 57) rfl ?_); refine goesL_ (some 58) rfl rfl Try.func57 (by kernel_rfl) rfl #[.int .i64 x7_1] rfl (by (try simp only [List.map_toArray, List.map_cons, List.map_nil]); first | done | rfl | (simp only [List.length_drop, List.length_take]; rfl)) ?_; (with_reducible refine (gf_Inv.calls kj8 x7_1 t164 t165 _ A21.out).mono ?_); rintro e w' ⟨rfl, ⟨nd, rfl⟩⟩; refine ⟨_, rfl, ?_⟩) | ((with_reducible refine gate_callee (f := 44) rfl ?_); refine goesL_ (some 63) rfl rfl Try.func44 (by kernel_rfl) rfl #[.int .i64 x9_8, .int .i64 t164] rfl (by (try simp only [List.map_toArray, List.map_cons, List.map_nil]); first | done | rfl | (simp only [List.length_drop, List.length_take]; rfl)) ?_; (with_reducible refine (bch_mul.calls kj8 x9_8 t164 t166 _ A22.out).mono ?_); rintro e w' ⟨rfl, ⟨nd, rfl⟩⟩; refine ⟨_, rfl, ?_⟩; obtain ⟨Ao24, co24, eo24⟩ := Kd.R_slice HO_3.out; subst eo24) | ((with_reducible refine gate_callee (f := 58) rfl ?_); refine goesL_ (some 65) rfl rfl Try.func58 (by kernel_rfl) rfl #[.slice Ao24 x3_1.length co24] rfl (by (try simp only [List.map_toArray, List.map_cons, List.map_nil]); first | done | rfl | (simp only [List.length_drop, List.length_take]; rfl)) ?_; (with_reducible refine (slices_Clone_int_int.calls _ _ x3_1 t167 _ ?side1 ?side2 A23.out).mono ?_); (case side1 => repeat (first | exact (Kd.R_reads' HO_3.out).2.2 | (with_reducible refine Kd.C_alloc ?_ _) | (with_reducible refine Kd.C_drewN ?_ _) | (with_reducible refine Kd.C_drew ?_))); (case side2 => exact (Kd.R_reads' HO_3.out).2.1); rintro e w25 ⟨v168, rfl, ho0, hb⟩; refine ⟨_, rfl, ?_⟩; have n0_ := Aside0.mk (Kd.R_elder' (uR HO_3.out) (Kd.R_base ho0) hb); have n1_ := Aside0.mk (Kd.R_elder' (uR HO_4.out) (Kd.R_base ho0) hb); have n2_ := Aside0.mk (Kd.R_lower (Kd.R_new' (Kd.R_new' ho0 (Kd.R_lt (uR HO_3.out))) (Kd.R_lt (uR HO_4.out))) (below_size (uB HB.out))); have n3_ := Aside0.mk (below_step (uB HB.out) hb); clear HO_3; clear HO_4; clear HB; have HO_3 := n0_; have HO_4 := n1_; have HO169 := n2_; have HB := n3_; clear n0_ n1_ n2_ n3_; (try clear hb); (try clear hb2); (try clear hk); (try clear hi); (try clear ho0)))
         go_loopg [3] kj8 (fun kq v3 w' => ∃ (x3_3 : List Int), Aside0 (bch_locator.l2 kq l0 x3_3 x4_1 x5_1 x6_1 x7_1 x21_1 x9_8 t166 t167 (l0.length : Int) x21_1 = some r) ∧ Aside0 (kq ≤ kj8) ∧ Aside0 (Kd.R (Kd.int .i64) 3 w' w.heap.size (fun k_ => some k_ ≠ (u4 : Value).ownBlock ∧ some k_ ≠ (v168 : Value).ownBlock) v3 x3_3) ∧ Aside0 (Kd.R (Kd.int .i64) 3 w' w.heap.size (fun k_ => some k_ ≠ (v3 : Value).ownBlock ∧ some k_ ≠ (v168 : Value).ownBlock) u4 x4_1) ∧ Aside0 (Kd.R (Kd.int .i64) 3 w' w.heap.size (fun k_ => some k_ ≠ (v3 : Value).ownBlock ∧ some k_ ≠ (u4 : Value).ownBlock) v168 t167) ∧ Aside0 (Below w.heap.size w w'))
         case atStart => exact ⟨(x3_1), H', ⟨Nat.le_refl _⟩, ⟨uR HO_3.out⟩, ⟨uR HO_4.out⟩, ⟨by (with_reducible repeat (first | apply Kd.R_alloc | apply Kd.R_drewN | apply Kd.R_drew)); exact Kd.R_mono HO169.out (fun _ hk => ⟨hk.1.2, hk.2⟩)⟩, ⟨uB HB.out⟩⟩
         case round =>
          clear H'
          try clear c1
          try clear p1
          try clear q1
          try clear hx1
          try clear c2
          try clear p2
          try clear c4
          try clear c5
          try clear c6
          try clear c6b0
          try clear p6
          try clear c7
          try clear c7b0
          try clear c8
          try clear c8b0
          try clear c10
          try clear c10b0
          try clear c11
          try clear c11b0
          try clear c12
          try clear c12b0
          try clear c14
          try clear c14b0
          try clear c15
          try clear c15b0
          try clear p16
          try clear q16
          try clear hx16
          try clear c20
          try clear c20b0
          try clear c20b1
          try clear hx160_0
          try clear hx161_0
          try clear hx162_0
          try clear p1
          try clear p16
          try clear p160
          try clear p161
          try clear p162
          try clear p2
          try clear p6
          try clear q1
          try clear q16
          try clear q160
          try clear q161
          try clear q162
          obtain ⟨x3_3, HA, HK3, HO_3, HO_4, HO_14, HB⟩ := hrel
          cases gk with
          | zero => exact absurd HA.out (by simp [bch_locator.l2])
          | succ k3 =>
           have H := HA.out
           clear HA
           simp only [bch_locator.l2] at H
           by_cases c26 : (x3_3.length : Int) < (wrap64 ((x4_1.length : Int) + x6_1))
           ·rw [if_pos c26] at H
            have c26b0 : decide ((x3_3.length : Int) < (wrap64 ((x4_1.length : Int) + x6_1))) = true := decide_eq_true c26
            clear c26
            by_cases c27 : 0 < x3_3.length ∧ x3_3.length < 17592186044416
            ·rw [if_pos c27] at H
             have LMc27 := Aside0.mk c27
             clear c27
             obtain ⟨y170, hy170⟩ : ∃ y_ : List Int, y_ = (x3_3 ++ [0]) := ⟨_, rfl⟩
             replace H : (bch_locator.l2 k3 l0 y170 x4_1 x5_1 x6_1 x7_1 x21_1 x9_8 t166 t167 (l0.length : Int) x21_1) = some r := by first | (rw [hy170]; with_reducible exact H) | (have H2_ := (Option.bind_some _ _).symm.trans H; rw [hy170]; with_reducible exact H2_) | (have H2_ := (Option.bind_some _ _).symm.trans H; with_reducible exact H2_) | with_reducible exact H | (rw [hy170]; exact H) | exact H
             have Ny170 := Aside0.mk hy170
             clear hy170
             have H' := Aside0.mk H
             clear H
             obtain ⟨Ao28, co28, eo28⟩ := Kd.R_slice HO_3.out
             subst eo28
             obtain ⟨Ao29, co29, eo29⟩ := Kd.R_slice HO_4.out
             subst eo29
             obtain ⟨adz_, eaz_, hcz_⟩ := cl_cells (Kd.R_reads' HO_3.out).2.2 rfl LMc27.out.1
             subst eaz_
             have hroomz_ := (Kd.R_reads' HO_3.out).2.1
             have HCZ := Aside0.mk hcz_
             clear hcz_
             go_wp2_with (first | ((with_reducible refine gate_builtin (b := .append) (xs := #[.tmp 78, .tmp 79]) rfl ?_); at_builtin; refine cut_append (.tmp 78) (.tmp 79) rfl rfl adz_ x3_3 rfl (fun j u hu => cl_al _ (HCZ.out j u hu)) wr.heap.size 0 rfl ((blk_cell (blk_new wr _) 0).trans rfl) LMc27.out.2 ?_; intro v171 w30 ho hb0; rw [← Ny170.out] at ho; have hE := below_step (below_alloc (Below.refl _ wr) _) hb0; rw [World.size_alloc] at ho; have ho1 := Kd.R_lower ho (Nat.le_succ wr.heap.size); have n0_ := Aside0.mk (Kd.R_elder' (Kd.R_mono HO_4.out (fun _ hk => hk.2)) (own_base (Kd.own_of_R ho1)) hE); have n1_ := Aside0.mk (Kd.R_elder' (Kd.R_mono HO_14.out (fun _ hk => hk.2)) (own_base (Kd.own_of_R ho1)) hE); have n2_ := Aside0.mk (below_step HB.out hE); have n3_ := Aside0.mk (Kd.R_lower (Kd.R_mono (ok' := (fun k_ => some k_ ≠ (.slice Ao29 x4_1.length co29 : Value).ownBlock ∧ some k_ ≠ (v168 : Value).ownBlock)) (Kd.R_bound ho1) (fun k_ hk => ⟨Kd.fresh' (Kd.R_lt HO_4.out) k_ hk.2.1, Kd.fresh' (Kd.R_lt HO_14.out) k_ hk.2.1⟩)) HB.out.size); clear HO_4; clear HO_14; clear HB; clear HO_3; have HO_4 := n0_; have HO_14 := n1_; have HB := n2_; have HO172 := n3_; clear n0_ n1_ n2_ n3_; clear ho ho1 hb0 hE HCZ))
             go_roundg k3
             case measure => have := HK1.out; have := HJ8.out; have := HK3.out; omega
             case rel => exact ⟨(y170), H', ⟨by have := HK1.out; have := HJ8.out; have := HK3.out; omega⟩, ⟨uR HO172.out⟩, ⟨by (with_reducible repeat (first | apply Kd.R_alloc | apply Kd.R_drewN | apply Kd.R_drew)); exact Kd.R_mono HO_4.out (fun _ hk => ⟨hk.2, hk.1⟩)⟩, ⟨by (with_reducible repeat (first | apply Kd.R_alloc | apply Kd.R_drewN | apply Kd.R_drew)); exact Kd.R_mono HO_14.out (fun _ hk => ⟨hk.2, hk.1⟩)⟩, ⟨uB HB.out⟩⟩
            ·rw [if_neg c27] at H
             exact absurd H (by simp)
           ·rw [if_neg c26] at H
            have c26b0 : decide ((x3_3.length : Int) < (wrap64 ((x4_1.length : Int) + x6_1))) = false := decide_eq_false c26
            clear c26
            replace H := Option.bind_eq_some_iff.mp H
            obtain ⟨t173, A310, H⟩ := H
            replace H : (bch_locator.l3 k3 l0 t173 x4_1 x5_1 x6_1 x7_1 x21_1 x9_8 t166 t167 (l0.length : Int) x21_1 x4_1 (x4_1.length : Int) 0) = some r := H
            have A31 := Aside0.mk A310
            clear A310
            have H' := Aside0.mk H
            clear H
            obtain ⟨Ao32, co32, eo32⟩ := Kd.R_slice HO_3.out
            subst eo32
            obtain ⟨Ao33, co33, eo33⟩ := Kd.R_slice HO_4.out
            subst eo33
            go_wp2_with (first | ((with_reducible refine gate_callee (f := 58) rfl ?_); refine goesL_ (some 82) rfl rfl Try.func58 (by kernel_rfl) rfl #[.slice Ao32 x3_3.length co32] rfl (by (try simp only [List.map_toArray, List.map_cons, List.map_nil]); first | done | rfl | (simp only [List.length_drop, List.length_take]; rfl)) ?_; (with_reducible refine (slices_Clone_int_int.calls _ _ x3_3 t173 _ ?side1 ?side2 A31.out).mono ?_); (case side1 => repeat (first | exact (Kd.R_reads' HO_3.out).2.2 | (with_reducible refine Kd.C_alloc ?_ _) | (with_reducible refine Kd.C_drewN ?_ _) | (with_reducible refine Kd.C_drew ?_))); (case side2 => exact (Kd.R_reads' HO_3.out).2.1); rintro e w34 ⟨v174, rfl, ho0, hb⟩; refine ⟨_, rfl, ?_⟩; have n0_ := Aside0.mk (Kd.R_elder' (uR HO_3.out) (Kd.R_base ho0) hb); have n1_ := Aside0.mk (Kd.R_elder' (uR HO_4.out) (Kd.R_base ho0) hb); have n2_ := Aside0.mk (Kd.R_elder' (uR HO_14.out) (Kd.R_base ho0) hb); have n3_ := Aside0.mk (Kd.R_lower (Kd.R_new' (Kd.R_new' (Kd.R_new' ho0 (Kd.R_lt (uR HO_3.out))) (Kd.R_lt (uR HO_4.out))) (Kd.R_lt (uR HO_14.out))) (below_size (uB HB.out))); have n4_ := Aside0.mk (below_step (uB HB.out) hb); clear HO_3; clear HO_4; clear HO_14; clear HB; have HO_3 := n0_; have HO_4 := n1_; have HO_14 := n2_; have HO175 := n3_; have HB := n4_; clear n0_ n1_ n2_ n3_ n4_; (try clear hb); (try clear hb2); (try clear hk); (try clear hi); (try clear ho0)))
            go_loopg [85] k3 (fun kq v85 w' => ∃ (x3_4 : List Int) (x85_4 : Int), v85 = .int .i64 x85_4 ∧ Aside0 (bch_locator.l3 kq l0 x3_4 x4_1 x5_1 x6_1 x7_1 x21_1 x9_8 t166 t167 (l0.length : Int) x21_1 x4_1 (x4_1.length : Int) x85_4 = some r) ∧ Aside0 (kq ≤ k3) ∧ Aside0 (Kd.R (Kd.int .i64) 3 w' w.heap.size (fun k_ => some k_ ≠ ((.slice Ao33 x4_1.length co33) : Value).ownBlock ∧ some k_ ≠ (v168 : Value).ownBlock ∧ some k_ ≠ ((.slice Ao33 x4_1.length co33) : Value).ownBlock) v174 x3_4) ∧ Aside0 (Kd.R (Kd.int .i64) 3 w' w.heap.size (fun k_ => some k_ ≠ (v174 : Value).ownBlock ∧ some k_ ≠ (v168 : Value).ownBlock) (.slice Ao33 x4_1.length co33) x4_1) ∧ Aside0 (Kd.R (Kd.int .i64) 3 w' w.heap.size (fun k_ => some k_ ≠ (v174 : Value).ownBlock ∧ some k_ ≠ ((.slice Ao33 x4_1.length co33) : Value).ownBlock ∧ some k_ ≠ ((.slice Ao33 x4_1.length co33) : Value).ownBlock) v168 t167) ∧ Aside0 (Kd.R (Kd.int .i64) 3 w' w.heap.size (fun k_ => some k_ ≠ (v174 : Value).ownBlock ∧ some k_ ≠ (v168 : Value).ownBlock) (.slice Ao33 x4_1.length co33) x4_1) ∧ Aside0 (Below w.heap.size w w'))
            case atStart => exact ⟨(t173), (0), (by first | rfl | (simp; done) | (simp [*]; done)), H', ⟨Nat.le_refl _⟩, ⟨by (with_reducible repeat (first | apply Kd.R_alloc | apply Kd.R_drewN | apply Kd.R_drew)); exact Kd.R_mono HO175.out (fun _ hk => ⟨hk.1.2, ⟨hk.2, hk.1.2⟩⟩)⟩, ⟨by (with_reducible repeat (first | apply Kd.R_alloc | apply Kd.R_drewN | apply Kd.R_drew)); exact Kd.R_mono HO_4.out (fun _ hk => ⟨hk.2, hk.1.2⟩)⟩, ⟨by (with_reducible repeat (first | apply Kd.R_alloc | apply Kd.R_drewN | apply Kd.R_drew)); exact Kd.R_mono HO_14.out (fun _ hk => ⟨hk.2, ⟨hk.1.2, hk.1.2⟩⟩)⟩, ⟨by (with_reducible repeat (first | apply Kd.R_alloc | apply Kd.R_drewN | apply Kd.R_drew)); exact Kd.R_mono HO_4.out (fun _ hk => ⟨hk.2, hk.1.2⟩)⟩, ⟨uB HB.out⟩⟩
            case round =>
             clear H'
             try clear c1
             try clear p1
             try clear q1
             try clear hx1
             try clear c2
             try clear p2
             try clear c4
             try clear c5
             try clear c6
             try clear c6b0
             try clear p6
             try clear c7
             try clear c7b0
             try clear c8
             try clear c8b0
             try clear c10
             try clear c10b0
             try clear c11
             try clear c11b0
             try clear c12
             try clear c12b0
             try clear c14
             try clear c14b0
             try clear c15
             try clear c15b0
             try clear p16
             try clear q16
             try clear hx16
             try clear c20
             try clear c20b0
             try clear c20b1
             try clear c26
             try clear c26b0
             try clear c27
             try clear hx160_0
             try clear hx161_0
             try clear hx162_0
             try clear p1
             try clear p16
             try clear p160
             try clear p161
             try clear p162
             try clear p2
             try clear p6
             try clear q1
             try clear q16
             try clear q160
             try clear q161
             try clear q162
             obtain ⟨x3_4, x85_4, rfl, HA, HK4, HO_3, HO_4, HO_14, HO_83, HB⟩ := hrel
             cases gk with
             | zero => exact absurd HA.out (by simp [bch_locator.l3])
             | succ k4 =>
              have H := HA.out
              clear HA
              simp only [bch_locator.l3] at H
              by_cases c35 : x85_4 < (x4_1.length : Int)
              ·rw [if_pos c35] at H
               have c35b0 : decide (x85_4 < (x4_1.length : Int)) = true := decide_eq_true c35
               clear c35
               by_cases c36 : 0 ≤ x85_4
               ·rw [if_pos c36] at H
                have c36b0 : decide (0 ≤ x85_4) = true := decide_eq_true c36
                clear c36
                by_cases c37 : x85_4 < (x4_1.length : Int)
                ·rw [if_pos c37] at H
                 have c37b0 : decide (x85_4 < (x4_1.length : Int)) = true := decide_eq_true c37
                 clear c37
                 obtain ⟨ji38, hji38⟩ : ∃ j_ : Int, (wrap64 (x85_4 + x6_1)) = j_ := ⟨_, rfl⟩
                 replace H : (if 0 ≤ (ji38) then (if (ji38) < (x3_4.length : Int) then ((bch_mul.f k4 t166 (rd x4_1 x85_4)).bind fun t178 => (bch_locator.l3 k4 l0 (x3_4.set ((ji38) : Int).toNat (Go.bits .xor .i64 (rd x3_4 (ji38)) t178)) x4_1 x5_1 x6_1 x7_1 x21_1 x9_8 t166 t167 (l0.length : Int) x21_1 x4_1 (x4_1.length : Int) (wrap64 (x85_4 + 1)))) else (none)) else (none)) = some r := by first | (rw [hji38] at H; exact H) | (simp only [hji38] at H ⊢; exact H)
                 have hji38w : (IntKind.i64.wrap (x85_4 + x6_1)) = ji38 := (i64_w _).trans hji38
                 by_cases c39 : 0 ≤ (ji38)
                 ·rw [if_pos c39] at H
                  have c39b0 : decide (0 ≤ (ji38)) = true := decide_eq_true c39
                  clear c39
                  by_cases c40 : (ji38) < (x3_4.length : Int)
                  ·rw [if_pos c40] at H
                   have c40b0 : decide ((ji38) < (x3_4.length : Int)) = true := decide_eq_true c40
                   clear c40
                   replace H := Option.bind_eq_some_iff.mp H
                   obtain ⟨t178, A410, H⟩ := H
                   replace H : (bch_locator.l3 k4 l0 (x3_4.set ((ji38) : Int).toNat (Go.bits .xor .i64 (rd x3_4 (ji38)) t178)) x4_1 x5_1 x6_1 x7_1 x21_1 x9_8 t166 t167 (l0.length : Int) x21_1 x4_1 (x4_1.length : Int) (wrap64 (x85_4 + 1))) = some r := H
                   have A41 := Aside0.mk A410
                   clear A410
                   obtain ⟨y179, hy179⟩ : ∃ y_ : List Int, y_ = (x3_4.set ((ji38) : Int).toNat (Go.bits .xor .i64 (rd x3_4 (ji38)) t178)) := ⟨_, rfl⟩
                   replace H : (bch_locator.l3 k4 l0 y179 x4_1 x5_1 x6_1 x7_1 x21_1 x9_8 t166 t167 (l0.length : Int) x21_1 x4_1 (x4_1.length : Int) (wrap64 (x85_4 + 1))) = some r := by first | (rw [hy179]; with_reducible exact H) | (have H2_ := (Option.bind_some _ _).symm.trans H; rw [hy179]; with_reducible exact H2_) | (have H2_ := (Option.bind_some _ _).symm.trans H; with_reducible exact H2_) | with_reducible exact H | (rw [hy179]; exact H) | exact H
                   have Ny179 := Aside0.mk hy179
                   clear hy179
                   have H' := Aside0.mk H
                   clear H
                   have p176 : 0 ≤ (x85_4 : Int) := of_decide_eq_true (by first | (with_reducible assumption) | assumption)
                   have q176 : x85_4 < (x4_1.length : Int) := of_decide_eq_true (by first | (with_reducible assumption) | assumption)
                   obtain ⟨ad176, e176, hx176_0⟩ := Kd.at_int (Kd.R_reads' HO_83.out).2.2 x85_4 p176 q176
                   cases e176
                   replace p176 := eq_true p176
                   replace q176 := eq_true q176
                   try go_wp2
                   have n0_ := Aside0.mk (Kd.R_drew HO_3.out)
                   have n1_ := Aside0.mk (Kd.R_drew HO_4.out)
                   have n2_ := Aside0.mk (Kd.R_drew HO_14.out)
                   have n3_ := Aside0.mk (Kd.R_drew HO_83.out)
                   have n4_ := Aside0.mk (below_drew1 HB.out)
                   clear HO_3
                   clear HO_4
                   clear HO_14
                   clear HO_83
                   clear HB
                   have HO_3 := n0_
                   have HO_4 := n1_
                   have HO_14 := n2_
                   have HO_83 := n3_
                   have HB := n4_
                   clear n0_ n1_ n2_ n3_ n4_
                   obtain ⟨Ao44, co44, eo44⟩ := Kd.R_slice HO_3.out
                   (first | subst eo44 | (injection eo44 with f1_ f2_ f3_; have f4_ := f1_.symm; have f5_ := f3_.symm; clear f1_ f2_ f3_; subst f4_; subst f5_))
                   have p177 : 0 ≤ ((ji38) : Int) := of_decide_eq_true (by first | (with_reducible assumption) | assumption)
                   have q177 : (ji38) < (x3_4.length : Int) := of_decide_eq_true (by first | (with_reducible assumption) | assumption)
                   obtain ⟨ad177, e177, hx177_0⟩ := Kd.at_int (Kd.R_reads' HO_3.out).2.2 (ji38) p177 q177
                   cases e177
                   replace p177 := eq_true p177
                   replace q177 := eq_true q177
                   refine start_ (n := 12) (S := fun w' => w'.cell? (ad177.add ((ji38)).toNat) = some (.int .i64 (rd x3_4 (ji38)))) (ds := [11]) #[false, false, false, false, false, false, false, false, false, false, false, false] (by kernel_rfl) rfl rfl (hx177_0) (fun hHeld => ?_); refine with_tabW bch_locator.tab22 bch_locator.bits22 (fun HT_ HW_ => ?_)
                   generalize wr.drew = w43 at HO_3 HO_4 HO_14 HO_83 HB hx177_0 hHeld ⊢
                   refine pure_ (i := 0) (N := some 90) (v := ?_) (a' := ?_) #[true, false, false, false, false, false, false, false, false, false, false, false] rfl rfl (any_of HT_.out (by kernel_rfl)) (fun _ _ _ h => h) (Or.inl ⟨by rfl, ?_⟩) ?_ ?_
                   rotate_left; (intro w'; go_simp; with_reducible rfl)
                   rotate_left; (simp only [Act.put, List.setIfInBounds_toArray, List.set_cons_zero, List.set_cons_succ, i64_w, i32_w]; rfl)
                   refine pure_ (i := 1) (N := some 91) (v := ?_) (a' := ?_) #[true, true, false, false, false, false, false, false, false, false, false, false] rfl rfl (any_of HT_.out (by kernel_rfl)) (fun _ _ _ h => h) (Or.inl ⟨by rfl, ?_⟩) ?_ ?_
                   rotate_left; (intro w'; go_simp; with_reducible rfl)
                   rotate_left; (simp only [Act.put, List.setIfInBounds_toArray, List.set_cons_zero, List.set_cons_succ, i64_w, i32_w]; rfl)
                   refine pure_ (i := 2) (N := some 92) (v := ?_) (a' := ?_) #[true, true, true, false, false, false, false, false, false, false, false, false] rfl rfl (any_of HT_.out (by kernel_rfl)) (fun _ _ _ h => h) (Or.inl ⟨by rfl, ?_⟩) ?_ ?_
                   rotate_left; (intro w'; go_simp; with_reducible rfl)
                   rotate_left; (simp only [Act.put, List.setIfInBounds_toArray, List.set_cons_zero, List.set_cons_succ, i64_w, i32_w]; rfl)
                   refine pure_ (i := 3) (N := some 93) (v := ?_) (a' := ?_) #[true, true, true, true, false, false, false, false, false, false, false, false] rfl rfl (any_of HT_.out (by kernel_rfl)) (fun _ _ _ h => h) (Or.inl ⟨by rfl, ?_⟩) ?_ ?_
                   rotate_left; (intro w'; go_simp; with_reducible rfl)
                   rotate_left; (simp only [Act.put, List.setIfInBounds_toArray, List.set_cons_zero, List.set_cons_succ, i64_w, i32_w]; rfl)
                   refine pure_ (i := 4) (N := some 94) (v := ?_) (a' := ?_) #[true, true, true, true, true, false, false, false, false, false, false, false] rfl rfl (any_of HT_.out (by kernel_rfl)) (fun _ _ _ h => h) (Or.inl ⟨by rfl, ?_⟩) ?_ ?_
                   rotate_left; (intro w'; go_simp; with_reducible rfl)
                   rotate_left; (simp only [Act.put, List.setIfInBounds_toArray, List.set_cons_zero, List.set_cons_succ, i64_w, i32_w]; rfl)
                   refine pure_ (i := 6) (N := some 96) (v := ?_) (a' := ?_) #[true, true, true, true, true, false, true, false, false, false, false, false] rfl rfl (any_of HT_.out (by kernel_rfl)) (fun _ _ _ h => h) (Or.inl ⟨by rfl, ?_⟩) ?_ ?_
                   rotate_left; (intro w'; go_simp; with_reducible rfl)
                   rotate_left; (simp only [Act.put, List.setIfInBounds_toArray, List.set_cons_zero, List.set_cons_succ, i64_w, i32_w]; rfl)
                   refine pure_ (i := 7) (N := some 97) (v := ?_) (a' := ?_) #[true, true, true, true, true, false, true, true, false, false, false, false] rfl rfl (any_of HT_.out (by kernel_rfl)) (fun _ _ _ h => h) (Or.inl ⟨by rfl, ?_⟩) ?_ ?_
                   rotate_left; (intro w'; go_simp; with_reducible rfl)
                   rotate_left; (simp only [Act.put, List.setIfInBounds_toArray, List.set_cons_zero, List.set_cons_succ, i64_w, i32_w]; rfl)
                   refine take_ (i := 5) (N := some 95) (v := ?_) (a' := ?_) #[true, true, true, true, true, true, true, true, false, false, false, false] rfl rfl (take_ofW HT_.out HW_.out (by kernel_rfl)) (fun _ _ _ h => h) (Or.inl ⟨by rfl, ?_⟩) hHeld ?_ ?_
                   rotate_left; (intro w' s0; go_simp; with_reducible rfl)
                   rotate_left; (simp only [Act.put, List.setIfInBounds_toArray, List.set_cons_zero, List.set_cons_succ, i64_w, i32_w]; rfl)
                   refine one_ (i := 8) (N := some 98) #[true, true, true, true, true, true, true, true, true, false, false, false] rfl rfl (one_of HT_.out (by kernel_rfl)) (by decide) (fun K hK => ?_)
                   refine goes_ Try.func44 (by kernel_rfl) rfl #[.int .i64 t166, .int .i64 (rd x4_1 x85_4)] (by rfl) rfl rfl (by (try simp only [List.map_toArray, List.map_cons, List.map_nil]); first | done | rfl | (simp only [List.length_drop, List.length_take]; rfl)) ?_
                   with_reducible refine (bch_mul.calls k4 t166 (rd x4_1 x85_4) t178 _ A41.out).mono ?_
                   rintro e w' ⟨rfl, ⟨nd, rfl⟩⟩
                   refine ⟨_, rfl, ?_⟩
                   have p42 : 0 ≤ ((ji38) : Int) := of_decide_eq_true (by first | (with_reducible assumption) | assumption)
                   have q42 : ((ji38) : Int) < ((x3_4.length : Int) : Int) := of_decide_eq_true (by first | (with_reducible assumption) | assumption)
                   obtain ⟨go42, co42, eo42, gb42, gl42, cl42, HG42⟩ := Kd.R_form HO_3.out (by omega)
                   (first | cases eo42 | (injection eo42 with ea_ en_ ec_; (first | subst ea_ | (injection ea_ with ea_; subst ea_)); subst ec_; clear en_))
                   have GB42 := Aside0.mk gb42
                   have GG42 := Aside0.mk HG42
                   clear gb42 gl42 HG42
                   (first | simp only [add_plain] at hx177_0 | skip)
                   obtain ⟨hx42_0, hf42_0⟩ := Kd.R_celln 0 HO_3.out ((ji38) : Int) p42 q42
                   replace p42 := eq_true p42
                   replace q42 := eq_true q42
                   have HP45 := Kd.R_putn HO_3.out ((ji38) : Int) (Go.bits .xor .i64 (rd x3_4 (ji38)) t178)
                   rw [← Ny179.out] at HP45
                   have HQ45 := Aside0.mk HP45
                   clear HP45
                   refine hK.out _ _ (hHeld) (fun hHeld => ?_)
                   clear hK K
                   refine norm_ (a' := ?_) ?_ ?_
                   rotate_left
                   ·show Act.put _ (some 98) _ = _
                    simp only [Act.put, List.setIfInBounds_toArray, List.set_cons_zero, List.set_cons_succ, i64_w, i32_w]
                    rfl
                   refine pure_ (i := 9) (N := some 99) (v := ?_) (a' := ?_) #[true, true, true, true, true, true, true, true, true, true, false, false] rfl rfl (any_of HT_.out (by kernel_rfl)) (fun _ _ _ h => h) (Or.inl ⟨by rfl, ?_⟩) ?_ ?_
                   rotate_left; (intro w'; go_simp; with_reducible rfl)
                   rotate_left; (simp only [Act.put, List.setIfInBounds_toArray, List.set_cons_zero, List.set_cons_succ, i64_w, i32_w]; rfl)
                   refine pure_ (i := 10) (N := some 100) (v := ?_) (a' := ?_) #[true, true, true, true, true, true, true, true, true, true, true, false] rfl rfl (any_of HT_.out (by kernel_rfl)) (fun _ _ _ h => h) (Or.inl ⟨by rfl, ?_⟩) ?_ ?_
                   rotate_left; (intro w'; go_simp; with_reducible rfl)
                   rotate_left; (simp only [Act.put, List.setIfInBounds_toArray, List.set_cons_zero, List.set_cons_succ, i64_w, i32_w]; rfl)
                   refine last_ (i := 11) (N := none) #[true, true, true, true, true, true, true, true, true, true, true, true] rfl rfl (one_of HT_.out (by kernel_rfl)) (by decide) (fun K hK => ?_)
                   refine skip_ (w1 := ?_) (by rfl) rfl ?_ ?_
                   rotate_left
                   ·go_simp
                    rfl
                   refine hK.out _ _ ?_
                   clear hK K
                   refine done_ (done_of HT_.out (by kernel_rfl)) ?_
                   try go_wp2
                   go_roundg k4
                   case measure => have := HK1.out; have := HJ8.out; have := HK3.out; have := HK4.out; omega
                   case rel => exact ⟨(y179), (wrap64 (x85_4 + 1)), (by first | rfl | (simp; done) | (simp [*]; done)), H', ⟨by have := HK1.out; have := HJ8.out; have := HK3.out; have := HK4.out; omega⟩, ⟨by (with_reducible repeat (first | apply Kd.R_alloc | apply Kd.R_drewN | apply Kd.R_drew)); exact HQ45.out⟩, ⟨by (with_reducible repeat (first | apply Kd.R_alloc | apply Kd.R_drewN | apply Kd.R_drew)); exact Kd.R_mono (Kd.R_far (p := ⟨go42, ((ji38) : Int).toNat, none⟩) (Kd.R_mono HO_4.out (fun k_ hk => (⟨hk, fun e_ => hk.1 (by rw [e_]; rfl)⟩ : _ ∧ k_ ≠ go42))) (fun _ hk => hk.2) (.int .i64 (Go.bits .xor .i64 (rd x3_4 (ji38)) t178))) (fun _ hk => ⟨hk.1.1, hk.1.2⟩)⟩, ⟨by (with_reducible repeat (first | apply Kd.R_alloc | apply Kd.R_drewN | apply Kd.R_drew)); exact Kd.R_mono (Kd.R_far (p := ⟨go42, ((ji38) : Int).toNat, none⟩) (Kd.R_mono HO_14.out (fun k_ hk => (⟨hk, fun e_ => hk.1 (by rw [e_]; rfl)⟩ : _ ∧ k_ ≠ go42))) (fun _ hk => hk.2) (.int .i64 (Go.bits .xor .i64 (rd x3_4 (ji38)) t178))) (fun _ hk => ⟨hk.1.1, ⟨hk.1.2.1, hk.1.2.2⟩⟩)⟩, ⟨by (with_reducible repeat (first | apply Kd.R_alloc | apply Kd.R_drewN | apply Kd.R_drew)); exact Kd.R_mono (Kd.R_far (p := ⟨go42, ((ji38) : Int).toNat, none⟩) (Kd.R_mono HO_83.out (fun k_ hk => (⟨hk, fun e_ => hk.1 (by rw [e_]; rfl)⟩ : _ ∧ k_ ≠ go42))) (fun _ hk => hk.2) (.int .i64 (Go.bits .xor .i64 (rd x3_4 (ji38)) t178))) (fun _ hk => ⟨hk.1.1, hk.1.2⟩)⟩, ⟨by repeat (first | (with_reducible first | exact HB.out | apply below_alloc | apply pw_below_drewN | apply below_drew1 | refine below_set ?_ GB42.out) | exact HB.out)⟩⟩
                  ·rw [if_neg c40] at H
                   exact absurd H (by simp)
                 ·rw [if_neg c39] at H
                  exact absurd H (by simp)
                ·rw [if_neg c37] at H
                 exact absurd H (by simp)
               ·rw [if_neg c36] at H
                exact absurd H (by simp)
              ·rw [if_neg c35] at H
               have c35b0 : decide (x85_4 < (x4_1.length : Int)) = false := decide_eq_false c35
               clear c35
               by_cases c46 : (wrap64 (2 * x5_1)) ≤ x21_1
               ·rw [if_pos c46] at H
                have c46b0 : decide ((wrap64 (2 * x5_1)) ≤ x21_1) = true := decide_eq_true c46
                clear c46
                have H' := Aside0.mk H
                clear H
                go_wp2
                go_roundg k4
                case measure => have := HK1.out; have := HJ8.out; have := HK3.out; have := HK4.out; omega
                case rel => exact ⟨(x3_4), (t167), (wrap64 ((wrap64 (x21_1 + 1)) - x5_1)), (1), (x9_8), (wrap64 (x21_1 + 1)), (by first | rfl | (simp; done) | (simp [*]; done)), (by first | rfl | (simp; done) | (simp [*]; done)), (by first | rfl | (simp; done) | (simp [*]; done)), (by first | rfl | (simp; done) | (simp [*]; done)), H', ⟨by have := HK1.out; have := HJ8.out; have := HK3.out; have := HK4.out; omega⟩, ⟨by (with_reducible repeat (first | apply Kd.R_alloc | apply Kd.R_drewN | apply Kd.R_drew)); exact Kd.R_mono HO_3.out (fun _ hk => hk.2.1)⟩, ⟨by (with_reducible repeat (first | apply Kd.R_alloc | apply Kd.R_drewN | apply Kd.R_drew)); exact Kd.R_mono HO_14.out (fun _ hk => hk.1)⟩, ⟨uB HB.out⟩⟩
               ·rw [if_neg c46] at H
                have c46b0 : decide ((wrap64 (2 * x5_1)) ≤ x21_1) = false := decide_eq_false c46
                clear c46
                have H' := Aside0.mk H
                clear H
                go_wp2
                go_roundg k4
                case measure => have := HK1.out; have := HJ8.out; have := HK3.out; have := HK4.out; omega
                case rel => exact ⟨(x3_4), (x4_1), (x5_1), (wrap64 (x6_1 + 1)), (x7_1), (wrap64 (x21_1 + 1)), (by first | rfl | (simp; done) | (simp [*]; done)), (by first | rfl | (simp; done) | (simp [*]; done)), (by first | rfl | (simp; done) | (simp [*]; done)), (by first | rfl | (simp; done) | (simp [*]; done)), H', ⟨by have := HK1.out; have := HJ8.out; have := HK3.out; have := HK4.out; omega⟩, ⟨by (with_reducible repeat (first | apply Kd.R_alloc | apply Kd.R_drewN | apply Kd.R_drew)); exact Kd.R_mono HO_3.out (fun _ hk => hk.1)⟩, ⟨by (with_reducible repeat (first | apply Kd.R_alloc | apply Kd.R_drewN | apply Kd.R_drew)); exact Kd.R_mono HO_4.out (fun _ hk => hk.1)⟩, ⟨uB HB.out⟩⟩
     ·rw [if_neg c8] at H
      exact absurd H (by simp)
    ·rw [if_neg c7] at H
     exact absurd H (by simp)
   ·rw [if_neg c6] at H
    have c6b0 : decide (x21_1 < (l0.length : Int)) = false := decide_eq_false c6
    clear c6
    have H' := Aside0.mk H
    clear H
    go_wp2
    go_loopg [3] k1 (fun kq v3 w' => ∃ (x3_2 : List Int), Aside0 (bch_locator.l4 kq x3_2 = some r) ∧ Aside0 (kq ≤ k1) ∧ Aside0 (Kd.R (Kd.int .i64) 3 w' w.heap.size (fun _ => True) v3 x3_2) ∧ Aside0 (Below w.heap.size w w'))
    case atStart => exact ⟨(x3_1), H', ⟨Nat.le_refl _⟩, ⟨by (with_reducible repeat (first | apply Kd.R_alloc | apply Kd.R_drewN | apply Kd.R_drew)); exact Kd.R_mono HO_3.out (fun _ hk => trivial)⟩, ⟨uB HB.out⟩⟩
    case round =>
     clear H'
     try clear c1
     try clear p1
     try clear q1
     try clear hx1
     try clear c2
     try clear p2
     try clear c3
     try clear c4
     try clear p4
     try clear q4
     try clear hx4
     try clear hf4
     try clear c5
     try clear c6
     try clear c6b0
     try clear p6
     try clear c7
     try clear c7b0
     try clear c8
     try clear c8b0
     try clear c10
     try clear c10b0
     try clear c11
     try clear c11b0
     try clear c12
     try clear c12b0
     try clear c14
     try clear c14b0
     try clear c15
     try clear c15b0
     try clear p16
     try clear q16
     try clear hx16
     try clear p17
     try clear q17
     try clear hx17
     try clear c20
     try clear c20b0
     try clear c20b1
     try clear c26
     try clear c26b0
     try clear c27
     try clear c35
     try clear c35b0
     try clear c36
     try clear c36b0
     try clear c37
     try clear c37b0
     try clear c39
     try clear c39b0
     try clear c40
     try clear c40b0
     try clear p42
     try clear q42
     try clear hx42
     try clear hf42
     try clear c44
     try clear c46
     try clear c46b0
     try clear hx160_0
     try clear hx161_0
     try clear hx162_0
     try clear hx176_0
     try clear hx177_0
     try clear hx42_0
     try clear p1
     try clear p16
     try clear p160
     try clear p161
     try clear p162
     try clear p176
     try clear p177
     try clear p2
     try clear p42
     try clear p6
     try clear q1
     try clear q16
     try clear q160
     try clear q161
     try clear q162
     try clear q176
     try clear q177
     try clear q42
     obtain ⟨x3_2, HA, HK2, HO_3, HB⟩ := hrel
     cases gk with
     | zero => exact absurd HA.out (by simp [bch_locator.l4])
     | succ k2 =>
      have H := HA.out
      clear HA
      simp only [bch_locator.l4] at H
      by_cases c47 : (x3_2.length : Int) > 0
      ·rw [if_pos c47] at H
       have c47b0 : decide (0 < (x3_2.length : Int)) = true := decide_eq_true c47
       have c47b1 : decide (0 < x3_2.length) = true := decide_eq_true (by omega)
       clear c47
       obtain ⟨ji48, hji48⟩ : ∃ j_ : Int, (wrap64 ((x3_2.length : Int) - 1)) = j_ := ⟨_, rfl⟩
       replace H : (if 0 ≤ (ji48) then (if (ji48) < (x3_2.length : Int) then (if (rd x3_2 (ji48)) = 0 then (if (ji48) ≤ (x3_2.length : Int) then (bch_locator.l4 k2 (x3_2.take ((ji48) : Int).toNat)) else (none)) else (some x3_2)) else (none)) else (none)) = some r := by first | (rw [hji48] at H; exact H) | (simp only [hji48] at H ⊢; exact H)
       have hji48w : (IntKind.i64.wrap ((x3_2.length : Int) - 1)) = ji48 := (i64_w _).trans hji48
       by_cases c49 : 0 ≤ (ji48)
       ·rw [if_pos c49] at H
        have c49b0 : decide (0 ≤ (ji48)) = true := decide_eq_true c49
        clear c49
        by_cases c50 : (ji48) < (x3_2.length : Int)
        ·rw [if_pos c50] at H
         have c50b0 : decide ((ji48) < (x3_2.length : Int)) = true := decide_eq_true c50
         clear c50
         by_cases c51 : (rd x3_2 (ji48)) = 0
         ·rw [if_pos c51] at H
          have c51b0 : ((rd x3_2 (ji48)) == 0) = true := beq_iff_eq.mpr c51
          have c51b1 : ((rd x3_2 (ji48)) != 0) = false := bne_eq_false_iff_eq.mpr c51
          clear c51
          by_cases c52 : (ji48) ≤ (x3_2.length : Int)
          ·rw [if_pos c52] at H
           have c52b0 := eq_true c52
           have c52b1 : decide ((ji48) ≤ (x3_2.length : Int)) = true := decide_eq_true c52
           clear c52
           obtain ⟨y181, hy181⟩ : ∃ y_ : List Int, y_ = (x3_2.take ((ji48) : Int).toNat) := ⟨_, rfl⟩
           replace H : (bch_locator.l4 k2 y181) = some r := by first | (rw [hy181]; with_reducible exact H) | (have H2_ := (Option.bind_some _ _).symm.trans H; rw [hy181]; with_reducible exact H2_) | (have H2_ := (Option.bind_some _ _).symm.trans H; with_reducible exact H2_) | with_reducible exact H | (rw [hy181]; exact H) | exact H
           have Ny181 := Aside0.mk hy181
           clear hy181
           have H' := Aside0.mk H
           clear H
           obtain ⟨Ao53, co53, eo53⟩ := Kd.R_slice HO_3.out
           subst eo53
           have p180 : 0 ≤ ((ji48) : Int) := of_decide_eq_true (by first | (with_reducible assumption) | assumption)
           have q180 : (ji48) < (x3_2.length : Int) := of_decide_eq_true (by first | (with_reducible assumption) | assumption)
           obtain ⟨ad180, e180, hx180_0⟩ := Kd.at_int (Kd.R_reads' HO_3.out).2.2 (ji48) p180 q180
           cases e180
           replace p180 := eq_true p180
           replace q180 := eq_true q180
           have q54 : ((ji48) : Int) ≤ ((x3_2.length : Int) : Int) := of_decide_eq_true (by first | (with_reducible assumption) | assumption)
           obtain ⟨i054, hi054, _, hsz54, _⟩ := info_parts info3
           have hcut54 := cut_to (P := Try.prog) 48 3 .i64 Try.underlying48 hi054 (some ad180) x3_2.length co53 (ji48) (of_decide_eq_true (by first | (with_reducible assumption) | assumption)) q54 (Kd.R_reads' HO_3.out).2.1
           have hr54 := Kd.R_take (m := ((ji48) : Int).toNat) HO_3.out (by omega)
           have hy54 : y181.length = ((ji48) : Int).toNat := (by rw [Ny181.out, List.length_take]; omega)
           rw [← Ny181.out] at hr54
           rw [← hy54] at hr54 hcut54
           clear hy54 hi054 hsz54 HO_3
           have HO183 := Aside0.mk hr54
           clear hr54
           replace q54 := eq_true q54
           go_wp2
           go_roundg k2
           case measure => have := HK1.out; have := HK2.out; omega
           case rel => exact ⟨(y181), H', ⟨by have := HK1.out; have := HK2.out; omega⟩, ⟨uR HO183.out⟩, ⟨uB HB.out⟩⟩
          ·rw [if_neg c52] at H
           exact absurd H (by simp)
         ·rw [if_neg c51] at H
          have c51b0 : ((rd x3_2 (ji48)) == 0) = false := beq_eq_false_iff_ne.mpr c51
          have c51b1 : ((rd x3_2 (ji48)) != 0) = true := bne_iff_ne.mpr c51
          obtain rfl := Option.some.inj H
          obtain ⟨Ao55, co55, eo55⟩ := Kd.R_slice HO_3.out
          subst eo55
          have p180 : 0 ≤ ((ji48) : Int) := of_decide_eq_true (by first | (with_reducible assumption) | assumption)
          have q180 : (ji48) < (x3_2.length : Int) := of_decide_eq_true (by first | (with_reducible assumption) | assumption)
          obtain ⟨ad180, e180, hx180_0⟩ := Kd.at_int (Kd.R_reads' HO_3.out).2.2 (ji48) p180 q180
          cases e180
          replace p180 := eq_true p180
          replace q180 := eq_true q180
          go_wp2
          go_ret
          exact ⟨_, by first | rfl | (simp [errW_none, errW_some] <;> rfl) | (simp only [← hji48]; first | rfl | (simp [errW_none, errW_some] <;> rfl)) | (simp [*, errW_none, errW_some] <;> rfl), by (with_reducible repeat (first | apply Kd.R_alloc | apply Kd.R_drewN | apply Kd.R_drew)); exact HO_3.out, uB HB.out⟩
        ·rw [if_neg c50] at H
         exact absurd H (by simp)
       ·rw [if_neg c49] at H
        exact absurd H (by simp)
      ·rw [if_neg c47] at H
       have c47b0 : decide (0 < (x3_2.length : Int)) = false := decide_eq_false c47
       have c47b1 : decide (0 < x3_2.length) = false := decide_eq_false (by omega)
       clear c47
       obtain rfl := Option.some.inj H
       obtain ⟨Ao56, co56, eo56⟩ := Kd.R_slice HO_3.out
       subst eo56
       go_wp2
       go_ret
       exact ⟨_, by first | rfl | (simp [errW_none, errW_some] <;> rfl) | (simp [*, errW_none, errW_some] <;> rfl), by (with_reducible repeat (first | apply Kd.R_alloc | apply Kd.R_drewN | apply Kd.R_drew)); exact HO_3.out, uB HB.out⟩
def flip1 (l : List Int) (k : Int) : Option (List Int) := if 0 ≤ wrap64 (Int.tdiv k 8) then (if wrap64 (Int.tdiv k 8) < (l.length : Int) then (if 0 ≤ Int.tmod k 8 then some (l.set (wrap64 (Int.tdiv k 8)).toNat (Go.bits .xor .u8 (rd l (wrap64 (Int.tdiv k 8))) (shl .u8 1 (Int.tmod k 8)))) else none) else none) else none
def flipL (t : Int) (d m : List Int) (i : Int) : Option (List Int × List Int) := if wrap64 (i - wrap64 (13 * t)) ≥ 0 then ((flip1 d (wrap64 (i - wrap64 (13 * t)))).bind fun d' => some (d', m)) else ((flip1 m i).bind fun m' => some (d, m'))
theorem flip1_is {l l' : List Int} {k : Int} (h : flip1 l k = some l') : 0 ≤ wrap64 (Int.tdiv k 8) ∧ wrap64 (Int.tdiv k 8) < (l.length : Int) ∧ 0 ≤ Int.tmod k 8 ∧ l' = l.set (wrap64 (Int.tdiv k 8)).toNat (Go.bits .xor .u8 (rd l (wrap64 (Int.tdiv k 8))) (shl .u8 1 (Int.tmod k 8))) := by
 unfold flip1 at h
 by_cases h0 : 0 ≤ wrap64 (Int.tdiv k 8)
 ·rw [if_pos h0] at h
  by_cases h1 : wrap64 (Int.tdiv k 8) < (l.length : Int)
  ·rw [if_pos h1] at h
   by_cases h2 : 0 ≤ Int.tmod k 8
   ·rw [if_pos h2] at h
    exact ⟨h0, h1, h2, (Option.some.inj h).symm⟩
   ·rw [if_neg h2] at h; exact absurd h (by simp)
  ·rw [if_neg h1] at h; exact absurd h (by simp)
 ·rw [if_neg h0] at h; exact absurd h (by simp)
set_option maxHeartbeats 2000000 in
set_option maxRecDepth 100000 in
theorem flip_keeps (W : World) (base g : Nat) (t : Int) (d m : List Int) (gd cd gm cm : Nat) (i : Int) (d' m' : List Int) (hW : WSt W base g t d m gd cd gm cm) (h : flipL t d m i = some (d', m')) :
  Calls Try.prog 45 #[.pointer (some ⟨g, 0, none⟩), .int .i64 i] W fun e w' => e = .returned (.tuple #[]) ∧ WSt w' base g t d' m' gd cd gm cm ∧ Below base W w' ∧ (∀ k, k < W.heap.size → k ≠ gd → k ≠ gm → w'.heap[k]? = W.heap[k]?) := by
 unfold flipL at h
 have HW := Aside0.mk hW
 clear hW
 have hc0 : W.cell? ⟨g, 0, none⟩ = some (.int .i64 t) := (blk_cell HW.out.blk 0).trans rfl
 by_cases c0 : wrap64 (i - wrap64 (13 * t)) ≥ 0
 ·rw [if_pos c0] at h
  obtain ⟨q, hq, h⟩ := Option.bind_eq_some_iff.1 h
  obtain ⟨h0, h1, h2, rfl⟩ := flip1_is hq
  simp only [Option.some.injEq, Prod.mk.injEq] at h
  obtain ⟨rfl, rfl⟩ := h
  have c0b : decide (0 ≤ wrap64 (i - wrap64 (13 * t))) = true := decide_eq_true c0
  have hc1 : W.cell? ⟨g, 1, none⟩ = some (.slice (some ⟨gd, 0, none⟩) d.length cd) := (blk_cell HW.out.blk 1).trans rfl
  clear hq c0
  obtain ⟨kk, hkk⟩ : ∃ kk, wrap64 (i - wrap64 (13 * t)) = kk := ⟨_, rfl⟩
  simp only [hkk] at h0 h1 h2 c0b
  simp only [hkk]
  obtain ⟨ji, hji⟩ : ∃ ji, wrap64 (Int.tdiv kk 8) = ji := ⟨_, rfl⟩
  have hjiw : IntKind.i64.wrap (Int.tdiv kk 8) = ji := (i64_w _).trans hji
  simp only [hji] at h0 h1
  simp only [hji]
  obtain ⟨hx, hf⟩ := HW.out.atd ji h0 h1
  have H2 := Aside0.mk h2
  obtain ⟨v, hv⟩ : ∃ v, rd d ji = v := ⟨_, rfl⟩
  rw [hv] at hx
  rw [hv]
  clear hv
  go_enter Try.func45, Try.ntmps45
  go_wp2_with fail
  go_region
  go_wp2
  go_end0
  refine ⟨rfl, ?_, ?_, ?_⟩
  ·rw [shl1_u8]
   exact (HW.out.setd ji _).move (fun _ _ => rfl)
  ·exact below_drew1 ((Below.refl _ W).setCell (p := ⟨gd, ji.toNat, none⟩) HW.out.ged _)
  ·exact fun k _ h1 _ => Below.heap_setCell W ⟨gd, ji.toNat, none⟩ _ k h1
 ·rw [if_neg c0] at h
  obtain ⟨q, hq, h⟩ := Option.bind_eq_some_iff.1 h
  obtain ⟨h0, h1, h2, rfl⟩ := flip1_is hq
  simp only [Option.some.injEq, Prod.mk.injEq] at h
  obtain ⟨rfl, rfl⟩ := h
  have c0b : decide (0 ≤ wrap64 (i - wrap64 (13 * t))) = false := decide_eq_false c0
  have hc1 : W.cell? ⟨g, 2, none⟩ = some (.slice (some ⟨gm, 0, none⟩) m.length cm) := (blk_cell HW.out.blk 2).trans rfl
  clear hq c0
  obtain ⟨ji, hji⟩ : ∃ ji, wrap64 (Int.tdiv i 8) = ji := ⟨_, rfl⟩
  have hjiw : IntKind.i64.wrap (Int.tdiv i 8) = ji := (i64_w _).trans hji
  simp only [hji] at h0 h1
  simp only [hji]
  obtain ⟨hx, hf⟩ := HW.out.atm ji h0 h1
  have H2 := Aside0.mk h2
  obtain ⟨v, hv⟩ : ∃ v, rd m ji = v := ⟨_, rfl⟩
  rw [hv] at hx
  rw [hv]
  clear hv
  go_enter Try.func45, Try.ntmps45
  go_wp2_with fail
  go_region
  go_wp2
  go_end0
  refine ⟨rfl, ?_, ?_, ?_⟩
  ·rw [shl1_u8]
   exact (HW.out.setm ji _).move (fun _ _ => rfl)
  ·exact below_drew1 ((Below.refl _ W).setCell (p := ⟨gm, ji.toNat, none⟩) HW.out.gem _)
  ·exact fun k _ _ h1 => Below.heap_setCell W ⟨gm, ji.toNat, none⟩ _ k h1
def bch_nought.l0 : Nat → List Int → List Int → Int → Int → Option (List Int)
 | 0, _, _, _, _ => none
 | k + 1, x3, x9, x10, x11 => if x11 < x10 then (if 0 ≤ x11 then (if x11 < (x9.length : Int) then (if (rd x9 x11) = 0 then (bch_nought.l0 k x3 x9 x10 (wrap64 (x11 + 1))) else (if x11 < (x3.length : Int) then (bch_nought.l0 k (x3.set (x11 : Int).toNat 1) x9 x10 (wrap64 (x11 + 1))) else (none))) else (none)) else (none)) else (some x3)
def bch_nought.f (k : Nat) (l0 : List Int) : Option (List Int) := if 0 ≤ (l0.length : Int) then (if ((l0.length : Int) : Int).toNat ≤ 281474976710656 then (bch_nought.l0 k (List.replicate ((l0.length : Int) : Int).toNat 0) l0 (l0.length : Int) 0) else (none)) else (none)
theorem bch_nought.mono_l : ∀ k, (∀ y0 y1 y2 y3, LeO (bch_nought.l0 k y0 y1 y2 y3) (bch_nought.l0 (k + 1) y0 y1 y2 y3))
 | 0 => fun _ _ _ _ r h => by simp [bch_nought.l0] at h
 | k + 1 => by
  have ih0 := bch_nought.mono_l k
  ·intro y0 y1 y2 y3
   unfold bch_nought.l0
   repeat' first
   | (with_reducible exact ih0 _ _ _ _)
   | (with_reducible exact LeO.refl _)
   | (with_reducible exact LeO.none _)
   | (with_reducible refine LeO.ite ?_ ?_)
   | (with_reducible refine LeO.bind ?_ (fun _ => ?_))
   | exact ih0 _ _ _ _
   | exact LeO.none _
   | refine LeO.ite ?_ ?_
   | refine LeO.bind ?_ (fun _ => ?_)
theorem bch_nought.mono : ∀ a0 k, LeO (bch_nought.f k a0) (bch_nought.f (k + 1) a0) := by
 intro a0 k
 have ih0 := bch_nought.mono_l k
 unfold bch_nought.f
 repeat' first
   | (with_reducible exact ih0 _ _ _ _)
   | (with_reducible exact LeO.refl _)
   | (with_reducible exact LeO.none _)
   | (with_reducible refine LeO.ite ?_ ?_)
   | (with_reducible refine LeO.bind ?_ (fun _ => ?_))
   | exact ih0 _ _ _ _
   | exact LeO.none _
   | refine LeO.ite ?_ ?_
   | refine LeO.bind ?_ (fun _ => ?_)
set_option maxHeartbeats 8000000 in
set_option maxRecDepth 100000 in
theorem bch_nought.calls (k : Nat) (A0 : Option Addr) (c0 : Nat) (l0 : List Int) (r : List Int) (w : World) (hr0 : Kd.C (Kd.int .i64) w A0 l0.length l0) (hc0 : l0.length ≤ c0) (h : bch_nought.f k l0 = some r) :
  Calls Try.prog 46 #[.slice A0 l0.length c0] w fun e w' => ∃ v0_ : Value, e = .returned (v0_) ∧ Kd.R (Kd.int .u8) 5 w' w.heap.size (fun _ => True) v0_ r ∧ Below w.heap.size w w' := by
 have HR0 := Aside0.mk hr0
 have HC0 := Aside0.mk hc0
 clear hr0 hc0
 have HB := Aside0.mk (Below.refl w.heap.size w)
 have H : (if 0 ≤ (l0.length : Int) then (if ((l0.length : Int) : Int).toNat ≤ 281474976710656 then (bch_nought.l0 k (List.replicate ((l0.length : Int) : Int).toNat 0) l0 (l0.length : Int) 0) else (none)) else (none)) = some r := h
 clear h
 by_cases c2 : 0 ≤ (l0.length : Int)
 ·rw [if_pos c2] at H
  have c2b0 := eq_true c2
  have c2b1 : decide (0 ≤ (l0.length : Int)) = true := decide_eq_true c2
  clear c2
  by_cases c3 : ((l0.length : Int) : Int).toNat ≤ 281474976710656
  ·rw [if_pos c3] at H
   have c3b0 := eq_true c3
   have c3b1 : decide (((l0.length : Int) : Int).toNat ≤ 281474976710656) = true := decide_eq_true c3
   clear c3
   obtain ⟨y184, hy184⟩ : ∃ y_ : List Int, y_ = (List.replicate ((l0.length : Int) : Int).toNat 0) := ⟨_, rfl⟩
   replace H : (bch_nought.l0 k y184 l0 (l0.length : Int) 0) = some r := by first | (rw [hy184]; with_reducible exact H) | (have H2_ := (Option.bind_some _ _).symm.trans H; rw [hy184]; with_reducible exact H2_) | (have H2_ := (Option.bind_some _ _).symm.trans H; with_reducible exact H2_) | with_reducible exact H | (rw [hy184]; exact H) | exact H
   have Ny184 := Aside0.mk hy184
   clear hy184
   have H' := Aside0.mk H
   clear H
   go_enter Try.func46, Try.ntmps46
   go_wp2_with (first | ((with_reducible refine gate_dst (N := 8) rfl ?_); refine Kd.R_make (Kd.int .u8) _ 5 rfl (N := 8) rfl 26 _ _ rfl (l0.length : Int) rfl rfl Try.underlying26 (.int .u8 0) 1 info5 rfl (by decide) (by omega) 0 (ok := fun _ => True) (okp := fun _ => True) rfl (fun _ hk => hk) trivial (of_decide_eq_true (by first | (with_reducible assumption) | assumption)) (Nat.le_trans (Nat.mul_le_mul_right _ (of_decide_eq_true (by first | (with_reducible assumption) | assumption) : (l0.length : Int).toNat ≤ 281474976710656)) (by omega)) (Below.refl _ _) (Nat.le_refl _) ?_; intro v185 w4 ho5 hb hg_ hnew_; clear hg_ hnew_; (first | rw [← Ny184.out] at ho5 | (simp only [Int.reduceToNat] at ho5; rw [← Ny184.out] at ho5)); have n0_ := Aside0.mk (Kd.R_lower ho5 (below_size (uB HB.out))); have n1_ := Aside0.mk (below_step (uB HB.out) hb); clear HB; have HO186 := n0_; have HB := n1_; clear n0_ n1_; clear hb ho5))
   go_loopg [11] k (fun kq v11 w' => ∃ (x3_1 : List Int) (x11_1 : Int), v11 = .int .i64 x11_1 ∧ Aside0 (bch_nought.l0 kq x3_1 l0 (l0.length : Int) x11_1 = some r) ∧ Aside0 (kq ≤ k) ∧ Aside0 (Kd.R (Kd.int .u8) 5 w' w.heap.size (fun _ => True) v185 x3_1) ∧ Aside0 (Below w.heap.size w w'))
   case atStart => exact ⟨(y184), (0), (by first | rfl | (simp; done) | (simp [*]; done)), H', ⟨Nat.le_refl _⟩, ⟨uR HO186.out⟩, ⟨uB HB.out⟩⟩
   case round =>
    clear H'
    try clear c2
    try clear c2b0
    try clear c2b1
    try clear p2
    try clear c3
    try clear c3b0
    try clear c3b1
    try clear c4
    obtain ⟨x3_1, x11_1, rfl, HA, HK1, HO_3, HB⟩ := hrel
    cases gk with
    | zero => exact absurd HA.out (by simp [bch_nought.l0])
    | succ k1 =>
     have H := HA.out
     clear HA
     simp only [bch_nought.l0] at H
     by_cases c6 : x11_1 < (l0.length : Int)
     ·rw [if_pos c6] at H
      have c6b0 : decide (x11_1 < (l0.length : Int)) = true := decide_eq_true c6
      clear c6
      by_cases c7 : 0 ≤ x11_1
      ·rw [if_pos c7] at H
       have c7b0 : decide (0 ≤ x11_1) = true := decide_eq_true c7
       clear c7
       by_cases c8 : x11_1 < (l0.length : Int)
       ·rw [if_pos c8] at H
        have c8b0 : decide (x11_1 < (l0.length : Int)) = true := decide_eq_true c8
        clear c8
        by_cases c9 : (rd l0 x11_1) = 0
        ·rw [if_pos c9] at H
         have c9b0 : ((rd l0 x11_1) == 0) = true := beq_iff_eq.mpr c9
         have c9b1 : ((rd l0 x11_1) != 0) = false := bne_eq_false_iff_eq.mpr c9
         clear c9
         have H' := Aside0.mk H
         clear H
         have p187 : 0 ≤ (x11_1 : Int) := of_decide_eq_true (by first | (with_reducible assumption) | assumption)
         have q187 : x11_1 < (l0.length : Int) := of_decide_eq_true (by first | (with_reducible assumption) | assumption)
         obtain ⟨ad187, e187, hx187_0⟩ := Kd.at_int HR0.out x11_1 p187 q187
         cases e187
         replace hx187_0 := (HB.out.cell (World.block_lt_of_cell? w _ hx187_0)).trans hx187_0
         replace p187 := eq_true p187
         replace q187 := eq_true q187
         go_wp2
         go_roundg k1
         case measure => have := HK1.out; omega
         case rel => exact ⟨(x3_1), (wrap64 (x11_1 + 1)), (by first | rfl | (simp; done) | (simp [*]; done)), H', ⟨by have := HK1.out; omega⟩, ⟨uR HO_3.out⟩, ⟨uB HB.out⟩⟩
        ·rw [if_neg c9] at H
         have c9b0 : ((rd l0 x11_1) == 0) = false := beq_eq_false_iff_ne.mpr c9
         have c9b1 : ((rd l0 x11_1) != 0) = true := bne_iff_ne.mpr c9
         by_cases c10 : x11_1 < (x3_1.length : Int)
         ·rw [if_pos c10] at H
          have c10b0 : decide (x11_1 < (x3_1.length : Int)) = true := decide_eq_true c10
          clear c10
          obtain ⟨y188, hy188⟩ : ∃ y_ : List Int, y_ = (x3_1.set (x11_1 : Int).toNat 1) := ⟨_, rfl⟩
          replace H : (bch_nought.l0 k1 y188 l0 (l0.length : Int) (wrap64 (x11_1 + 1))) = some r := by first | (rw [hy188]; with_reducible exact H) | (have H2_ := (Option.bind_some _ _).symm.trans H; rw [hy188]; with_reducible exact H2_) | (have H2_ := (Option.bind_some _ _).symm.trans H; with_reducible exact H2_) | with_reducible exact H | (rw [hy188]; exact H) | exact H
          have Ny188 := Aside0.mk hy188
          clear hy188
          have H' := Aside0.mk H
          clear H
          have p187 : 0 ≤ (x11_1 : Int) := of_decide_eq_true (by first | (with_reducible assumption) | assumption)
          have q187 : x11_1 < (l0.length : Int) := of_decide_eq_true (by first | (with_reducible assumption) | assumption)
          obtain ⟨ad187, e187, hx187_0⟩ := Kd.at_int HR0.out x11_1 p187 q187
          cases e187
          replace hx187_0 := (HB.out.cell (World.block_lt_of_cell? w _ hx187_0)).trans hx187_0
          replace p187 := eq_true p187
          replace q187 := eq_true q187
          have p11 : 0 ≤ (x11_1 : Int) := of_decide_eq_true (by first | (with_reducible assumption) | assumption)
          have q11 : (x11_1 : Int) < ((x3_1.length : Int) : Int) := of_decide_eq_true (by first | (with_reducible assumption) | assumption)
          obtain ⟨go11, co11, eo11, gb11, gl11, cl11, HG11⟩ := Kd.R_form HO_3.out (by omega)
          (first | cases eo11 | (injection eo11 with ea_ en_ ec_; (first | subst ea_ | (injection ea_ with ea_; subst ea_)); subst ec_; clear en_))
          have GB11 := Aside0.mk gb11
          have GG11 := Aside0.mk HG11
          clear gb11 gl11 HG11
          obtain ⟨hx11_0, hf11_0⟩ := Kd.R_celln 0 HO_3.out (x11_1 : Int) p11 q11
          replace p11 := eq_true p11
          replace q11 := eq_true q11
          have HP12 := Kd.R_putg HO_3.out (x11_1 : Int) 1
          go_wp2_with (first | ((with_reducible refine gate_store (t := 5) (p := 20) rfl ?_); refine store_event (t := 5) (p := 20) (v := ?vo_w13) (w1 := (wr.setCell ⟨go11, (x11_1 : Int).toNat, none⟩ (.int .u8 1))) ?hg ?ho ?hn ?hr ?_; (case ho => rfl); (case hg => rfl); (case hn => rfl); (case hr => first | (go_simp; done) | (go_simp; rfl)); intro w13 hw; have hg : wr.grownBy w13 (some go11) := (by rw [hw]; exact HP12.2); have hp_ : Kd.R (Kd.int .u8) 5 w13 w.heap.size (fun _ => True) (.slice (some ⟨go11, 0, none⟩) x3_1.length co11) y188 := (by rw [hw, Ny188.out]; exact HP12.1); clear HP12; have n0_ := Aside0.mk (hp_); have n1_ := Aside0.mk ((by rw [hw]; exact below_set (HB.out) GB11.out : Below w.heap.size w w13)); clear HO_3; clear HB; have HO_3 := n0_; have HB := n1_; clear n0_ n1_; clear hg hw hp_))
          go_roundg k1
          case measure => have := HK1.out; omega
          case rel => exact ⟨(y188), (wrap64 (x11_1 + 1)), (by first | rfl | (simp; done) | (simp [*]; done)), H', ⟨by have := HK1.out; omega⟩, ⟨uR HO_3.out⟩, ⟨uB HB.out⟩⟩
         ·rw [if_neg c10] at H
          exact absurd H (by simp)
       ·rw [if_neg c8] at H
        exact absurd H (by simp)
      ·rw [if_neg c7] at H
       exact absurd H (by simp)
     ·rw [if_neg c6] at H
      have c6b0 : decide (x11_1 < (l0.length : Int)) = false := decide_eq_false c6
      clear c6
      obtain rfl := Option.some.inj H
      go_wp2
      go_ret
      exact ⟨_, by first | rfl | (simp [errW_none, errW_some] <;> rfl) | (simp [*, errW_none, errW_some] <;> rfl), by (with_reducible repeat (first | apply Kd.R_alloc | apply Kd.R_drewN | apply Kd.R_drew)); exact HO_3.out, uB HB.out⟩
  ·rw [if_neg c3] at H
   exact absurd H (by simp)
 ·rw [if_neg c2] at H
  exact absurd H (by simp)
def dec1 : Nat → List Int → Int → Int → Int → Option Int
 | 0, _, _, _, _ => none
 | k + 1, c, x, v, j => if j ≥ 0 then (if j < (c.length : Int) then ((bch_mul.f k v x).bind fun t => dec1 k c x (Go.bits .xor .i64 t (rd c j)) (wrap64 (j - 1))) else none) else some v
def dec0 : Nat → List Int → Int → Int → List Int → List Int → Int → Int → Option (List Int × List Int × Int)
 | 0, _, _, _, _, _, _, _ => none
 | k + 1, c, len, t, d, m, n, i => if i < len then ((gf_Exp.f k (wrap64 (-i))).bind fun x => (dec1 k c x 0 (wrap64 ((c.length : Int) - 1))).bind fun v => if v = 0 then ((flipL t d m i).bind fun q => dec0 k c len t q.1 q.2 (wrap64 (n + 1)) (wrap64 (i + 1))) else dec0 k c len t d m n (wrap64 (i + 1))) else some (d, m, n)
theorem dec1_mono : ∀ k c x v j, LeO (dec1 k c x v j) (dec1 (k + 1) c x v j)
 | 0, _, _, _, _ => LeO.none _
 | k + 1, c, x, v, j => by
  unfold dec1
  exact LeO.ite (LeO.ite (LeO.bind (bch_mul.mono _ _ _) (fun t => dec1_mono k _ _ _ _)) (LeO.refl _)) (LeO.refl _)
theorem dec0_mono : ∀ k c len t d m n i, LeO (dec0 k c len t d m n i) (dec0 (k + 1) c len t d m n i)
 | 0, _, _, _, _, _, _, _ => LeO.none _
 | k + 1, c, len, t, d, m, n, i => by
  unfold dec0
  exact LeO.ite (LeO.bind (gf_Exp.mono _ _) (fun x => LeO.bind (dec1_mono k _ _ _ _) (fun v => LeO.ite (LeO.bind (LeO.refl _) (fun q => dec0_mono k _ _ _ _ _ _ _)) (dec0_mono k _ _ _ _ _ _ _)))) (LeO.refl _)
/-- What Decode comes to behind newWord. -/
def decF (k : Nat) (t : Int) (d m' : List Int) : Option (List Int × List Int × Int × Int) := (bch_word_sums.f k t d m').bind fun p => if p.2 = t then ((bch_locator.f k p.1).bind fun c => if wrap64 ((c.length : Int) - 1) > t then some ([], [], 0, 50) else ((bch_word_len.f t d m').bind fun q => if q.2 = t then ((dec0 k c q.1 t d m' 0 0).bind fun z => if z.2.2 = wrap64 ((c.length : Int) - 1) then ((bch_word_sums.f k t z.1 z.2.1).bind fun p2 => if p2.2 = t then ((bch_nought.f k p2.1).bind fun b => (bits_Ones.f k b).bind fun o => if o > 0 then some ([], [], 0, 50) else some (z.1, z.2.1, z.2.2, 0)) else none) else some ([], [], 0, 50)) else none)) else none
def bch_Decode.f (k : Nat) (t : Int) (d m : List Int) : Option (List Int × List Int × Int × Int) := (newW k t d m).bind fun o => match o with | none => some ([], [], 0, 1) | some m' => decF k t d m'
theorem decF_mono : ∀ k t d m, LeO (decF k t d m) (decF (k + 1) t d m) := by
 intro k t d m
 unfold decF
 exact LeO.bind (bch_word_sums.mono _ _ _ _) (fun p => LeO.ite (LeO.bind (bch_locator.mono _ _) (fun c => LeO.ite (LeO.refl _) (LeO.bind (LeO.refl _) (fun q => LeO.ite (LeO.bind (dec0_mono _ _ _ _ _ _ _ _) (fun z => LeO.ite (LeO.bind (bch_word_sums.mono _ _ _ _) (fun p2 => LeO.ite (LeO.bind (bch_nought.mono _ _) (fun b => LeO.bind (bits_Ones.mono _ _) (fun o => LeO.refl _))) (LeO.refl _))) (LeO.refl _))) (LeO.refl _))))) (LeO.refl _))
theorem bch_Decode.mono : ∀ t d m k, LeO (bch_Decode.f k t d m) (bch_Decode.f (k + 1) t d m) := by
 intro t d m k
 unfold bch_Decode.f
 refine LeO.bind (newW_mono _ _ _ _) (fun o => ?_)
 cases o with
 | none => exact LeO.refl _
 | some m' => exact decF_mono _ _ _ _
theorem loc_calls {k : Nat} {s c : List Int} (h : bch_locator.f k s = some c) (A : Option Addr) (cc : Nat) (W : World) (hr : Kd.C (Kd.int .i64) W A s.length s) (hc : s.length ≤ cc) :
  Calls Try.prog 40 #[.slice A s.length cc] W fun e w' => ∃ A' c', e = .returned (.slice A' c.length c') ∧ c.length ≤ c' ∧ Kd.C (Kd.int .i64) w' A' c.length c ∧ Kd.R (Kd.int .i64) 3 w' W.heap.size (fun _ => True) (.slice A' c.length c') c ∧ Below W.heap.size W w' := by
 refine (bch_locator.calls k A cc s c W hr hc h).mono ?_
 rintro e w' ⟨v, rfl, hR, hB⟩
 obtain ⟨A', c', rfl, hc', hC⟩ := Kd.R_reads hR
 exact ⟨A', c', rfl, hc', hC, hR, hB⟩
/-- A row of the call's own, and a word: both, and what lies below, through whatever runs. -/
structure DSt (w0 W : World) (A : Option Addr) (cc : Nat) (c : List Int) (g : Nat) (t : Int) (d m : List Int) (gd cd gm cm : Nat) : Prop where
 ws : WSt W w0.heap.size g t d m gd cd gm cm
 row : Kd.R (Kd.int .i64) 3 W w0.heap.size (fun k => k ≠ g ∧ k ≠ gd ∧ k ≠ gm) (.slice A c.length cc) c
 below : Below w0.heap.size w0 W
 ge : w0.heap.size ≤ g
theorem DSt.move {w0 W W1 : World} {A : Option Addr} {cc : Nat} {c : List Int} {g : Nat} {t : Int} {d m : List Int} {gd cd gm cm : Nat} (h : DSt w0 W A cc c g t d m gd cd gm cm) (hb : Below W.heap.size W W1) : DSt w0 W1 A cc c g t d m gd cd gm cm :=
 ⟨h.ws.below hb, Kd.R_below h.row hb, below_step h.below hb, h.ge⟩
theorem DSt.len_c {w0 W : World} {A : Option Addr} {cc : Nat} {c : List Int} {g : Nat} {t : Int} {d m : List Int} {gd cd gm cm : Nat} (h : DSt w0 W A cc c g t d m gd cd gm cm) : c.length ≤ 9223372036854775807 ∧ c.length ≤ cc := ⟨(Kd.R_reads' h.row).2.2.2.1, (Kd.R_reads' h.row).2.1⟩
theorem dflip_calls {w0 W : World} {A : Option Addr} {cc : Nat} {c : List Int} {g : Nat} {t : Int} {d m : List Int} {gd cd gm cm : Nat} (h : DSt w0 W A cc c g t d m gd cd gm cm) {i : Int} {q : List Int × List Int} (hf : flipL t d m i = some q) :
  Calls Try.prog 45 #[.pointer (some ⟨g, 0, none⟩), .int .i64 i] W fun e w' => e = .returned (.tuple #[]) ∧ DSt w0 w' A cc c g t q.1 q.2 gd cd gm cm := by
 obtain ⟨d', m'⟩ := q
 refine (flip_keeps W w0.heap.size g t d m gd cd gm cm i d' m' h.ws hf).mono ?_
 rintro e w' ⟨rfl, hst, hb, hk⟩
 exact ⟨rfl, hst, Kd.R_step h.row (fun k ho hlt => hk k hlt ho.2.1 ho.2.2), h.below.trans hb, h.ge⟩
theorem nou_calls {k : Nat} {s c : List Int} (h : bch_nought.f k s = some c) (A : Option Addr) (cc : Nat) (W : World) (hr : Kd.C (Kd.int .i64) W A s.length s) (hc : s.length ≤ cc) :
  Calls Try.prog 46 #[.slice A s.length cc] W fun e w' => ∃ A' c', e = .returned (.slice A' c.length c') ∧ c.length ≤ c' ∧ Kd.C (Kd.int .u8) w' A' c.length c ∧ Below W.heap.size W w' := by
 refine (bch_nought.calls k A cc s c W hr hc h).mono ?_
 rintro e w' ⟨v, rfl, hR, hB⟩
 obtain ⟨A', c', rfl, hc', hC⟩ := Kd.R_reads hR
 exact ⟨A', c', rfl, hc', hC, hB⟩
theorem results_tmp4 {fn : Func} {t u v x : Tmp} (h : fn.results = #[.tmp t, .tmp u, .tmp v, .tmp x]) (tmps : Array Value) (P : Program) (w : World) :
  (results fn tmps).run P w = .ok (.tuple #[tmps.getD t undef, tmps.getD u undef, tmps.getD v undef, tmps.getD x undef]) w := by
 simp [results, h]
theorem dst_start {w0 W W1 : World} {A : Option Addr} {cc : Nat} {c : List Int} {g : Nat} {t : Int} {d m : List Int} {gd cd gm cm : Nat} (h : WSt W w0.heap.size g t d m gd cd gm cm) (hR : Kd.R (Kd.int .i64) 3 W1 W.heap.size (fun _ => True) (.slice A c.length cc) c) (hb : Below w0.heap.size w0 W) (hb1 : Below W.heap.size W W1) (hg : w0.heap.size ≤ g) : DSt w0 W1 A cc c g t d m gd cd gm cm :=
 have hlt := blk_lt h.blk
 have h1 := h.ltd
 have h2 := h.ltm
 ⟨h.below hb1, Kd.R_lower (Kd.R_mono (Kd.R_bound hR) (fun k hk => ⟨by have := hk.2.1; omega, by have := hk.2.1; omega, by have := hk.2.1; omega⟩)) hb.size, below_step hb hb1, hg⟩
theorem dlen_calls {w0 W : World} {A : Option Addr} {cc : Nat} {c : List Int} {g : Nat} {t : Int} {d m : List Int} {gd cd gm cm : Nat} (h : DSt w0 W A cc c g t d m gd cd gm cm) {s t1 : Int} (hl : bch_word_len.f t d m = some (s, t1)) :
  Calls Try.prog 42 #[.pointer (some ⟨g, 0, none⟩)] W fun e w' => e = .returned (.int .i64 s) ∧ DSt w0 w' A cc c g t1 d m gd cd gm cm := by
 have hlt := blk_lt h.ws.blk
 refine (bch_word_len.callsT (some ⟨gd, 0, none⟩) cd (some ⟨gm, 0, none⟩) cm g t d m s t1 (cutW W g) W h.ws.is (cutW_below (Nat.le_of_lt hlt)) hl).mono ?_
 rintro e w' ⟨rfl, hI, hB, hK⟩
 exact ⟨rfl, h.ws.back hI hK, Kd.R_step h.row (fun k ho hlt => hK.2 k hlt ho.1 (by simp)), h.below.trans ⟨hB.os, hB.tape, hB.output, hK.1, fun i hi => hK.2 i (by have := h.below.size; omega) (by have := h.ge; omega) (by simp)⟩, h.ge⟩
theorem dsums_calls {w0 W : World} {A : Option Addr} {cc : Nat} {c : List Int} {g : Nat} {t : Int} {d m : List Int} {gd cd gm cm : Nat} (h : DSt w0 W A cc c g t d m gd cd gm cm) {k : Nat} {s : List Int} {t1 : Int} (hl : bch_word_sums.f k t d m = some (s, t1)) :
  Calls Try.prog 41 #[.pointer (some ⟨g, 0, none⟩)] W fun e w' => ∃ A' c', e = .returned (.slice A' s.length c') ∧ s.length ≤ c' ∧ Kd.C (Kd.int .i64) w' A' s.length s ∧ DSt w0 w' A cc c g t1 d m gd cd gm cm := by
 have hlt := blk_lt h.ws.blk
 refine (bch_word_sums.callsT (some ⟨gd, 0, none⟩) cd (some ⟨gm, 0, none⟩) cm k g t d m s t1 (cutW W g) W h.ws.is (cutW_below (Nat.le_of_lt hlt)) hl).mono ?_
 rintro e w' ⟨v, rfl, hR, hI, hB, hK⟩
 obtain ⟨A', c', rfl, hc', hC⟩ := Kd.R_reads hR
 exact ⟨A', c', rfl, hc', hC, h.ws.back hI hK, Kd.R_step h.row (fun k ho hlt => hK.2 k hlt ho.1 (by simp)), h.below.trans ⟨hB.os, hB.tape, hB.output, hK.1, fun i hi => hK.2 i (by have := h.below.size; omega) (by have := h.ge; omega) (by simp)⟩, h.ge⟩
set_option maxHeartbeats 4000000 in
set_option maxRecDepth 100000 in
theorem bch_Decode.calls (k : Nat) (a0 : Int) (A1 : Option Addr) (c1 : Nat) (l1 : List Int) (A2 : Option Addr) (c2 : Nat) (l2 : List Int) (r1 r2 : List Int) (r3 r4 : Int) (w : World) (hr1 : Kd.C (Kd.int .u8) w A1 l1.length l1) (hc1 : l1.length ≤ c1) (hr2 : Kd.C (Kd.int .u8) w A2 l2.length l2) (hc2 : l2.length ≤ c2) (h : bch_Decode.f k a0 l1 l2 = some (r1, r2, r3, r4)) :
  Calls Try.prog 28 #[.int .i64 a0, .slice A1 l1.length c1, .slice A2 l2.length c2] w fun e w' => ∃ v0_ v1_ : Value, e = .returned (.tuple #[v0_, v1_, .int .i64 r3, .int .i64 r4]) ∧ Kd.R (Kd.int .u8) 5 w' w.heap.size (fun k_ => some k_ ≠ (v1_ : Value).ownBlock) v0_ r1 ∧ Kd.R (Kd.int .u8) 5 w' w.heap.size (fun k_ => some k_ ≠ (v0_ : Value).ownBlock) v1_ r2 ∧ Below w.heap.size w w' := by
 unfold bch_Decode.f at h
 have HR1 := Aside0.mk hr1
 have HR2 := Aside0.mk hr2
 clear hr1 hr2
 obtain ⟨o, hw, h⟩ := Option.bind_eq_some_iff.1 h
 have HW := Aside0.mk hw
 clear hw
 cases o with
 | none =>
  simp only [Option.some.injEq, Prod.mk.injEq] at h
  obtain ⟨rfl, rfl, rfl, rfl⟩ := h
  go_enter Try.func28, Try.ntmps28
  go_wp2_with (first | (go_at_call 39; refine (newW_call_no HW.out A1 c1 A2 c2 _ HR1.out hc1).mono ?_; rintro e' w1 ⟨rfl, hb⟩; have HB := Aside0.mk hb; clear hb))
  refine bodyPost_ret (results_tmp4 rfl _ _ _) rfl ?_
  exact ⟨_, _, rfl, Kd.R_nil _ _ _ _ _, Kd.R_nil _ _ _ _ _, HB.out⟩
 | some m' =>
  simp only [decF] at h
  obtain ⟨⟨s, t1⟩, hs, h⟩ := Option.bind_eq_some_iff.1 h
  by_cases ht1 : t1 = a0
  ·rw [if_pos ht1] at h
   subst ht1
   obtain ⟨c, hcl, h⟩ := Option.bind_eq_some_iff.1 h
   have HS := Aside0.mk hs
   have HC := Aside0.mk hcl
   clear hs hcl
   obtain ⟨lc, hlc⟩ : ∃ lc, wrap64 ((c.length : Int) - 1) = lc := ⟨_, rfl⟩
   rw [hlc] at h
   have hlcw : IntKind.i64.wrap ((c.length : Int) - 1) = lc := (i64_w _).trans hlc
   by_cases hgt : lc > t1
   ·rw [if_pos hgt] at h
    simp only [Option.some.injEq, Prod.mk.injEq] at h
    obtain ⟨rfl, rfl, rfl, rfl⟩ := h
    have hgtb : decide (t1 < lc) = true := decide_eq_true hgt
    clear hgt
    go_enter Try.func28, Try.ntmps28
    go_wp2_with (first | (go_at_call 39; refine (newW_call_yes HW.out A1 c1 A2 c2 _ HR1.out hc1 HR2.out hc2).mono ?_; rintro e' w1 ⟨g, gd, cd, gm, cm, rfl, hst, hg, hb⟩; have HST := Aside0.mk hst; have HG := Aside0.mk hg; have HB := Aside0.mk hb; clear hst hg hb) | (go_at_call 41; refine (sums_calls HS.out _ _ g gd cd gm cm HST.out HG.out).mono ?_; rintro e' w2 ⟨A, cs, rfl, hc, hC, hR, hst2, hb2⟩; have HB2 := Aside0.mk (HB.out.trans hb2); have HC3 := Aside0.mk hc; have HCC := Aside0.mk hC; clear hc hC hR hst2 hb2 HB) | (go_at_call 40; refine (loc_calls HC.out A cs _ HCC.out HC3.out).mono ?_; rintro e' w3 ⟨A', c', rfl, hc', hC', hR', hb3⟩; have HB3 := Aside0.mk (below_step HB2.out hb3); clear hc' hC' hR' hb3))
    refine bodyPost_ret (results_tmp4 rfl _ _ _) rfl ?_
    exact ⟨_, _, rfl, Kd.R_nil _ _ _ _ _, Kd.R_nil _ _ _ _ _, HB3.out⟩
   ·rw [if_neg hgt] at h
    have hgtb : decide (t1 < lc) = false := decide_eq_false hgt
    clear hgt
    obtain ⟨⟨len, t2⟩, hlen, h⟩ := Option.bind_eq_some_iff.1 h
    by_cases ht2 : t2 = t1
    ·rw [if_pos ht2] at h
     subst ht2
     obtain ⟨⟨d2, m2, n⟩, hz, h⟩ := Option.bind_eq_some_iff.1 h
     have HLEN := Aside0.mk hlen
     have HZ := Aside0.mk hz
     have H := Aside0.mk h
     clear hlen hz h
     go_enter Try.func28, Try.ntmps28
     go_wp2_with (first | (go_at_call 39; refine (newW_call_yes HW.out A1 c1 A2 c2 _ HR1.out hc1 HR2.out hc2).mono ?_; rintro e' w1 ⟨g, gd, cd, gm, cm, rfl, hst, hg, hb⟩; have HST := Aside0.mk hst; have HG := Aside0.mk hg; have HB := Aside0.mk hb; clear hst hg hb) | (go_at_call 41; refine (sums_calls HS.out _ _ g gd cd gm cm HST.out HG.out).mono ?_; rintro e' w2 ⟨A, cs, rfl, hc, hC, hR, hst2, hb2⟩; have HB2 := Aside0.mk (HB.out.trans hb2); have HC3 := Aside0.mk hc; have HCC := Aside0.mk hC; have HST2 := Aside0.mk hst2; clear hc hC hR hst2 hb2 HB HST) | (go_at_call 40; refine (loc_calls HC.out A cs _ HCC.out HC3.out).mono ?_; rintro e' w3 ⟨A', c', rfl, hc', hC', hR', hb3⟩; have HD := Aside0.mk (dst_start HST2.out hR' HB2.out hb3 HG.out); clear hc' hC' hR' hb3 HST2 HB2 HCC HC3) | (go_at_call 42; refine (dlen_calls HD.out HLEN.out).mono ?_; rintro e' w4 ⟨rfl, hd4⟩; have HD4 := Aside0.mk hd4; clear hd4 HD))
     go_loopg [13, 38] k (fun kq v13 v38 wr => ∃ (nq i : Int) (dq mq : List Int), v13 = .int .i64 nq ∧ v38 = .int .i64 i ∧ Aside0 (dec0 kq c len t2 dq mq nq i = some (d2, m2, n)) ∧ Aside0 (kq ≤ k) ∧ Aside0 (DSt w wr A' c' c g t2 dq mq gd cd gm cm))
     case atStart => exact ⟨0, 0, _, _, rfl, rfl, HZ, ⟨Nat.le_refl _⟩, HD4⟩
     case round =>
      clear HZ HD4
      obtain ⟨nq, i, dq, mq, rfl, rfl, HZ, HK, HD⟩ := hrel
      cases gk with
      | zero => exact absurd HZ.out (by simp [dec0])
      | succ k1 =>
       have hz := HZ.out
       rw [dec0] at hz
       clear HZ
       have hcm := HD.out.len_c.1
       by_cases hi : i < len
       ·rw [if_pos hi] at hz
        have hib : decide (i < len) = true := decide_eq_true hi
        clear hi
        obtain ⟨x, hx, hz⟩ := Option.bind_eq_some_iff.1 hz
        obtain ⟨vr, hv, hz⟩ := Option.bind_eq_some_iff.1 hz
        rw [hlc] at hv
        have HX := Aside0.mk hx
        have HV := Aside0.mk hv
        have HZ := Aside0.mk hz
        clear hx hv hz
        go_wp2_with (first | (go_at_call 43; (with_reducible refine (gf_Exp.calls k1 (wrap64 (-i)) x _ HX.out).mono ?_); rintro e' w' ⟨rfl, ⟨nd, rfl⟩⟩))
        go_loopg [16, 17] k1 (fun kq v16 v17 wi => ∃ (v j : Int), v16 = .int .i64 v ∧ v17 = .int .i64 j ∧ Aside0 (dec1 kq c x v j = some vr) ∧ Aside0 (kq ≤ k1) ∧ Aside0 (DSt w wi A' c' c g t2 dq mq gd cd gm cm))
        case atStart => exact ⟨0, lc, rfl, rfl, HV, ⟨Nat.le_refl _⟩, ⟨HD.out.move (pw_below_drewN (Below.refl _ _) _)⟩⟩
        case round =>
         clear HV HD
         obtain ⟨v, j, rfl, rfl, HV, HK2, HD⟩ := hrel
         cases gk with
         | zero => exact absurd HV.out (by simp [dec1])
         | succ k2 =>
          have hv := HV.out
          rw [dec1] at hv
          clear HV
          by_cases hj : j ≥ 0
          ·rw [if_pos hj] at hv
           have hjb : decide (0 ≤ j) = true := decide_eq_true hj
           by_cases hj2 : j < (c.length : Int)
           ·rw [if_pos hj2] at hv
            obtain ⟨q, hq, hv⟩ := Option.bind_eq_some_iff.1 hv
            have HQ := Aside0.mk hq
            have HV := Aside0.mk hv
            obtain ⟨ad, rfl, hcell⟩ := Kd.at_int (Kd.R_reads' HD.out.row).2.2 j hj hj2
            clear hq hv
            obtain ⟨cj, hcj⟩ : ∃ cj, rd c j = cj := ⟨_, rfl⟩
            rw [hcj] at hcell
            have HCJ := Aside0.mk hcj
            clear hcj
            go_wp2_with fail
            go_region_with (go_at_call 44; (with_reducible refine (bch_mul.calls k2 v x q _ HQ.out).mono ?_); rintro e' w' ⟨rfl, ⟨nd2, rfl⟩⟩)
            all_goals
             go_wp2
             go_roundg k2
             case measure => have := HK2.out; omega
             case rel =>
              rw [← HCJ.out]
              refine ⟨_, _, rfl, rfl, by first | exact HV | exact ⟨by have h9 := HV.out; rwa [show wrap64 (j - 1) = j - 1 from by unfold wrap64; omega] at h9⟩, ⟨by have := HK2.out; omega⟩, ⟨?_⟩⟩
              exact HD.out.move (pw_below_drewN (Below.refl _ _) _)
           ·rw [if_neg hj2] at hv; exact absurd hv (by simp)
          ·rw [if_neg hj] at hv
           have hjb : decide (0 ≤ j) = false := decide_eq_false hj
           obtain rfl := Option.some.inj hv
           clear hj hv
           have hz := HZ.out
           clear HZ
           by_cases hv0 : v = 0
           ·rw [if_pos hv0] at hz
            have hvb : (v == 0) = true := beq_iff_eq.2 hv0
            clear hv0
            obtain ⟨q, hq, hz⟩ := Option.bind_eq_some_iff.1 hz
            have HQ := Aside0.mk hq
            have HZ := Aside0.mk hz
            clear hq hz
            go_wp2_with (first | (go_at_call 45; refine (dflip_calls HD.out HQ.out).mono ?_; rintro e' w5 ⟨rfl, hd5⟩; have HD5 := Aside0.mk hd5; clear hd5 HD))
            go_roundg k1
            case measure => have := HK.out; have := HK2.out; omega
            case rel => exact ⟨_, _, _, _, rfl, rfl, HZ, ⟨by have := HK.out; omega⟩, HD5⟩
           ·rw [if_neg hv0] at hz
            have hvb : (v == 0) = false := beq_eq_false_iff_ne.2 hv0
            have HZ := Aside0.mk hz
            clear hv0 hz
            go_wp2
            go_roundg k1
            case measure => have := HK.out; have := HK2.out; omega
            case rel => exact ⟨_, _, _, _, rfl, rfl, HZ, ⟨by have := HK.out; omega⟩, HD⟩
       ·rw [if_neg hi] at hz
        have hib : decide (i < len) = false := decide_eq_false hi
        simp only [Option.some.injEq, Prod.mk.injEq] at hz
        obtain ⟨rfl, rfl, rfl⟩ := hz
        clear hi
        have h5 := H.out
        clear H
        by_cases hnl : nq = lc
        ·rw [if_pos hnl] at h5
         have hn1 : (nq == lc) = true := beq_iff_eq.2 hnl
         have hn2 : (nq != lc) = false := bne_eq_false_iff_eq.2 hnl
         clear hnl
         obtain ⟨⟨s2, t3⟩, hs2, h6⟩ := Option.bind_eq_some_iff.1 h5
         by_cases ht3 : t3 = t2
         ·rw [if_pos ht3] at h6
          obtain rfl : t3 = t2 := ht3
          obtain ⟨b, hb, h7⟩ := Option.bind_eq_some_iff.1 h6
          obtain ⟨o, ho, h8⟩ := Option.bind_eq_some_iff.1 h7
          have HS2 := Aside0.mk hs2
          have HBB := Aside0.mk hb
          have HO := Aside0.mk ho
          clear hs2 hb ho
          by_cases ho0 : o > 0
          ·rw [if_pos ho0] at h8
           have hob : decide (0 < o) = true := decide_eq_true ho0
           simp only [Option.some.injEq, Prod.mk.injEq] at h8
           obtain ⟨rfl, rfl, rfl, rfl⟩ := h8
           clear ho0
           go_wp2_with (first | (go_at_call 41; refine (dsums_calls HD.out HS2.out).mono ?_; rintro e' w6 ⟨A6, c6, rfl, hc6, hC6, hd6⟩; have HC6 := Aside0.mk hC6; have HL6 := Aside0.mk hc6; have HD6 := Aside0.mk hd6; clear hc6 hC6 hd6 HD) | (go_at_call 46; refine (nou_calls HBB.out A6 c6 _ HC6.out HL6.out).mono ?_; rintro e' w7 ⟨A7, c7, rfl, hc7, hC7, hb7⟩; have HC7 := Aside0.mk hC7; have HL7 := Aside0.mk hc7; have HD7 := Aside0.mk (HD6.out.move hb7); clear hc7 hC7 hb7 HD6) | (go_at_call 37; refine (bits_Ones.calls k A7 c7 b o _ HC7.out HL7.out HO.out).mono ?_; rintro e' w8 ⟨rfl, ⟨nd8, rfl⟩⟩))
           refine bodyPost_ret (results_tmp4 rfl _ _ _) rfl ?_
           exact ⟨_, _, rfl, Kd.R_nil _ _ _ _ _, Kd.R_nil _ _ _ _ _, pw_below_drewN HD7.out.below _⟩
          ·rw [if_neg ho0] at h8
           have hob : decide (0 < o) = false := decide_eq_false ho0
           simp only [Option.some.injEq, Prod.mk.injEq] at h8
           obtain ⟨rfl, rfl, rfl, rfl⟩ := h8
           clear ho0
           go_wp2_with (first | (go_at_call 41; refine (dsums_calls HD.out HS2.out).mono ?_; rintro e' w6 ⟨A6, c6, rfl, hc6, hC6, hd6⟩; have HC6 := Aside0.mk hC6; have HL6 := Aside0.mk hc6; have HD6 := Aside0.mk hd6; clear hc6 hC6 hd6 HD) | (go_at_call 46; refine (nou_calls HBB.out A6 c6 _ HC6.out HL6.out).mono ?_; rintro e' w7 ⟨A7, c7, rfl, hc7, hC7, hb7⟩; have HC7 := Aside0.mk hC7; have HL7 := Aside0.mk hc7; have HD7 := Aside0.mk (HD6.out.move hb7); clear hc7 hC7 hb7 HD6) | (go_at_call 37; refine (bits_Ones.calls k A7 c7 b o _ HC7.out HL7.out HO.out).mono ?_; rintro e' w8 ⟨rfl, ⟨nd8, rfl⟩⟩; have HD8 := Aside0.mk (HD7.out.move (pw_below_drewN (Below.refl _ _) nd8)); have hcl1 : w7.cell? ⟨g, 1, none⟩ = some (.slice (some ⟨gd, 0, none⟩) dq.length cd) := (blk_cell HD7.out.ws.blk 1).trans rfl; have hcl2 : w7.cell? ⟨g, 2, none⟩ = some (.slice (some ⟨gm, 0, none⟩) mq.length cm) := (blk_cell HD7.out.ws.blk 2).trans rfl))
           go_region
           go_wp2
           refine bodyPost_ret (results_tmp4 rfl _ _ _) rfl ?_
           have HD9 := HD8.out.move (below_drew1 (Below.refl _ _))
           exact ⟨_, _, rfl, Kd.R_of_own (h1 := fun _ => rfl) HD9.ws.od (fun k hk e => HD9.ws.ne (Option.some.inj ((show some gd = some k from hk).trans (show some k = some gm from e)))), Kd.R_of_own (h1 := fun _ => rfl) HD9.ws.om (fun k hk e => HD9.ws.ne (Option.some.inj ((show some gm = some k from hk).trans (show some k = some gd from e))).symm), HD9.below⟩
         ·rw [if_neg ht3] at h6; exact absurd h6 (by simp)
        ·rw [if_neg hnl] at h5
         have hn1 : (nq == lc) = false := beq_eq_false_iff_ne.2 hnl
         have hn2 : (nq != lc) = true := bne_iff_ne.2 hnl
         simp only [Option.some.injEq, Prod.mk.injEq] at h5
         obtain ⟨rfl, rfl, rfl, rfl⟩ := h5
         clear hnl
         go_wp2
         refine bodyPost_ret (results_tmp4 rfl _ _ _) rfl ?_
         exact ⟨_, _, rfl, Kd.R_nil _ _ _ _ _, Kd.R_nil _ _ _ _ _, HD.out.below⟩
    ·rw [if_neg ht2] at h; exact absurd h (by simp)
  ·rw [if_neg ht1] at h; exact absurd h (by simp)
mutual
def ecc_Unpack.j0 : Nat → List Int → Bool → Int → Int → Int → Int → Int → Option ((List (S39)) × Int)
 | 0, _, _, _, _, _, _, _ => none
 | k + 1, x1, x24, x190000, x190001, x190002, x190003, x190004 => if x24 = true then (some (([] : List (S39)), 1)) else ((ecc_state.f k x190000 x190001 x190002 x190003 x190004 x1).bind fun t192 => (if t192 = 0 then (ecc_Unpack.l0 k x1 ([] : List (S39)) x190002 0 x190000 x190001 x190002 x190003 x190004) else (some (([] : List (S39)), t192))))
def ecc_Unpack.l0 : Nat → List Int → List (S39) → Int → Int → Int → Int → Int → Int → Int → Option ((List (S39)) × Int)
 | 0, _, _, _, _, _, _, _, _, _ => none
 | k + 1, x1, x9, x32, x33, x190000, x190001, x190002, x190003, x190004 => if x33 < x32 then ((ecc_whole.f x190000 x190001 x190002 x190003 x190004).bind fun t193 => (if 0 ≤ x190003 then (if x190003 ≤ (x1.length : Int) then (if x190003 ≤ t193 then (if t193 ≤ (x1.length : Int) then ((bch_Decode.f k x190004 (x1.take (x190003 : Int).toNat) ((x1.take (t193 : Int).toNat).drop (x190003 : Int).toNat)).bind fun bt205 => (if x9.length < 3518437208883 then (if 0 ≤ t193 then (ecc_Unpack.l0 k (x1.drop (t193 : Int).toNat) (x9 ++ [(⟨bt205.1, bt205.2.2.1, bt205.2.2.2⟩ : S39)]) x32 (wrap64 (x33 + 1)) x190000 x190001 x190002 x190003 x190004) else (none)) else (none))) else (none)) else (none)) else (none)) else (none))) else (some (x9, 0))
end
def ecc_Unpack.f (k : Nat) (a0_0 : Int) (a0_1 : Int) (a0_2 : Int) (a0_3 : Int) (a0_4 : Int) (l1 : List Int) : Option ((List (S39)) × Int) := (ecc_Raw.f a0_0 a0_1 a0_2 a0_3 a0_4).bind fun bt190 => (if bt190.2 = 0 then (ecc_Unpack.j0 k l1 ((l1.length : Int) != bt190.1) a0_0 a0_1 a0_2 a0_3 a0_4) else (ecc_Unpack.j0 k l1 true a0_0 a0_1 a0_2 a0_3 a0_4))
theorem ecc_Unpack.mono_l : ∀ k, (∀ y0 y1 y2 y3 y4 y5 y6, LeO (ecc_Unpack.j0 k y0 y1 y2 y3 y4 y5 y6) (ecc_Unpack.j0 (k + 1) y0 y1 y2 y3 y4 y5 y6)) ∧ (∀ y0 y1 y2 y3 y4 y5 y6 y7 y8, LeO (ecc_Unpack.l0 k y0 y1 y2 y3 y4 y5 y6 y7 y8) (ecc_Unpack.l0 (k + 1) y0 y1 y2 y3 y4 y5 y6 y7 y8))
 | 0 => ⟨fun _ _ _ _ _ _ _ r h => by simp [ecc_Unpack.j0] at h, fun _ _ _ _ _ _ _ _ _ r h => by simp [ecc_Unpack.l0] at h⟩
 | k + 1 => by
  obtain ⟨ih0, ih1⟩ := ecc_Unpack.mono_l k
  refine ⟨?_, ?_⟩
  ·intro y0 y1 y2 y3 y4 y5 y6
   unfold ecc_Unpack.j0
   repeat' first
   | (with_reducible exact ih0 _ _ _ _ _ _ _)
   | (with_reducible exact ih1 _ _ _ _ _ _ _ _ _)
   | (with_reducible exact bch_Decode.mono _ _ _ _)
   | (with_reducible exact ecc_state.mono _ _ _ _ _ _ _)
   | (with_reducible exact LeO.refl _)
   | (with_reducible exact LeO.none _)
   | (with_reducible refine LeO.ite ?_ ?_)
   | (with_reducible refine LeO.bind ?_ (fun _ => ?_))
   | exact ih0 _ _ _ _ _ _ _
   | exact ih1 _ _ _ _ _ _ _ _ _
   | exact bch_Decode.mono _ _ _ _
   | exact ecc_state.mono _ _ _ _ _ _ _
   | exact LeO.none _
   | refine LeO.ite ?_ ?_
   | refine LeO.bind ?_ (fun _ => ?_)
  ·intro y0 y1 y2 y3 y4 y5 y6 y7 y8
   unfold ecc_Unpack.l0
   repeat' first
   | (with_reducible exact ih0 _ _ _ _ _ _ _)
   | (with_reducible exact ih1 _ _ _ _ _ _ _ _ _)
   | (with_reducible exact bch_Decode.mono _ _ _ _)
   | (with_reducible exact ecc_state.mono _ _ _ _ _ _ _)
   | (with_reducible exact LeO.refl _)
   | (with_reducible exact LeO.none _)
   | (with_reducible refine LeO.ite ?_ ?_)
   | (with_reducible refine LeO.bind ?_ (fun _ => ?_))
   | exact ih0 _ _ _ _ _ _ _
   | exact ih1 _ _ _ _ _ _ _ _ _
   | exact bch_Decode.mono _ _ _ _
   | exact ecc_state.mono _ _ _ _ _ _ _
   | exact LeO.none _
   | refine LeO.ite ?_ ?_
   | refine LeO.bind ?_ (fun _ => ?_)
theorem ecc_Unpack.mono : ∀ a0 a1 a2 a3 a4 a5 k, LeO (ecc_Unpack.f k a0 a1 a2 a3 a4 a5) (ecc_Unpack.f (k + 1) a0 a1 a2 a3 a4 a5) := by
 intro a0 a1 a2 a3 a4 a5 k
 obtain ⟨ih0, ih1⟩ := ecc_Unpack.mono_l k
 unfold ecc_Unpack.f
 repeat' first
   | (with_reducible exact ih0 _ _ _ _ _ _ _)
   | (with_reducible exact ih1 _ _ _ _ _ _ _ _ _)
   | (with_reducible exact bch_Decode.mono _ _ _ _)
   | (with_reducible exact ecc_state.mono _ _ _ _ _ _ _)
   | (with_reducible exact LeO.refl _)
   | (with_reducible exact LeO.none _)
   | (with_reducible refine LeO.ite ?_ ?_)
   | (with_reducible refine LeO.bind ?_ (fun _ => ?_))
   | exact ih0 _ _ _ _ _ _ _
   | exact ih1 _ _ _ _ _ _ _ _ _
   | exact bch_Decode.mono _ _ _ _
   | exact ecc_state.mono _ _ _ _ _ _ _
   | exact LeO.none _
   | refine LeO.ite ?_ ?_
   | refine LeO.bind ?_ (fun _ => ?_)
def ecc_Unpack.T12 : Bool × List (List Nat × List Nat) := (true, [([], []), ([0], [0]), ([], []), ([], []), ([3], [3]), ([], []), ([5], [5]), ([2, 4, 6], [2, 4, 6]), ([], []), ([], []), ([9], [9]), ([], []), ([], []), ([8, 10, 11, 12], [8, 10, 11, 12]), ([1, 7, 13], [1, 7, 13]), ([14], [14]), ([15], [15]), ([15], [15]), ([15], [15]), ([15], [15]), ([0, 1, 2, 3, 4, 5, 6, 7, 8, 9, 10, 11, 12, 13, 14, 15, 16], []), ([20, 16, 14, 0, 1, 2, 3, 4, 5, 6, 7, 8, 9, 10, 11, 12, 13, 14, 15, 16], [16, 20]), ([0, 1, 2, 3, 4, 5, 6, 7, 8, 9, 10, 11, 12, 13, 14, 15, 16, 17, 18, 20, 21], []), ([22, 18, 21, 0, 1, 2, 3, 4, 5, 6, 7, 8, 9, 10, 11, 12, 13, 14, 15, 16, 17, 18, 20, 21], [18, 22]), ([0, 1, 2, 3, 4, 5, 6, 7, 8, 9, 10, 11, 12, 13, 14, 15, 16, 17, 18, 19, 20, 21, 22, 23], []), ([24, 19, 23, 0, 1, 2, 3, 4, 5, 6, 7, 8, 9, 10, 11, 12, 13, 14, 15, 16, 17, 18, 19, 20, 21, 22, 23], [19, 24])])
def ecc_Unpack.B12 : List Nat := [0, 1, 0, 0, 8, 0, 32, 124, 0, 0, 512, 0, 0, 7936, 16383, 32767, 65535, 65535, 65535, 65535, 131071, 1179647, 3670015, 7864319, 16777215, 33554431]
theorem ecc_Unpack.tab12 : rtab .any (opsOf Try.f13 12) = ecc_Unpack.T12 := by kernel_rfl
theorem ecc_Unpack.bits12 : waitsOk ecc_Unpack.T12.2 ecc_Unpack.B12 = true := by kernel_rfl
section
variable {P : Program}
/-- A cut with a capacity, that is its end. -/
theorem ecc_Unpack.cut_to3 (t e : TypeId) (kh : IntKind) {i : TypeInfo} (ht : P.underlying t = some (.slice e)) (hi : P.info? e = some i) (A : Option Addr) (n c : Nat) (j : Int) (h0 : 0 ≤ j) (hm : j ≤ n) (hc : n ≤ c) :
  ∀ W : World, (Instr.slice t (.slice A n c) none (some (.int kh j)) (some (.int kh j))).run P W = .ok (.slice A j.toNat j.toNat) W := by
 intro W
 have hel : P.elem t = e := by simp [Program.elem, ht]
 have hu : P.underlying t = some (.slice (P.elem t)) := by rw [hel]; exact ht
 have ha : (A.map fun x => x.add 0) = A := by cases A <;> simp [Addr.add]
 rw [run_slice_hm W t A n c hu kh kh j j h0 (Int.le_refl _) (by omega), hel]
 simp [sizeOf, typeInfo, hi, sliced, Result.andThen, ha]
theorem ecc_Unpack.cut_mid3 (t e : TypeId) (kl kh : IntKind) {i : TypeInfo} (ht : P.underlying t = some (.slice e)) (hi : P.info? e = some i) (size : Nat) (hsz : i.size = size) (A : Option Addr) (n c : Nat) (lo hi' : Int) (h0 : 0 ≤ lo) (h1 : lo ≤ hi') (h2 : hi' ≤ n) (hc : n ≤ c) :
  ∀ W : World, (Instr.slice t (.slice A n c) (some (.int kl lo)) (some (.int kh hi')) (some (.int kh hi'))).run P W = .ok (.slice (if hi'.toNat = lo.toNat then A else A.map (·.add (lo.toNat * size))) (hi'.toNat - lo.toNat) (hi'.toNat - lo.toNat)) W := by
 intro W
 have hel : P.elem t = e := by simp [Program.elem, ht]
 have hu : P.underlying t = some (.slice (P.elem t)) := by rw [hel]; exact ht
 rw [run_slice_lhm W t A n c hu kl kh kh lo hi' hi' h0 h1 (Int.le_refl _) (by omega), hel]
 simp [sizeOf, typeInfo, hi, hsz, sliced, Result.andThen]
end
set_option maxHeartbeats 8000000 in
set_option maxRecDepth 100000 in
theorem ecc_Unpack.calls (k : Nat) (a0_0 : Int) (a0_1 : Int) (a0_2 : Int) (a0_3 : Int) (a0_4 : Int) (P1_ : Nat → Prop) (A1 : Option Addr) (c1 : Nat) (l1 : List Int) (r1 : List (S39)) (r2 : Int) (w : World) (hs1 : Kd.V (Kd.int .u8) 5 w w.heap.size (fun k_ => P1_ k_) (.slice A1 l1.length c1) l1) (h : ecc_Unpack.f k a0_0 a0_1 a0_2 a0_3 a0_4 l1 = some (r1, r2)) :
  Calls Try.prog 13 #[.agg #[.int .i64 a0_0, .int .i64 a0_1, .int .i64 a0_2, .int .i64 a0_3, .int .i64 a0_4], .slice A1 l1.length c1] w fun e w' => ∃ v0_ : Value, e = .returned (.tuple #[v0_, .int .i64 r2]) ∧ Kd.S k39 39 w' w.heap.size (fun k_ => (w.heap.size ≤ k_)) v0_ r1 ∧ Below w.heap.size w w' := by
 have hu23 := Try.underlying23
 have hu39 := Try.underlying39
 have HO1 := Aside0.mk (show Kd.V (Kd.int .u8) 5 w w.heap.size (fun k_ => (P1_ k_ ∨ w.heap.size ≤ k_)) (.slice A1 l1.length c1) l1 from Kd.V_mono hs1 (fun k_ hk => .inl hk))
 have HB := Aside0.mk (Below.refl w.heap.size w)
 have H : ((ecc_Raw.f a0_0 a0_1 a0_2 a0_3 a0_4).bind fun bt190 => (if bt190.2 = 0 then (ecc_Unpack.j0 k l1 ((l1.length : Int) != bt190.1) a0_0 a0_1 a0_2 a0_3 a0_4) else (ecc_Unpack.j0 k l1 true a0_0 a0_1 a0_2 a0_3 a0_4))) = some (r1, r2) := h
 clear h
 replace H := Option.bind_eq_some_iff.mp H
 obtain ⟨⟨t190, t191⟩, A30, H⟩ := H
 replace H : (if t191 = 0 then (ecc_Unpack.j0 k l1 ((l1.length : Int) != t190) a0_0 a0_1 a0_2 a0_3 a0_4) else (ecc_Unpack.j0 k l1 true a0_0 a0_1 a0_2 a0_3 a0_4)) = some (r1, r2) := H
 have A3 := Aside0.mk A30
 clear A30
 have HC4 := Aside0.mk H
 clear H
 go_enter Try.func13, Try.ntmps13
 go_upto_region 2 with (first | ((with_reducible refine gate_dst (N := 2) rfl ?_); (try (refine gate_guard (by rfl) ?_; dsimp only)); refine box_event ?hg (N := 2) ?hd (cs := #[.int .i64 a0_0, .int .i64 a0_1, .int .i64 a0_2, .int .i64 a0_3, .int .i64 a0_4]) (t := 23) ?hr ?_; (case hd => rfl); (case hg => rfl); (case hr => first | (go_simp; done) | (go_simp; rfl)); intro gb189 hg w5 hbox hb; have n0_ := Aside0.mk (Kd.V_below (Kd.V_elderB (uV HO1.out) gb189 (Nat.le_of_eq hg.symm)) hb); have n1_ := Aside0.mk (below_step (uB HB.out) hb); have n2_ := Aside0.mk (hbox); have n3_ := Aside0.mk ((by rw [hg]; exact (below_size (uB HB.out)) : w.heap.size ≤ gb189)); have n4_ := Aside0.mk ((by rw [hg]; exact (below_size (uB HB.out)) : w.heap.size ≤ gb189)); clear HO1; clear HB; have HO1 := n0_; have HB := n1_; have BK189 := n2_; have GW189 := n3_; have GE189 := n4_; clear n0_ n1_ n2_ n3_ n4_; clear hb hbox hg; have hcz6_0 : w5.cell? ⟨gb189, 0, none⟩ = some (.int .i64 a0_0) := (blk_cell BK189.out 0).trans rfl; have hcz6_1 : w5.cell? ⟨gb189, 1, none⟩ = some (.int .i64 a0_1) := (blk_cell BK189.out 1).trans rfl; have hcz6_2 : w5.cell? ⟨gb189, 2, none⟩ = some (.int .i64 a0_2) := (blk_cell BK189.out 2).trans rfl; have hcz6_3 : w5.cell? ⟨gb189, 3, none⟩ = some (.int .i64 a0_3) := (blk_cell BK189.out 3).trans rfl; have hcz6_4 : w5.cell? ⟨gb189, 4, none⟩ = some (.int .i64 a0_4) := (blk_cell BK189.out 4).trans rfl; have hfz6_0 := blk_frozen BK189.out 0; have hfz6_1 := blk_frozen BK189.out 1; have hfz6_2 := blk_frozen BK189.out 2; have hfz6_3 := blk_frozen BK189.out 3; have hfz6_4 := blk_frozen BK189.out 4) | ((with_reducible refine gate_callee (f := 21) rfl ?_); refine goesL_ (some 14) rfl rfl Try.func21 (by kernel_rfl) rfl #[.agg #[.int .i64 a0_0, .int .i64 a0_1, .int .i64 a0_2, .int .i64 a0_3, .int .i64 a0_4]] rfl (by (try simp only [List.map_toArray, List.map_cons, List.map_nil]); first | done | rfl | (simp only [List.length_drop, List.length_take]; rfl)) ?_; (with_reducible refine (ecc_Raw.calls a0_0 a0_1 a0_2 a0_3 a0_4 t190 t191 _ A3.out).mono ?_); rintro e w7 ⟨rfl, hb⟩; refine ⟨_, rfl, ?_⟩; have n0_ := Aside0.mk (Kd.V_below (uV HO1.out) hb); have n1_ := Aside0.mk (blk_below (g := gb189) (o := .cells #[.int .i64 a0_0, .int .i64 a0_1, .int .i64 a0_2, .int .i64 a0_3, .int .i64 a0_4] 23 (0, 0)) (uK BK189.out) hb); have n2_ := Aside0.mk (below_step (uB HB.out) hb); clear HO1; clear BK189; clear HB; have HO1 := n0_; have BK189 := n1_; have HB := n2_; clear n0_ n1_ n2_; (try clear hb); (try clear hb2); (try clear hk); (try clear hi)))
 (try simp only [Act.put, List.setIfInBounds_toArray, List.set_cons_zero, List.set_cons_succ])
 go_cut [24] (fun v24 wc => ∃ (kq : Nat) (x24_3 : Bool), v24 = .bool x24_3 ∧ Aside0 (ecc_Unpack.j0 kq l1 x24_3 a0_0 a0_1 a0_2 a0_3 a0_4 = some (r1, r2)) ∧ Aside0 (kq ≤ k) ∧ Aside0 (Kd.V (Kd.int .u8) 5 wc w.heap.size (fun k_ => (P1_ k_ ∨ w.heap.size ≤ k_) ∧ k_ ≠ gb189) (.slice A1 l1.length c1) l1) ∧ Aside0 (wc.heap[gb189]? = some (.cells #[.int .i64 a0_0, .int .i64 a0_1, .int .i64 a0_2, .int .i64 a0_3, .int .i64 a0_4] 23 (0, 0))) ∧ Aside0 (Below w.heap.size w wc))
 case first =>
  have H := HC4.out
  clear HC4
  by_cases c8 : t191 = 0
  ·rw [if_pos c8] at H
   have c8b0 : (t191 == 0) = true := beq_iff_eq.mpr c8
   have c8b1 : (t191 != 0) = false := bne_eq_false_iff_eq.mpr c8
   clear c8
   (first | rw [c8b0] | (simp only [i64_w, i32_w]; rw [c8b0]) | skip)
   have H' := Aside0.mk H
   clear H
   go_wp2
   go_meet
   case rel => exact ⟨_, (((l1.length : Int) != t190)), (by first | rfl | (simp; done) | (simp [*]; done)), H', ⟨by first | omega | exact Nat.le_refl _⟩, ⟨uV HO1.out⟩, ⟨uK BK189.out⟩, ⟨uB HB.out⟩⟩
  ·rw [if_neg c8] at H
   have c8b0 : (t191 == 0) = false := beq_eq_false_iff_ne.mpr c8
   have c8b1 : (t191 != 0) = true := bne_iff_ne.mpr c8
   (first | rw [c8b0] | (simp only [i64_w, i32_w]; rw [c8b0]) | skip)
   have H' := Aside0.mk H
   clear H
   go_wp2
   go_meet
   case rel => exact ⟨_, (true), (by first | rfl | (simp; done) | (simp [*]; done)), H', ⟨by first | omega | exact Nat.le_refl _⟩, ⟨uV HO1.out⟩, ⟨uK BK189.out⟩, ⟨uB HB.out⟩⟩
 case rest =>
  clear HC4
  try clear c1
  try clear c2
  try clear p2
  try clear c8
  try clear c8b0
  try clear c8b1
  try clear hcz6_0
  try clear hcz6_1
  try clear hcz6_2
  try clear hcz6_3
  try clear hcz6_4
  try clear hfz6_0
  try clear hfz6_1
  try clear hfz6_2
  try clear hfz6_3
  try clear hfz6_4
  obtain ⟨kq, x24_3, rfl, HA, HJ3, HO_1, BK189, HB⟩ := hcut
  cases kq with
  | zero => exact absurd HA.out (by simp [ecc_Unpack.j0])
  | succ kj3 =>
   have H := HA.out
   clear HA
   simp only [ecc_Unpack.j0] at H
   by_cases c9 : x24_3 = true
   ·subst c9
    have H1 : (some (([] : List (S39)), 1)) = some (r1, r2) := by rw [if_pos rfl] at H; exact H
    clear H
    have H := H1
    clear H1
    simp only [Option.some.injEq, Prod.mk.injEq] at H
    obtain ⟨rfl, rfl⟩ := H
    go_wp2
    go_ret2
    exact ⟨_, by first | rfl | (simp [errW_none, errW_some] <;> rfl) | (simp [*, errW_none, errW_some] <;> rfl), by first | exact Kd.S_nil _ _ _ _ _ | exact Kd.N_nil _ _ _ _ _ | exact Kd.V_nil _ _ _ _ _ | exact Kd.Q_nil _ _ _ _ _ | exact Kd.R_nil _ _ _ _ _, uB HB.out⟩
   ·replace c9 := Bool.eq_false_iff.mpr c9
    subst c9
    have H1 : ((ecc_state.f kj3 a0_0 a0_1 a0_2 a0_3 a0_4 l1).bind fun t192 => (if t192 = 0 then (ecc_Unpack.l0 kj3 l1 ([] : List (S39)) a0_2 0 a0_0 a0_1 a0_2 a0_3 a0_4) else (some (([] : List (S39)), t192)))) = some (r1, r2) := by rw [if_neg (show ¬ (false = true) by decide)] at H; exact H
    clear H
    have H := H1
    clear H1
    replace H := Option.bind_eq_some_iff.mp H
    obtain ⟨t192, A100, H⟩ := H
    replace H : (if t192 = 0 then (ecc_Unpack.l0 kj3 l1 ([] : List (S39)) a0_2 0 a0_0 a0_1 a0_2 a0_3 a0_4) else (some (([] : List (S39)), t192))) = some (r1, r2) := H
    have A10 := Aside0.mk A100
    clear A100
    by_cases c11 : t192 = 0
    ·rw [if_pos c11] at H
     have c11b0 : (t192 == 0) = true := beq_iff_eq.mpr c11
     have c11b1 : (t192 != 0) = false := bne_eq_false_iff_eq.mpr c11
     clear c11
     have H' := Aside0.mk H
     clear H
     have hcz12_0 : wc.cell? ⟨gb189, 0, none⟩ = some (.int .i64 a0_0) := (blk_cell BK189.out 0).trans rfl
     have hcz12_1 : wc.cell? ⟨gb189, 1, none⟩ = some (.int .i64 a0_1) := (blk_cell BK189.out 1).trans rfl
     have hcz12_2 : wc.cell? ⟨gb189, 2, none⟩ = some (.int .i64 a0_2) := (blk_cell BK189.out 2).trans rfl
     have hcz12_3 : wc.cell? ⟨gb189, 3, none⟩ = some (.int .i64 a0_3) := (blk_cell BK189.out 3).trans rfl
     have hcz12_4 : wc.cell? ⟨gb189, 4, none⟩ = some (.int .i64 a0_4) := (blk_cell BK189.out 4).trans rfl
     have hfz12_0 := blk_frozen BK189.out 0
     have hfz12_1 := blk_frozen BK189.out 1
     have hfz12_2 := blk_frozen BK189.out 2
     have hfz12_3 := blk_frozen BK189.out 3
     have hfz12_4 := blk_frozen BK189.out 4
     go_wp2_with (first | ((with_reducible refine gate_callee (f := 26) rfl ?_); refine goesL_ (some 27) rfl rfl Try.func26 (by kernel_rfl) rfl #[.agg #[.int .i64 a0_0, .int .i64 a0_1, .int .i64 a0_2, .int .i64 a0_3, .int .i64 a0_4], .slice A1 l1.length c1] rfl (by (try simp only [List.map_toArray, List.map_cons, List.map_nil]); first | done | rfl | (simp only [List.length_drop, List.length_take]; rfl)) ?_; (with_reducible refine (ecc_state.calls kj3 a0_0 a0_1 a0_2 a0_3 a0_4 _ _ l1 t192 _ ?side1 ?side2 A10.out).mono ?_); (case side1 => repeat (first | exact (Kd.V_reads' HO_1.out).2.2 | (with_reducible refine Kd.C_alloc ?_ _) | (with_reducible refine Kd.C_drewN ?_ _) | (with_reducible refine Kd.C_drew ?_))); (case side2 => exact (Kd.V_reads' HO_1.out).2.1); rintro e w13 ⟨rfl, hb⟩; refine ⟨_, rfl, ?_⟩; have n0_ := Aside0.mk (Kd.V_below (uV HO_1.out) hb); have n1_ := Aside0.mk (blk_below (g := gb189) (o := .cells #[.int .i64 a0_0, .int .i64 a0_1, .int .i64 a0_2, .int .i64 a0_3, .int .i64 a0_4] 23 (0, 0)) (uK BK189.out) hb); have n2_ := Aside0.mk (below_step (uB HB.out) hb); clear HO_1; clear BK189; clear HB; have HO_1 := n0_; have BK189 := n1_; have HB := n2_; clear n0_ n1_ n2_; (try clear hb); (try clear hb2); (try clear hk); (try clear hi); have hcz14_0 : w13.cell? ⟨gb189, 0, none⟩ = some (.int .i64 a0_0) := (blk_cell BK189.out 0).trans rfl; have hcz14_1 : w13.cell? ⟨gb189, 1, none⟩ = some (.int .i64 a0_1) := (blk_cell BK189.out 1).trans rfl; have hcz14_2 : w13.cell? ⟨gb189, 2, none⟩ = some (.int .i64 a0_2) := (blk_cell BK189.out 2).trans rfl; have hcz14_3 : w13.cell? ⟨gb189, 3, none⟩ = some (.int .i64 a0_3) := (blk_cell BK189.out 3).trans rfl; have hcz14_4 : w13.cell? ⟨gb189, 4, none⟩ = some (.int .i64 a0_4) := (blk_cell BK189.out 4).trans rfl; have hfz14_0 := blk_frozen BK189.out 0; have hfz14_1 := blk_frozen BK189.out 1; have hfz14_2 := blk_frozen BK189.out 2; have hfz14_3 := blk_frozen BK189.out 3; have hfz14_4 := blk_frozen BK189.out 4))
     go_loopg [1, 9, 33] kj3 (fun kq v1 v9 v33 w' => ∃ (x1_2 : List Int) (x9_2 : List (S39)) (x33_2 : Int), v33 = .int .i64 x33_2 ∧ Aside0 (ecc_Unpack.l0 kq x1_2 x9_2 a0_2 x33_2 a0_0 a0_1 a0_2 a0_3 a0_4 = some (r1, r2)) ∧ Aside0 (kq ≤ kj3) ∧ Aside0 (Kd.V (Kd.int .u8) 5 w' w.heap.size (fun k_ => (P1_ k_ ∨ w.heap.size ≤ k_) ∧ some k_ ≠ (v9 : Value).ownBlock ∧ k_ ≠ gb189) v1 x1_2) ∧ Aside0 (Kd.S k39 39 w' w.heap.size (fun k_ => (w.heap.size ≤ k_)) v9 x9_2) ∧ Aside0 (w'.heap[gb189]? = some (.cells #[.int .i64 a0_0, .int .i64 a0_1, .int .i64 a0_2, .int .i64 a0_3, .int .i64 a0_4] 23 (0, 0))) ∧ Aside0 (Below w.heap.size w w'))
     case atStart => exact ⟨(l1), (([] : List (S39))), (0), (by first | rfl | (simp; done) | (simp [*]; done)), H', ⟨Nat.le_refl _⟩, ⟨by (with_reducible repeat (first | apply Kd.V_alloc | apply Kd.V_drewN | apply Kd.V_drew)); exact Kd.V_mono HO_1.out (fun _ hk => ⟨hk.1, ⟨(by simp [Value.ownBlock]), hk.2⟩⟩)⟩, ⟨by first | exact Kd.S_nil _ _ _ _ _ | exact Kd.N_nil _ _ _ _ _ | exact Kd.V_nil _ _ _ _ _ | exact Kd.Q_nil _ _ _ _ _ | exact Kd.R_nil _ _ _ _ _⟩, ⟨uK BK189.out⟩, ⟨uB HB.out⟩⟩
     case round =>
      clear H'
      try clear c1
      try clear c2
      try clear p2
      try clear c8
      try clear c8b0
      try clear c8b1
      try clear c9
      try clear c11
      try clear c11b0
      try clear c11b1
      try clear c13
      try clear hcz12_0
      try clear hcz12_1
      try clear hcz12_2
      try clear hcz12_3
      try clear hcz12_4
      try clear hcz14_0
      try clear hcz14_1
      try clear hcz14_2
      try clear hcz14_3
      try clear hcz14_4
      try clear hcz6_0
      try clear hcz6_1
      try clear hcz6_2
      try clear hcz6_3
      try clear hcz6_4
      try clear hfz12_0
      try clear hfz12_1
      try clear hfz12_2
      try clear hfz12_3
      try clear hfz12_4
      try clear hfz14_0
      try clear hfz14_1
      try clear hfz14_2
      try clear hfz14_3
      try clear hfz14_4
      try clear hfz6_0
      try clear hfz6_1
      try clear hfz6_2
      try clear hfz6_3
      try clear hfz6_4
      try clear p2
      obtain ⟨x1_2, x9_2, x33_2, rfl, HA, HK2, HO_1, HO_9, BK189, HB⟩ := hrel
      cases gk with
      | zero => exact absurd HA.out (by simp [ecc_Unpack.l0])
      | succ k2 =>
       have H := HA.out
       clear HA
       simp only [ecc_Unpack.l0] at H
       by_cases c15 : x33_2 < a0_2
       ·rw [if_pos c15] at H
        have c15b0 : decide (x33_2 < a0_2) = true := decide_eq_true c15
        clear c15
        replace H := Option.bind_eq_some_iff.mp H
        obtain ⟨t193, A160, H⟩ := H
        replace H : (if 0 ≤ a0_3 then (if a0_3 ≤ (x1_2.length : Int) then (if a0_3 ≤ t193 then (if t193 ≤ (x1_2.length : Int) then ((bch_Decode.f k2 a0_4 (x1_2.take (a0_3 : Int).toNat) ((x1_2.take (t193 : Int).toNat).drop (a0_3 : Int).toNat)).bind fun bt205 => (if x9_2.length < 3518437208883 then (if 0 ≤ t193 then (ecc_Unpack.l0 k2 (x1_2.drop (t193 : Int).toNat) (x9_2 ++ [(⟨bt205.1, bt205.2.2.1, bt205.2.2.2⟩ : S39)]) a0_2 (wrap64 (x33_2 + 1)) a0_0 a0_1 a0_2 a0_3 a0_4) else (none)) else (none))) else (none)) else (none)) else (none)) else (none)) = some (r1, r2) := H
        have A16 := Aside0.mk A160
        clear A160
        by_cases c17 : 0 ≤ a0_3
        ·rw [if_pos c17] at H
         have c17b0 := eq_true c17
         have c17b1 : decide (0 ≤ a0_3) = true := decide_eq_true c17
         clear c17
         by_cases c18 : a0_3 ≤ (x1_2.length : Int)
         ·rw [if_pos c18] at H
          have c18b0 := eq_true c18
          have c18b1 : decide (a0_3 ≤ (x1_2.length : Int)) = true := decide_eq_true c18
          clear c18
          obtain ⟨y195, hy195⟩ : ∃ y_ : List Int, y_ = (x1_2.take (a0_3 : Int).toNat) := ⟨_, rfl⟩
          replace H : (if a0_3 ≤ t193 then (if t193 ≤ (x1_2.length : Int) then ((bch_Decode.f k2 a0_4 y195 ((x1_2.take (t193 : Int).toNat).drop (a0_3 : Int).toNat)).bind fun bt205 => (if x9_2.length < 3518437208883 then (if 0 ≤ t193 then (ecc_Unpack.l0 k2 (x1_2.drop (t193 : Int).toNat) (x9_2 ++ [(⟨bt205.1, bt205.2.2.1, bt205.2.2.2⟩ : S39)]) a0_2 (wrap64 (x33_2 + 1)) a0_0 a0_1 a0_2 a0_3 a0_4) else (none)) else (none))) else (none)) else (none)) = some (r1, r2) := by first | (rw [hy195]; with_reducible exact H) | (have H2_ := (Option.bind_some _ _).symm.trans H; rw [hy195]; with_reducible exact H2_) | (have H2_ := (Option.bind_some _ _).symm.trans H; with_reducible exact H2_) | with_reducible exact H | (rw [hy195]; exact H) | exact H
          have Ny195 := Aside0.mk hy195
          clear hy195
          have c19b0 := eq_true (of_decide_eq_true (by first | (with_reducible assumption) | assumption) : 0 ≤ a0_3)
          by_cases c20 : a0_3 ≤ t193
          ·rw [if_pos c20] at H
           have c20b0 := eq_true c20
           have c20b1 : decide (a0_3 ≤ t193) = true := decide_eq_true c20
           clear c20
           by_cases c21 : t193 ≤ (x1_2.length : Int)
           ·rw [if_pos c21] at H
            have c21b0 := eq_true c21
            have c21b1 : decide (t193 ≤ (x1_2.length : Int)) = true := decide_eq_true c21
            clear c21
            obtain ⟨y200, hy200⟩ : ∃ y_ : List Int, y_ = ((x1_2.take (t193 : Int).toNat).drop (a0_3 : Int).toNat) := ⟨_, rfl⟩
            replace H : ((bch_Decode.f k2 a0_4 y195 y200).bind fun bt205 => (if x9_2.length < 3518437208883 then (if 0 ≤ t193 then (ecc_Unpack.l0 k2 (x1_2.drop (t193 : Int).toNat) (x9_2 ++ [(⟨bt205.1, bt205.2.2.1, bt205.2.2.2⟩ : S39)]) a0_2 (wrap64 (x33_2 + 1)) a0_0 a0_1 a0_2 a0_3 a0_4) else (none)) else (none))) = some (r1, r2) := by first | (rw [hy200]; with_reducible exact H) | (have H2_ := (Option.bind_some _ _).symm.trans H; rw [hy200]; with_reducible exact H2_) | (have H2_ := (Option.bind_some _ _).symm.trans H; with_reducible exact H2_) | with_reducible exact H | (rw [hy200]; exact H) | exact H
            have Ny200 := Aside0.mk hy200
            clear hy200
            replace H := Option.bind_eq_some_iff.mp H
            obtain ⟨⟨t205, t206, t207, t208⟩, A220, H⟩ := H
            replace H : (if x9_2.length < 3518437208883 then (if 0 ≤ t193 then (ecc_Unpack.l0 k2 (x1_2.drop (t193 : Int).toNat) (x9_2 ++ [(⟨t205, t207, t208⟩ : S39)]) a0_2 (wrap64 (x33_2 + 1)) a0_0 a0_1 a0_2 a0_3 a0_4) else (none)) else (none)) = some (r1, r2) := H
            have A22 := Aside0.mk A220
            clear A220
            by_cases c23 : x9_2.length < 3518437208883
            ·rw [if_pos c23] at H
             have LMc23 := Aside0.mk c23
             clear c23
             obtain ⟨y213, hy213⟩ : ∃ y_ : List (S39), y_ = (x9_2 ++ [(⟨t205, t207, t208⟩ : S39)]) := ⟨_, rfl⟩
             replace H : (if 0 ≤ t193 then (ecc_Unpack.l0 k2 (x1_2.drop (t193 : Int).toNat) y213 a0_2 (wrap64 (x33_2 + 1)) a0_0 a0_1 a0_2 a0_3 a0_4) else (none)) = some (r1, r2) := by first | (rw [hy213]; with_reducible exact H) | (have H2_ := (Option.bind_some _ _).symm.trans H; rw [hy213]; with_reducible exact H2_) | (have H2_ := (Option.bind_some _ _).symm.trans H; with_reducible exact H2_) | with_reducible exact H | (rw [hy213]; exact H) | exact H
             have Ny213 := Aside0.mk hy213
             clear hy213
             by_cases c24 : 0 ≤ t193
             ·rw [if_pos c24] at H
              have c24b0 := eq_true c24
              have c24b1 : decide (0 ≤ t193) = true := decide_eq_true c24
              clear c24
              have c25b0 := eq_true (of_decide_eq_true (by first | (with_reducible assumption) | assumption) : t193 ≤ (x1_2.length : Int))
              obtain ⟨y216, hy216⟩ : ∃ y_ : List Int, y_ = (x1_2.drop (t193 : Int).toNat) := ⟨_, rfl⟩
              replace H : (ecc_Unpack.l0 k2 y216 y213 a0_2 (wrap64 (x33_2 + 1)) a0_0 a0_1 a0_2 a0_3 a0_4) = some (r1, r2) := by first | (rw [hy216]; with_reducible exact H) | (have H2_ := (Option.bind_some _ _).symm.trans H; rw [hy216]; with_reducible exact H2_) | (have H2_ := (Option.bind_some _ _).symm.trans H; with_reducible exact H2_) | with_reducible exact H | (rw [hy216]; exact H) | exact H
              have Ny216 := Aside0.mk hy216
              clear hy216
              have H' := Aside0.mk H
              clear H
              have hcz26_0 : wr.cell? ⟨gb189, 0, none⟩ = some (.int .i64 a0_0) := (blk_cell BK189.out 0).trans rfl
              have hcz26_1 : wr.cell? ⟨gb189, 1, none⟩ = some (.int .i64 a0_1) := (blk_cell BK189.out 1).trans rfl
              have hcz26_2 : wr.cell? ⟨gb189, 2, none⟩ = some (.int .i64 a0_2) := (blk_cell BK189.out 2).trans rfl
              have hcz26_3 : wr.cell? ⟨gb189, 3, none⟩ = some (.int .i64 a0_3) := (blk_cell BK189.out 3).trans rfl
              have hcz26_4 : wr.cell? ⟨gb189, 4, none⟩ = some (.int .i64 a0_4) := (blk_cell BK189.out 4).trans rfl
              have hfz26_0 := blk_frozen BK189.out 0
              have hfz26_1 := blk_frozen BK189.out 1
              have hfz26_2 := blk_frozen BK189.out 2
              have hfz26_3 := blk_frozen BK189.out 3
              have hfz26_4 := blk_frozen BK189.out 4
              try go_wp2_with (first | ((with_reducible refine gate_callee (f := 27) rfl ?_); refine goesL_ (some 36) rfl rfl Try.func27 (by kernel_rfl) rfl #[.agg #[.int .i64 a0_0, .int .i64 a0_1, .int .i64 a0_2, .int .i64 a0_3, .int .i64 a0_4]] rfl (by (try simp only [List.map_toArray, List.map_cons, List.map_nil]); first | done | rfl | (simp only [List.length_drop, List.length_take]; rfl)) ?_; (with_reducible refine (ecc_whole.calls a0_0 a0_1 a0_2 a0_3 a0_4 t193 _ A16.out).mono ?_); rintro e w27 ⟨rfl, hb⟩; refine ⟨_, rfl, ?_⟩; have n0_ := Aside0.mk (Kd.V_below (uV HO_1.out) hb); have n1_ := Aside0.mk (Kd.S_below (uS HO_9.out) hb); have n2_ := Aside0.mk (blk_below (g := gb189) (o := .cells #[.int .i64 a0_0, .int .i64 a0_1, .int .i64 a0_2, .int .i64 a0_3, .int .i64 a0_4] 23 (0, 0)) (uK BK189.out) hb); have n3_ := Aside0.mk (below_step (uB HB.out) hb); clear HO_1; clear HO_9; clear BK189; clear HB; have HO_1 := n0_; have HO_9 := n1_; have BK189 := n2_; have HB := n3_; clear n0_ n1_ n2_ n3_; (try clear hb); (try clear hb2); (try clear hk); (try clear hi)) | ((with_reducible refine gate_dst (N := 11) rfl ?_); (try (refine gate_guard (by rfl) ?_; dsimp only)); refine box_event ?hg (N := 11) ?hd (cs := #[.slice none 0 0, .int .i64 0, .int .i64 0]) (t := 39) ?hr ?_; (case hd => rfl); (case hg => rfl); (case hr => first | (go_simp; done) | (go_simp; rfl)); intro gb194 hg w28 hbox hb; have n0_ := Aside0.mk (Kd.V_below (Kd.V_elderB (uV HO_1.out) gb194 (Nat.le_of_eq hg.symm)) hb); have n1_ := Aside0.mk (Kd.S_below (Kd.S_elderB (uS HO_9.out) gb194 (Nat.le_of_eq hg.symm)) hb); have n2_ := Aside0.mk (blk_below (g := gb189) (o := .cells #[.int .i64 a0_0, .int .i64 a0_1, .int .i64 a0_2, .int .i64 a0_3, .int .i64 a0_4] 23 (0, 0)) (uK BK189.out) hb); have n3_ := Aside0.mk (below_step (uB HB.out) hb); have n4_ := Aside0.mk (hbox); have n5_ := Aside0.mk ((by rw [hg]; exact (below_size (uB HB.out)) : w.heap.size ≤ gb194)); have n6_ := Aside0.mk ((by rw [hg]; exact (below_size (uB HB.out)) : w.heap.size ≤ gb194)); have n7_ := Aside0.mk ((by rw [hg]; exact Nat.ne_of_lt (blk_lt (g := gb189) (o := .cells #[.int .i64 a0_0, .int .i64 a0_1, .int .i64 a0_2, .int .i64 a0_3, .int .i64 a0_4] 23 (0, 0)) (uK BK189.out)) : gb189 ≠ gb194)); have n8_ := Aside0.mk ((by rw [hg]; exact Nat.ne_of_gt (blk_lt (g := gb189) (o := .cells #[.int .i64 a0_0, .int .i64 a0_1, .int .i64 a0_2, .int .i64 a0_3, .int .i64 a0_4] 23 (0, 0)) (uK BK189.out)) : gb194 ≠ gb189)); clear HO_1; clear HO_9; clear BK189; clear HB; have HO_1 := n0_; have HO_9 := n1_; have BK189 := n2_; have HB := n3_; have BK194 := n4_; have GW194 := n5_; have GE194 := n6_; have NB189_194 := n7_; have NB194_189 := n8_; clear n0_ n1_ n2_ n3_ n4_ n5_ n6_ n7_ n8_; clear hb hbox hg))
              have n0_ := Aside0.mk (Kd.V_drew HO_1.out)
              have n1_ := Aside0.mk (Kd.S_drew HO_9.out)
              have n2_ := Aside0.mk (blk_drew BK189.out)
              have n3_ := Aside0.mk (blk_drew BK194.out)
              have n4_ := Aside0.mk (below_drew1 HB.out)
              clear HO_1
              clear HO_9
              clear BK189
              clear BK194
              clear HB
              have HO_1 := n0_
              have HO_9 := n1_
              have BK189 := n2_
              have BK194 := n3_
              have HB := n4_
              clear n0_ n1_ n2_ n3_ n4_
              obtain ⟨Ao31, co31, eo31⟩ := Kd.V_slice HO_1.out
              (first | subst eo31 | (injection eo31 with f1_ f2_ f3_; have f4_ := f1_.symm; have f5_ := f3_.symm; clear f1_ f2_ f3_; subst f4_; subst f5_))
              have q30 : (a0_3 : Int) ≤ ((x1_2.length : Int) : Int) := of_decide_eq_true (by first | (with_reducible assumption) | assumption)
              obtain ⟨i030, hi030, _, hsz30, _⟩ := info_parts info5
              have hroom30 : x1_2.length ≤ co31 := (Kd.V_reads' HO_1.out).2.1
              have hC30 : Kd.F (Kd.int .u8) _ _ Ao31 x1_2.length x1_2 := (Kd.V_at (base := w.heap.size) HO_1.out).2.2
              have hcut30 := ecc_Unpack.cut_to3 (P := Try.prog) 26 5 .i64 Try.underlying26 hi030 Ao31 x1_2.length co31 a0_3 (of_decide_eq_true (by first | (with_reducible assumption) | assumption)) q30 hroom30
              have hr30 := Kd.F_take (m := (a0_3 : Int).toNat) hC30 (by omega)
              have hy30 : y195.length = (a0_3 : Int).toNat := (by rw [Ny195.out, List.length_take]; omega)
              rw [← Ny195.out] at hr30
              rw [← hy30] at hcut30
              have HO199 := Aside0.mk (show Kd.V (Kd.int .u8) 5 _ w.heap.size _ (.slice Ao31 y195.length y195.length) y195 from Kd.V_mk (by omega) hr30)
              have HC199 := Aside0.mk (show y195.length ≤ y195.length from by omega)
              clear hr30 hC30 hroom30 hi030 hsz30
              have KY30 := Aside0.mk hy30
              clear hy30
              replace q30 := eq_true q30
              have q32 : (t193 : Int) ≤ ((x1_2.length : Int) : Int) := of_decide_eq_true (by first | (with_reducible assumption) | assumption)
              obtain ⟨i032, hi032, _, hsz32, _⟩ := info_parts info5
              have hroom32 : x1_2.length ≤ co31 := (Kd.V_reads' HO_1.out).2.1
              have hC32 : Kd.F (Kd.int .u8) _ _ Ao31 x1_2.length x1_2 := (Kd.V_at (base := w.heap.size) HO_1.out).2.2
              have ql32 : (a0_3 : Int) ≤ (t193 : Int) := of_decide_eq_true (by first | (with_reducible assumption) | assumption)
              have q032 : (0 : Int) ≤ (a0_3 : Int) := of_decide_eq_true (by first | (with_reducible assumption) | assumption)
              have hcut32 := ecc_Unpack.cut_mid3 (P := Try.prog) 26 5 .i64 .i64 Try.underlying26 hi032 1 hsz32 Ao31 x1_2.length co31 a0_3 t193 q032 ql32 q32 hroom32
              have hr32 := Kd.F_cut (m := (a0_3 : Int).toNat) (c := (t193 : Int).toNat) (Kd.F_take (m := (t193 : Int).toNat) hC32 (by omega)) (by rw [List.length_take]; omega) (by rw [List.length_take]; omega)
              obtain ⟨A32, hA32⟩ : ∃ A1, A1 = (if (t193 : Int).toNat = (a0_3 : Int).toNat then Ao31 else (Ao31 : Option Addr).map (·.add ((a0_3 : Int).toNat * 1))) := ⟨_, rfl⟩
              have hy32 : y200.length = (t193 : Int).toNat - (a0_3 : Int).toNat := (by rw [Ny200.out, List.length_drop, List.length_take] <;> omega)
              rw [show ((x1_2).take (t193 : Int).toNat).drop (a0_3 : Int).toNat = y200 from Ny200.out.symm] at hr32
              replace hr32 : Kd.F (Kd.int .u8) _ _ A32 y200.length y200 := (by rw [hA32]; exact hr32)
              rw [← hy32, ← hA32] at hcut32
              have HO204 := Aside0.mk (show Kd.V (Kd.int .u8) 5 _ w.heap.size _ (.slice A32 y200.length y200.length) y200 from Kd.V_mk (Nat.le_refl _) hr32)
              have HC204 := Aside0.mk (show y200.length ≤ y200.length from Nat.le_refl _)
              clear hr32 hC32 hroom32 hi032 hsz32
              have KY32 := Aside0.mk hy32
              have KA32 := Aside0.mk hA32
              clear hy32 hA32
              replace q32 := eq_true q32
              refine start_ (n := 26) (S := fun w' => w'.cell? ⟨gb189, 0, none⟩ = some (.int .i64 a0_0) ∧ w'.cell? ⟨gb189, 1, none⟩ = some (.int .i64 a0_1) ∧ w'.cell? ⟨gb189, 2, none⟩ = some (.int .i64 a0_2) ∧ w'.cell? ⟨gb189, 3, none⟩ = some (.int .i64 a0_3) ∧ w'.cell? ⟨gb189, 4, none⟩ = some (.int .i64 a0_4)) (ds := []) #[false, false, false, false, false, false, false, false, false, false, false, false, false, false, false, false, false, false, false, false, false, false, false, false, false, false] (by kernel_rfl) rfl rfl ⟨(blk_cell BK189.out 0).trans rfl, (blk_cell BK189.out 1).trans rfl, (blk_cell BK189.out 2).trans rfl, (blk_cell BK189.out 3).trans rfl, (blk_cell BK189.out 4).trans rfl⟩ (fun hHeld => ?_); refine with_tabW ecc_Unpack.tab12 ecc_Unpack.bits12 (fun HT_ HW_ => ?_)
              generalize w28.drew = w29 at HO_1 HO_9 BK189 BK194 HB HO199 HO204 hHeld ⊢
              refine pure_ (i := 0) (N := some 38) (v := ?_) (a' := ?_) #[true, false, false, false, false, false, false, false, false, false, false, false, false, false, false, false, false, false, false, false, false, false, false, false, false, false] rfl rfl (any_of HT_.out (by kernel_rfl)) (fun _ _ _ h => h) (Or.inl ⟨by rfl, ?_⟩) ?_ ?_
              rotate_left; (intro w'; go_simp; with_reducible rfl)
              rotate_left; (simp only [Act.put, List.setIfInBounds_toArray, List.set_cons_zero, List.set_cons_succ, i64_w, i32_w]; rfl)
              refine pure_ (i := 2) (N := some 40) (v := ?_) (a' := ?_) #[true, false, true, false, false, false, false, false, false, false, false, false, false, false, false, false, false, false, false, false, false, false, false, false, false, false] rfl rfl (any_of HT_.out (by kernel_rfl)) (fun _ _ _ h => h) (Or.inl ⟨by rfl, ?_⟩) ?_ ?_
              rotate_left; (intro w'; go_simp; with_reducible rfl)
              rotate_left; (simp only [Act.put, List.setIfInBounds_toArray, List.set_cons_zero, List.set_cons_succ, i64_w, i32_w]; rfl)
              refine pure_ (i := 3) (N := some 41) (v := ?_) (a' := ?_) #[true, false, true, true, false, false, false, false, false, false, false, false, false, false, false, false, false, false, false, false, false, false, false, false, false, false] rfl rfl (any_of HT_.out (by kernel_rfl)) (fun _ _ _ h => h) (Or.inl ⟨by rfl, ?_⟩) ?_ ?_
              rotate_left; (intro w'; go_simp; with_reducible rfl)
              rotate_left; (simp only [Act.put, List.setIfInBounds_toArray, List.set_cons_zero, List.set_cons_succ, i64_w, i32_w]; rfl)
              refine pure_ (i := 5) (N := some 43) (v := ?_) (a' := ?_) #[true, false, true, true, false, true, false, false, false, false, false, false, false, false, false, false, false, false, false, false, false, false, false, false, false, false] rfl rfl (any_of HT_.out (by kernel_rfl)) (fun _ _ _ h => h) (Or.inl ⟨by rfl, ?_⟩) ?_ ?_
              rotate_left; (intro w'; go_simp; with_reducible rfl)
              rotate_left; (simp only [Act.put, List.setIfInBounds_toArray, List.set_cons_zero, List.set_cons_succ, i64_w, i32_w]; rfl)
              refine pure_ (i := 8) (N := some 46) (v := ?_) (a' := ?_) #[true, false, true, true, false, true, false, false, true, false, false, false, false, false, false, false, false, false, false, false, false, false, false, false, false, false] rfl rfl (any_of HT_.out (by kernel_rfl)) (fun _ _ _ h => h) (Or.inl ⟨by rfl, ?_⟩) ?_ ?_
              rotate_left; (intro w'; go_simp; with_reducible rfl)
              rotate_left; (simp only [Act.put, List.setIfInBounds_toArray, List.set_cons_zero, List.set_cons_succ, i64_w, i32_w]; rfl)
              refine pure_ (i := 9) (N := some 47) (v := ?_) (a' := ?_) #[true, false, true, true, false, true, false, false, true, true, false, false, false, false, false, false, false, false, false, false, false, false, false, false, false, false] rfl rfl (any_of HT_.out (by kernel_rfl)) (fun _ _ _ h => h) (Or.inl ⟨by rfl, ?_⟩) ?_ ?_
              rotate_left; (intro w'; go_simp; with_reducible rfl)
              rotate_left; (simp only [Act.put, List.setIfInBounds_toArray, List.set_cons_zero, List.set_cons_succ, i64_w, i32_w]; rfl)
              refine pure_ (i := 11) (N := some 49) (v := ?_) (a' := ?_) #[true, false, true, true, false, true, false, false, true, true, false, true, false, false, false, false, false, false, false, false, false, false, false, false, false, false] rfl rfl (any_of HT_.out (by kernel_rfl)) (fun _ _ _ h => h) (Or.inl ⟨by rfl, ?_⟩) ?_ ?_
              rotate_left; (intro w'; go_simp; with_reducible rfl)
              rotate_left; (simp only [Act.put, List.setIfInBounds_toArray, List.set_cons_zero, List.set_cons_succ, i64_w, i32_w]; rfl)
              refine pure_ (i := 12) (N := some 50) (v := ?_) (a' := ?_) #[true, false, true, true, false, true, false, false, true, true, false, true, true, false, false, false, false, false, false, false, false, false, false, false, false, false] rfl rfl (any_of HT_.out (by kernel_rfl)) (fun _ _ _ h => h) (Or.inl ⟨by rfl, ?_⟩) ?_ ?_
              rotate_left; (intro w'; go_simp; with_reducible rfl)
              rotate_left; (simp only [Act.put, List.setIfInBounds_toArray, List.set_cons_zero, List.set_cons_succ, i64_w, i32_w]; rfl)
              refine take_ (i := 1) (N := some 39) (v := ?_) (a' := ?_) #[true, true, true, true, false, true, false, false, true, true, false, true, true, false, false, false, false, false, false, false, false, false, false, false, false, false] rfl rfl (take_ofW HT_.out HW_.out (by kernel_rfl)) (fun _ _ _ h => h) (Or.inl ⟨by rfl, ?_⟩) hHeld ?_ ?_
              rotate_left; (rintro w' ⟨s0, s1, s2, s3, s4⟩; go_simp; with_reducible rfl)
              rotate_left; (simp only [Act.put, List.setIfInBounds_toArray, List.set_cons_zero, List.set_cons_succ, i64_w, i32_w]; rfl)
              refine take_ (i := 4) (N := some 42) (v := ?_) (a' := ?_) #[true, true, true, true, true, true, false, false, true, true, false, true, true, false, false, false, false, false, false, false, false, false, false, false, false, false] rfl rfl (take_ofW HT_.out HW_.out (by kernel_rfl)) (fun _ _ _ h => h) (Or.inl ⟨by rfl, ?_⟩) hHeld ?_ ?_
              rotate_left; (rintro w' ⟨s0, s1, s2, s3, s4⟩; go_simp; with_reducible rfl)
              rotate_left; (simp only [Act.put, List.setIfInBounds_toArray, List.set_cons_zero, List.set_cons_succ, i64_w, i32_w]; rfl)
              refine take_ (i := 6) (N := some 44) (v := ?_) (a' := ?_) #[true, true, true, true, true, true, true, false, true, true, false, true, true, false, false, false, false, false, false, false, false, false, false, false, false, false] rfl rfl (take_ofW HT_.out HW_.out (by kernel_rfl)) (fun _ _ _ h => h) (Or.inl ⟨by rfl, ?_⟩) hHeld ?_ ?_
              rotate_left; (rintro w' ⟨s0, s1, s2, s3, s4⟩; go_simp; with_reducible rfl)
              rotate_left; (simp only [Act.put, List.setIfInBounds_toArray, List.set_cons_zero, List.set_cons_succ, i64_w, i32_w]; rfl)
              refine pure_ (i := 7) (N := some 45) (v := ?_) (a' := ?_) #[true, true, true, true, true, true, true, true, true, true, false, true, true, false, false, false, false, false, false, false, false, false, false, false, false, false] rfl rfl (any_of HT_.out (by kernel_rfl)) (fun _ _ _ h => h) (Or.inl ⟨by rfl, ?_⟩) ?_ ?_
              rotate_left; (intro w'; go_simp; with_reducible rfl)
              rotate_left; (simp only [Act.put, List.setIfInBounds_toArray, List.set_cons_zero, List.set_cons_succ, i64_w, i32_w]; rfl)
              refine take_ (i := 10) (N := some 48) (v := ?_) (a' := ?_) #[true, true, true, true, true, true, true, true, true, true, true, true, true, false, false, false, false, false, false, false, false, false, false, false, false, false] rfl rfl (take_ofW HT_.out HW_.out (by kernel_rfl)) (fun _ _ _ h => h) (Or.inl ⟨by rfl, ?_⟩) hHeld ?_ ?_
              rotate_left; (rintro w' ⟨s0, s1, s2, s3, s4⟩; go_simp; with_reducible rfl)
              rotate_left; (simp only [Act.put, List.setIfInBounds_toArray, List.set_cons_zero, List.set_cons_succ, i64_w, i32_w]; rfl)
              refine pure_ (i := 13) (N := some 51) (v := ?_) (a' := ?_) #[true, true, true, true, true, true, true, true, true, true, true, true, true, true, false, false, false, false, false, false, false, false, false, false, false, false] rfl rfl (any_of HT_.out (by kernel_rfl)) (fun _ _ _ h => h) (Or.inl ⟨by rfl, ?_⟩) ?_ ?_
              rotate_left; (intro w'; go_simp; with_reducible rfl)
              rotate_left; (simp only [Act.put, List.setIfInBounds_toArray, List.set_cons_zero, List.set_cons_succ, i64_w, i32_w]; rfl)
              refine one_ (i := 14) (N := some 52) #[true, true, true, true, true, true, true, true, true, true, true, true, true, true, true, false, false, false, false, false, false, false, false, false, false, false] rfl rfl (one_of HT_.out (by kernel_rfl)) (by decide) (fun K hK => ?_)
              refine goes_ Try.func28 (by kernel_rfl) rfl #[.int .i64 a0_4, .slice Ao31 y195.length y195.length, .slice A32 y200.length y200.length] (by rfl) rfl rfl (by (try simp only [List.map_toArray, List.map_cons, List.map_nil]); first | done | rfl | (simp only [List.length_drop, List.length_take]; rfl)) ?_
              with_reducible refine (bch_Decode.calls k2 a0_4 _ _ y195 _ _ y200 t205 t206 t207 t208 _ ?side1 ?side2 ?side3 ?side4 A22.out).mono ?_
              (case side1 => repeat (first | exact (Kd.V_reads' HO199.out).2.2 | (with_reducible refine Kd.C_alloc ?_ _) | (with_reducible refine Kd.C_drewN ?_ _) | (with_reducible refine Kd.C_drew ?_)))
              (case side2 => exact (Kd.V_reads' HO199.out).2.1)
              (case side3 => repeat (first | exact (Kd.V_reads' HO204.out).2.2 | (with_reducible refine Kd.C_alloc ?_ _) | (with_reducible refine Kd.C_drewN ?_ _) | (with_reducible refine Kd.C_drew ?_)))
              (case side4 => exact (Kd.V_reads' HO204.out).2.1)
              rintro e w33 ⟨v209, v211, rfl, ho0, ho1, hb⟩
              refine ⟨_, rfl, ?_⟩
              have n0_ := Aside0.mk (Kd.V_mono (Kd.V_told (Kd.V_told (Kd.V_old (uV HO_1.out) hb) (Kd.R_base ho0)) (Kd.R_base ho1)) (fun _ h_ => h_.1))
              have n1_ := Aside0.mk (Kd.S_mono (Kd.S_told (Kd.S_told (Kd.S_old (uS HO_9.out) hb) (Kd.R_base ho0)) (Kd.R_base ho1)) (fun _ h_ => h_.1))
              have n2_ := Aside0.mk (Kd.V_mono (Kd.V_told (Kd.V_told (Kd.V_old (uV HO199.out) hb) (Kd.R_base ho0)) (Kd.R_base ho1)) (fun _ h_ => h_.1))
              have n3_ := Aside0.mk (Kd.V_mono (Kd.V_told (Kd.V_told (Kd.V_old (uV HO204.out) hb) (Kd.R_base ho0)) (Kd.R_base ho1)) (fun _ h_ => h_.1))
              have n4_ := Aside0.mk (Kd.R_lower (Kd.R_newM (M := fun k_ => (w.heap.size ≤ k_)) ho0 (below_size (uB HB.out)) (fun k_ h_ => h_)) (below_size (uB HB.out)))
              have n5_ := Aside0.mk (Kd.R_lower (Kd.R_newM (M := fun k_ => (w.heap.size ≤ k_)) ho1 (below_size (uB HB.out)) (fun k_ h_ => h_)) (below_size (uB HB.out)))
              have n6_ := Aside0.mk (blk_below (g := gb189) (o := .cells #[.int .i64 a0_0, .int .i64 a0_1, .int .i64 a0_2, .int .i64 a0_3, .int .i64 a0_4] 23 (0, 0)) (uK BK189.out) hb)
              have n7_ := Aside0.mk (blk_below (g := gb194) (o := .cells #[.slice none 0 0, .int .i64 0, .int .i64 0] 39 (0, 0)) (uK BK194.out) hb)
              have n8_ := Aside0.mk (below_step (uB HB.out) hb)
              clear HO_1
              clear HO_9
              clear HO199
              clear HO204
              clear BK189
              clear BK194
              clear HB
              have HO_1 := n0_
              have HO_9 := n1_
              have HO199 := n2_
              have HO204 := n3_
              have HO210 := n4_
              have HO212 := n5_
              have BK189 := n6_
              have BK194 := n7_
              have HB := n8_
              clear n0_ n1_ n2_ n3_ n4_ n5_ n6_ n7_ n8_
              (try clear hb)
              (try clear hb2)
              (try clear hk)
              (try clear hi)
              (try clear ho0)
              (try clear ho1)
              obtain ⟨Ao34, co34, eo34⟩ := Kd.R_slice HO210.out
              (first | subst eo34 | (injection eo34 with f1_ f2_ f3_; have f4_ := f1_.symm; have f5_ := f3_.symm; clear f1_ f2_ f3_; subst f4_; subst f5_))
              refine hK.out _ _ ⟨(blk_cell BK189.out 0).trans rfl, (blk_cell BK189.out 1).trans rfl, (blk_cell BK189.out 2).trans rfl, (blk_cell BK189.out 3).trans rfl, (blk_cell BK189.out 4).trans rfl⟩ (fun hHeld => ?_)
              clear hK K
              refine norm_ (a' := ?_) ?_ ?_
              rotate_left
              ·show Act.put _ (some 52) _ = _
               simp only [Act.put, List.setIfInBounds_toArray, List.set_cons_zero, List.set_cons_succ, i64_w, i32_w]
               rfl
              refine pure_ (i := 15) (N := some 37) (v := ?_) (a' := ?_) #[true, true, true, true, true, true, true, true, true, true, true, true, true, true, true, true, false, false, false, false, false, false, false, false, false, false] rfl rfl (any_of HT_.out (by kernel_rfl)) (fun _ _ _ h => h) (Or.inl ⟨by rfl, ?_⟩) ?_ ?_
              rotate_left; (intro w'; go_simp; with_reducible rfl)
              rotate_left; (simp only [Act.put, List.setIfInBounds_toArray, List.set_cons_zero, List.set_cons_succ, i64_w, i32_w]; rfl)
              refine pure_ (i := 16) (N := some 53) (v := ?_) (a' := ?_) #[true, true, true, true, true, true, true, true, true, true, true, true, true, true, true, true, true, false, false, false, false, false, false, false, false, false] rfl rfl (any_of HT_.out (by kernel_rfl)) (fun _ _ _ h => h) (Or.inl ⟨by rfl, ?_⟩) ?_ ?_
              rotate_left; (intro w'; go_simp; with_reducible rfl)
              rotate_left; (simp only [Act.put, List.setIfInBounds_toArray, List.set_cons_zero, List.set_cons_succ, i64_w, i32_w]; rfl)
              refine pure_ (i := 17) (N := some 54) (v := ?_) (a' := ?_) #[true, true, true, true, true, true, true, true, true, true, true, true, true, true, true, true, true, true, false, false, false, false, false, false, false, false] rfl rfl (any_of HT_.out (by kernel_rfl)) (fun _ _ _ h => h) (Or.inl ⟨by rfl, ?_⟩) ?_ ?_
              rotate_left; (intro w'; go_simp; with_reducible rfl)
              rotate_left; (simp only [Act.put, List.setIfInBounds_toArray, List.set_cons_zero, List.set_cons_succ, i64_w, i32_w]; rfl)
              refine pure_ (i := 18) (N := some 55) (v := ?_) (a' := ?_) #[true, true, true, true, true, true, true, true, true, true, true, true, true, true, true, true, true, true, true, false, false, false, false, false, false, false] rfl rfl (any_of HT_.out (by kernel_rfl)) (fun _ _ _ h => h) (Or.inl ⟨by rfl, ?_⟩) ?_ ?_
              rotate_left; (intro w'; go_simp; with_reducible rfl)
              rotate_left; (simp only [Act.put, List.setIfInBounds_toArray, List.set_cons_zero, List.set_cons_succ, i64_w, i32_w]; rfl)
              refine pure_ (i := 19) (N := some 56) (v := ?_) (a' := ?_) #[true, true, true, true, true, true, true, true, true, true, true, true, true, true, true, true, true, true, true, true, false, false, false, false, false, false] rfl rfl (any_of HT_.out (by kernel_rfl)) (fun _ _ _ h => h) (Or.inl ⟨by rfl, ?_⟩) ?_ ?_
              rotate_left; (intro w'; go_simp; with_reducible rfl)
              rotate_left; (simp only [Act.put, List.setIfInBounds_toArray, List.set_cons_zero, List.set_cons_succ, i64_w, i32_w]; rfl)
              refine pure_ (i := 20) (N := some 57) (v := ?_) (a' := ?_) #[true, true, true, true, true, true, true, true, true, true, true, true, true, true, true, true, true, true, true, true, true, false, false, false, false, false] rfl rfl (any_of HT_.out (by kernel_rfl)) (fun _ _ _ h => h) (Or.inl ⟨by rfl, ?_⟩) ?_ ?_
              rotate_left; (intro w'; go_simp; with_reducible rfl)
              rotate_left; (simp only [Act.put, List.setIfInBounds_toArray, List.set_cons_zero, List.set_cons_succ, i64_w, i32_w]; rfl)
              refine one_ (i := 21) (N := none) #[true, true, true, true, true, true, true, true, true, true, true, true, true, true, true, true, true, true, true, true, true, true, false, false, false, false] rfl rfl (one_of HT_.out (by kernel_rfl)) (by decide) (fun K hK => ?_)
              have hs35 : w33.cell? ⟨gb194, 0, none⟩ = some (.slice none 0 0) := (blk_cell BK194.out 0).trans rfl
              have hfs35 := blk_frozen BK194.out 0
              have hns35_0 := NB189_194.out
              have hms35_0 := NB194_189.out
              refine skip_ (w1 := ?_) (by rfl) rfl ?_ ?_
              rotate_left
              ·go_simp
               rfl
              refine hK.out _ _ ⟨((cell_far (p := ⟨gb194, _, none⟩) NB189_194.out _).trans (hHeld.1)), ((cell_far (p := ⟨gb194, _, none⟩) NB189_194.out _).trans (hHeld.2.1)), ((cell_far (p := ⟨gb194, _, none⟩) NB189_194.out _).trans (hHeld.2.2.1)), ((cell_far (p := ⟨gb194, _, none⟩) NB189_194.out _).trans (hHeld.2.2.2.1)), ((cell_far (p := ⟨gb194, _, none⟩) NB189_194.out _).trans (hHeld.2.2.2.2))⟩ (fun hHeld => ?_)
              clear hK K
              refine pure_ (i := 22) (N := some 58) (v := ?_) (a' := ?_) #[true, true, true, true, true, true, true, true, true, true, true, true, true, true, true, true, true, true, true, true, true, true, true, false, false, false] rfl rfl (any_of HT_.out (by kernel_rfl)) (fun _ _ _ h => h) (Or.inl ⟨by rfl, ?_⟩) ?_ ?_
              rotate_left; (intro w'; go_simp; with_reducible rfl)
              rotate_left; (simp only [Act.put, List.setIfInBounds_toArray, List.set_cons_zero, List.set_cons_succ, i64_w, i32_w]; rfl)
              refine one_ (i := 23) (N := none) #[true, true, true, true, true, true, true, true, true, true, true, true, true, true, true, true, true, true, true, true, true, true, true, true, false, false] rfl rfl (one_of HT_.out (by kernel_rfl)) (by decide) (fun K hK => ?_)
              have hs36 : w33.cell? ⟨gb194, 1, none⟩ = some (.int .i64 0) := (blk_cell BK194.out 1).trans rfl
              have hfs36 := blk_frozen BK194.out 1
              have hns36_0 := NB189_194.out
              have hms36_0 := NB194_189.out
              refine skip_ (w1 := ?_) (by rfl) rfl ?_ ?_
              rotate_left
              ·go_simp
               rfl
              refine hK.out _ _ ⟨((cell_far (p := ⟨gb194, _, none⟩) NB189_194.out _).trans (hHeld.1)), ((cell_far (p := ⟨gb194, _, none⟩) NB189_194.out _).trans (hHeld.2.1)), ((cell_far (p := ⟨gb194, _, none⟩) NB189_194.out _).trans (hHeld.2.2.1)), ((cell_far (p := ⟨gb194, _, none⟩) NB189_194.out _).trans (hHeld.2.2.2.1)), ((cell_far (p := ⟨gb194, _, none⟩) NB189_194.out _).trans (hHeld.2.2.2.2))⟩ (fun hHeld => ?_)
              clear hK K
              refine pure_ (i := 24) (N := some 59) (v := ?_) (a' := ?_) #[true, true, true, true, true, true, true, true, true, true, true, true, true, true, true, true, true, true, true, true, true, true, true, true, true, false] rfl rfl (any_of HT_.out (by kernel_rfl)) (fun _ _ _ h => h) (Or.inl ⟨by rfl, ?_⟩) ?_ ?_
              rotate_left; (intro w'; go_simp; with_reducible rfl)
              rotate_left; (simp only [Act.put, List.setIfInBounds_toArray, List.set_cons_zero, List.set_cons_succ, i64_w, i32_w]; rfl)
              refine one_ (i := 25) (N := none) #[true, true, true, true, true, true, true, true, true, true, true, true, true, true, true, true, true, true, true, true, true, true, true, true, true, true] rfl rfl (one_of HT_.out (by kernel_rfl)) (by decide) (fun K hK => ?_)
              have hs37 : w33.cell? ⟨gb194, 2, none⟩ = some (.int .i64 0) := (blk_cell BK194.out 2).trans rfl
              have hfs37 := blk_frozen BK194.out 2
              have hns37_0 := NB189_194.out
              have hms37_0 := NB194_189.out
              refine skip_ (w1 := ?_) (by rfl) rfl ?_ ?_
              rotate_left
              ·go_simp
               rfl
              refine hK.out _ _ ⟨((cell_far (p := ⟨gb194, _, none⟩) NB189_194.out _).trans (hHeld.1)), ((cell_far (p := ⟨gb194, _, none⟩) NB189_194.out _).trans (hHeld.2.1)), ((cell_far (p := ⟨gb194, _, none⟩) NB189_194.out _).trans (hHeld.2.2.1)), ((cell_far (p := ⟨gb194, _, none⟩) NB189_194.out _).trans (hHeld.2.2.2.1)), ((cell_far (p := ⟨gb194, _, none⟩) NB189_194.out _).trans (hHeld.2.2.2.2))⟩ (fun hHeld => ?_)
              clear hK K
              refine done_ (done_of HT_.out (by kernel_rfl)) ?_
              have n0_ : Aside0 (Kd.V (Kd.int .u8) 5 (((w33.setCell ⟨gb194, 0, none⟩ (.slice Ao34 t205.length co34)).setCell ⟨gb194, 1, none⟩ (.int .i64 t207)).setCell ⟨gb194, 2, none⟩ (.int .i64 t208)) w.heap.size (fun k_ => (P1_ k_ ∨ w.heap.size ≤ k_) ∧ some k_ ≠ (u9 : Value).ownBlock ∧ some k_ ≠ (.slice Ao34 t205.length co34 : Value).ownBlock ∧ some k_ ≠ (v211 : Value).ownBlock ∧ k_ ≠ gb189 ∧ k_ ≠ gb194) (.slice Ao31 x1_2.length co31) x1_2) := ⟨by (with_reducible repeat (first | apply Kd.V_alloc | apply Kd.V_drewN | apply Kd.V_drew)); exact Kd.V_mono (Kd.V_far (p := ⟨gb194, 2, none⟩) (Kd.V_far (p := ⟨gb194, 1, none⟩) (Kd.V_far (p := ⟨gb194, 0, none⟩) (Kd.V_mono HO_1.out (fun k_ hk => (⟨hk, hk.1.1.2⟩ : _ ∧ k_ ≠ gb194))) (fun _ hk => hk.2) (.slice Ao34 t205.length co34)) (fun _ hk => hk.2) (.int .i64 t207)) (fun _ hk => hk.2) (.int .i64 t208)) (fun _ hk => ⟨hk.1.1.1.1.1, ⟨hk.1.1.1.1.2.1, ⟨hk.1.1.2, ⟨hk.1.2, ⟨hk.1.1.1.1.2.2, hk.1.1.1.2⟩⟩⟩⟩⟩)⟩
              have n1_ : Aside0 (Kd.S k39 39 (((w33.setCell ⟨gb194, 0, none⟩ (.slice Ao34 t205.length co34)).setCell ⟨gb194, 1, none⟩ (.int .i64 t207)).setCell ⟨gb194, 2, none⟩ (.int .i64 t208)) w.heap.size (fun k_ => (w.heap.size ≤ k_) ∧ some k_ ≠ (.slice Ao34 t205.length co34 : Value).ownBlock ∧ some k_ ≠ (v211 : Value).ownBlock ∧ k_ ≠ gb194) u9 x9_2) := ⟨by (with_reducible repeat (first | apply Kd.S_alloc | apply Kd.S_drewN | apply Kd.S_drew)); exact Kd.S_mono (Kd.S_far (p := ⟨gb194, 2, none⟩) (Kd.S_far (p := ⟨gb194, 1, none⟩) (Kd.S_far (p := ⟨gb194, 0, none⟩) (Kd.S_mono HO_9.out (fun k_ hk => (⟨hk, hk.1.1.2⟩ : _ ∧ k_ ≠ gb194))) (fun _ hk => hk.2) (.slice Ao34 t205.length co34)) (fun _ hk => hk.2) (.int .i64 t207)) (fun _ hk => hk.2) (.int .i64 t208)) (fun _ hk => ⟨hk.1.1.1.1, ⟨hk.1.1.2, ⟨hk.1.2, hk.1.1.1.2⟩⟩⟩)⟩
              have n2_ : Aside0 (Kd.V (Kd.int .u8) 5 (((w33.setCell ⟨gb194, 0, none⟩ (.slice Ao34 t205.length co34)).setCell ⟨gb194, 1, none⟩ (.int .i64 t207)).setCell ⟨gb194, 2, none⟩ (.int .i64 t208)) w.heap.size (fun k_ => (P1_ k_ ∨ w.heap.size ≤ k_) ∧ some k_ ≠ (u9 : Value).ownBlock ∧ some k_ ≠ (.slice Ao34 t205.length co34 : Value).ownBlock ∧ some k_ ≠ (v211 : Value).ownBlock ∧ k_ ≠ gb189 ∧ k_ ≠ gb194) (.slice Ao31 y195.length y195.length) y195) := ⟨by (with_reducible repeat (first | apply Kd.V_alloc | apply Kd.V_drewN | apply Kd.V_drew)); exact Kd.V_mono (Kd.V_far (p := ⟨gb194, 2, none⟩) (Kd.V_far (p := ⟨gb194, 1, none⟩) (Kd.V_far (p := ⟨gb194, 0, none⟩) (Kd.V_mono HO199.out (fun k_ hk => (⟨hk, hk.1.1.2⟩ : _ ∧ k_ ≠ gb194))) (fun _ hk => hk.2) (.slice Ao34 t205.length co34)) (fun _ hk => hk.2) (.int .i64 t207)) (fun _ hk => hk.2) (.int .i64 t208)) (fun _ hk => ⟨hk.1.1.1.1.1, ⟨hk.1.1.1.1.2.1, ⟨hk.1.1.2, ⟨hk.1.2, ⟨hk.1.1.1.1.2.2, hk.1.1.1.2⟩⟩⟩⟩⟩)⟩
              have n3_ : Aside0 (Kd.V (Kd.int .u8) 5 (((w33.setCell ⟨gb194, 0, none⟩ (.slice Ao34 t205.length co34)).setCell ⟨gb194, 1, none⟩ (.int .i64 t207)).setCell ⟨gb194, 2, none⟩ (.int .i64 t208)) w.heap.size (fun k_ => (P1_ k_ ∨ w.heap.size ≤ k_) ∧ some k_ ≠ (u9 : Value).ownBlock ∧ some k_ ≠ (.slice Ao34 t205.length co34 : Value).ownBlock ∧ some k_ ≠ (v211 : Value).ownBlock ∧ k_ ≠ gb189 ∧ k_ ≠ gb194) (.slice A32 y200.length y200.length) y200) := ⟨by (with_reducible repeat (first | apply Kd.V_alloc | apply Kd.V_drewN | apply Kd.V_drew)); exact Kd.V_mono (Kd.V_far (p := ⟨gb194, 2, none⟩) (Kd.V_far (p := ⟨gb194, 1, none⟩) (Kd.V_far (p := ⟨gb194, 0, none⟩) (Kd.V_mono HO204.out (fun k_ hk => (⟨hk, hk.1.1.2⟩ : _ ∧ k_ ≠ gb194))) (fun _ hk => hk.2) (.slice Ao34 t205.length co34)) (fun _ hk => hk.2) (.int .i64 t207)) (fun _ hk => hk.2) (.int .i64 t208)) (fun _ hk => ⟨hk.1.1.1.1.1, ⟨hk.1.1.1.1.2.1, ⟨hk.1.1.2, ⟨hk.1.2, ⟨hk.1.1.1.1.2.2, hk.1.1.1.2⟩⟩⟩⟩⟩)⟩
              have n4_ : Aside0 (Kd.R (Kd.int .u8) 5 (((w33.setCell ⟨gb194, 0, none⟩ (.slice Ao34 t205.length co34)).setCell ⟨gb194, 1, none⟩ (.int .i64 t207)).setCell ⟨gb194, 2, none⟩ (.int .i64 t208)) w.heap.size (fun k_ => (w.heap.size ≤ k_) ∧ some k_ ≠ (v211 : Value).ownBlock) (.slice Ao34 t205.length co34) t205) := ⟨by (with_reducible repeat (first | apply Kd.R_alloc | apply Kd.R_drewN | apply Kd.R_drew)); exact Kd.R_mono (Kd.R_far (p := ⟨gb194, 2, none⟩) (Kd.R_far (p := ⟨gb194, 1, none⟩) (Kd.R_far (p := ⟨gb194, 0, none⟩) (Kd.R_types HO210.out BK194.out (by decide)) (fun _ hk => hk.2) (.slice Ao34 t205.length co34)) (fun _ hk => hk.2) (.int .i64 t207)) (fun _ hk => hk.2) (.int .i64 t208)) (fun _ hk => ⟨hk.1.1, hk.1.2⟩)⟩
              have n5_ : Aside0 (Kd.R (Kd.int .u8) 5 (((w33.setCell ⟨gb194, 0, none⟩ (.slice Ao34 t205.length co34)).setCell ⟨gb194, 1, none⟩ (.int .i64 t207)).setCell ⟨gb194, 2, none⟩ (.int .i64 t208)) w.heap.size (fun k_ => (w.heap.size ≤ k_) ∧ some k_ ≠ (.slice Ao34 t205.length co34 : Value).ownBlock) v211 t206) := ⟨by (with_reducible repeat (first | apply Kd.R_alloc | apply Kd.R_drewN | apply Kd.R_drew)); exact Kd.R_mono (Kd.R_far (p := ⟨gb194, 2, none⟩) (Kd.R_far (p := ⟨gb194, 1, none⟩) (Kd.R_far (p := ⟨gb194, 0, none⟩) (Kd.R_types HO212.out BK194.out (by decide)) (fun _ hk => hk.2) (.slice Ao34 t205.length co34)) (fun _ hk => hk.2) (.int .i64 t207)) (fun _ hk => hk.2) (.int .i64 t208)) (fun _ hk => ⟨hk.1.1, hk.1.2⟩)⟩
              have n6_ : Aside0 ((((w33.setCell ⟨gb194, 0, none⟩ (.slice Ao34 t205.length co34)).setCell ⟨gb194, 1, none⟩ (.int .i64 t207)).setCell ⟨gb194, 2, none⟩ (.int .i64 t208)).heap[gb189]? = some (.cells #[.int .i64 a0_0, .int .i64 a0_1, .int .i64 a0_2, .int .i64 a0_3, .int .i64 a0_4] 23 (0, 0))) := ⟨by (with_reducible repeat (first | refine blk_drewN ?_ _ | refine blk_drew ?_ | refine blk_alloc ?_ _)); refine blk_far ?_ NB189_194.out _; (with_reducible repeat (first | refine blk_drewN ?_ _ | refine blk_drew ?_ | refine blk_alloc ?_ _)); refine blk_far ?_ NB189_194.out _; (with_reducible repeat (first | refine blk_drewN ?_ _ | refine blk_drew ?_ | refine blk_alloc ?_ _)); refine blk_far ?_ NB189_194.out _; (with_reducible repeat (first | refine blk_drewN ?_ _ | refine blk_drew ?_ | refine blk_alloc ?_ _)); exact BK189.out⟩
              have n7_ : Aside0 ((((w33.setCell ⟨gb194, 0, none⟩ (.slice Ao34 t205.length co34)).setCell ⟨gb194, 1, none⟩ (.int .i64 t207)).setCell ⟨gb194, 2, none⟩ (.int .i64 t208)).heap[gb194]? = some (.cells #[.slice Ao34 t205.length co34, .int .i64 t207, .int .i64 t208] 39 (0, 0))) := ⟨by (with_reducible repeat (first | refine blk_drewN ?_ _ | refine blk_drew ?_ | refine blk_alloc ?_ _)); refine blk_put (cs := #[.slice Ao34 t205.length co34, .int .i64 t207, .int .i64 0]) ?_ 2 _ rfl; (with_reducible repeat (first | refine blk_drewN ?_ _ | refine blk_drew ?_ | refine blk_alloc ?_ _)); refine blk_put (cs := #[.slice Ao34 t205.length co34, .int .i64 0, .int .i64 0]) ?_ 1 _ rfl; (with_reducible repeat (first | refine blk_drewN ?_ _ | refine blk_drew ?_ | refine blk_alloc ?_ _)); refine blk_put (cs := #[.slice none 0 0, .int .i64 0, .int .i64 0]) ?_ 0 _ rfl; (with_reducible repeat (first | refine blk_drewN ?_ _ | refine blk_drew ?_ | refine blk_alloc ?_ _)); exact BK194.out⟩
              have n8_ : Aside0 (Below w.heap.size w (((w33.setCell ⟨gb194, 0, none⟩ (.slice Ao34 t205.length co34)).setCell ⟨gb194, 1, none⟩ (.int .i64 t207)).setCell ⟨gb194, 2, none⟩ (.int .i64 t208))) := ⟨by repeat (first | (with_reducible first | exact HB.out | apply below_alloc | apply pw_below_drewN | apply below_drew1 | refine below_set ?_ GE189.out | refine below_set ?_ GE194.out) | exact HB.out)⟩
              (try clear HO_1)
              (try clear HO_9)
              (try clear HO199)
              (try clear HO204)
              (try clear HO210)
              (try clear HO212)
              (try clear BK189)
              (try clear BK194)
              (try clear HB)
              generalize (((w33.setCell ⟨gb194, 0, none⟩ (.slice Ao34 t205.length co34)).setCell ⟨gb194, 1, none⟩ (.int .i64 t207)).setCell ⟨gb194, 2, none⟩ (.int .i64 t208)) = w38 at n0_ n1_ n2_ n3_ n4_ n5_ n6_ n7_ n8_ ⊢
              have HO_1 := n0_
              have HO_9 := n1_
              have HO199 := n2_
              have HO204 := n3_
              have HO210 := n4_
              have HO212 := n5_
              have BK189 := n6_
              have BK194 := n7_
              have HB := n8_
              clear n0_ n1_ n2_ n3_ n4_ n5_ n6_ n7_ n8_
              have hnb39 := NB194_189.out
              have hnc39 := NB189_194.out
              have hcz40_0 : w38.cell? ⟨gb194, 0, none⟩ = some (.slice Ao34 t205.length co34) := (blk_cell BK194.out 0).trans rfl
              have hcz40_1 : w38.cell? ⟨gb194, 1, none⟩ = some (.int .i64 t207) := (blk_cell BK194.out 1).trans rfl
              have hcz40_2 : w38.cell? ⟨gb194, 2, none⟩ = some (.int .i64 t208) := (blk_cell BK194.out 2).trans rfl
              have hfz40_0 := blk_frozen BK194.out 0
              have hfz40_1 := blk_frozen BK194.out 1
              have hfz40_2 := blk_frozen BK194.out 2
              try go_wp2_with (first | ((with_reducible refine gate_builtin (b := .append) (xs := #[.tmp 60, .tmp 62]) rfl ?_); (try (refine gate_guard (by rfl) ?_; dsimp only)); at_builtin; refine Kd.S_append k39 (w0 := w) w.heap.size rfl (.tmp 60) (.tmp 62) 27 39 (.agg #[(.slice none 0 0), (.int .i64 0), (.int .i64 0)]) 40 rfl Try.underlying27 info39 rfl (by decide) (by omega) u9 x9_2 (⟨t205, t207, t208⟩ : S39) [.slice Ao34 t205.length co34, .int .i64 t207, .int .i64 t208] (fun k_ => (w.heap.size ≤ k_) ∧ some k_ ≠ (v211 : Value).ownBlock ∧ k_ ≠ gb194) (fun k_ => some k_ = (.slice Ao34 t205.length co34 : Value).ownBlock) rfl rfl ?aP (fun k_ hk_ => ((Kd.R_mono (ok' := fun k_ => ((fun k_ => (w.heap.size ≤ k_) ∧ some k_ ≠ (v211 : Value).ownBlock ∧ k_ ≠ gb194)) k_ ∧ some k_ ≠ (u9 : Value).ownBlock) (Kd.R_types (Kd.R_apart' (HO210.out) (Kd.S_typed HO_9.out) (by decide)) BK194.out (by decide)) (fun k_ hk => ⟨⟨hk.1.1.1, ⟨hk.1.1.2, hk.2⟩⟩, hk.1.2⟩))).1 k_ hk_.symm) ?aF ?aO ?aB ?aS ?aL ?_; (case aP => exact k39_mkM _ _ _ (⟨t205, t207, t208⟩ : S39) (Kd.R_mono (Kd.R_tight rfl (Kd.R_mono (ok' := fun k_ => ((fun k_ => (w.heap.size ≤ k_) ∧ some k_ ≠ (v211 : Value).ownBlock ∧ k_ ≠ gb194)) k_ ∧ some k_ ≠ (u9 : Value).ownBlock) (Kd.R_types (Kd.R_apart' (HO210.out) (Kd.S_typed HO_9.out) (by decide)) BK194.out (by decide)) (fun k_ hk => ⟨⟨hk.1.1.1, ⟨hk.1.1.2, hk.2⟩⟩, hk.1.2⟩))) (fun _ h_ => h_))); (case aB => exact (uB HB.out)); (case aF => exact (fun k_ hk => ⟨(Nat.le_trans (below_size (uB HB.out)) hk), Kd.fresh' (Kd.R_lt (uR HO212.out)) k_ hk, Kd.freshB (g := gb194) (o := .cells #[.slice Ao34 t205.length co34, .int .i64 t207, .int .i64 t208] 39 (0, 0)) (uK BK194.out) k_ hk⟩)); (case aO => exact (by (with_reducible repeat (first | apply Kd.S_alloc | apply Kd.S_drewN | apply Kd.S_drew)); exact Kd.S_mono HO_9.out (fun k_ hk => ⟨⟨hk.1, ⟨hk.2.2.1, hk.2.2.2⟩⟩, fun e_ => hk.2.1 e_⟩))); (case aS => exact (below_size (uB HB.out))); (case aL => have := LMc23.out; omega); intro v214 w41 ho hb hg hat; rw [← Ny213.out] at ho; have n0_ := Aside0.mk (Kd.V_afterv (ok := (fun k_ => (P1_ k_ ∨ w.heap.size ≤ k_) ∧ some k_ ≠ (.slice Ao34 t205.length co34 : Value).ownBlock ∧ some k_ ≠ (v211 : Value).ownBlock ∧ k_ ≠ gb189 ∧ k_ ≠ gb194)) (by (with_reducible repeat (first | apply Kd.V_alloc | apply Kd.V_drewN | apply Kd.V_drew)); exact Kd.V_mono HO_1.out (fun _ hk => ⟨⟨hk.1, ⟨hk.2.2.1, ⟨hk.2.2.2.1, ⟨hk.2.2.2.2.1, hk.2.2.2.2.2⟩⟩⟩⟩, hk.2.1⟩)) hg hat); have n1_ := Aside0.mk (blk_grown (g := gb189) (o := .cells #[.int .i64 a0_0, .int .i64 a0_1, .int .i64 a0_2, .int .i64 a0_3, .int .i64 a0_4] 23 (0, 0)) (uK BK189.out) hg (Kd.S_ne HO_9.out BK189.out (by decide))); have n2_ := Aside0.mk (blk_grown (g := gb194) (o := .cells #[.slice Ao34 t205.length co34, .int .i64 t207, .int .i64 t208] 39 (0, 0)) (uK BK194.out) hg (Kd.S_away HO_9.out (fun _ hk => hk.2.2.2))); have n3_ := Aside0.mk (Kd.V_afterv (ok := (fun k_ => (P1_ k_ ∨ w.heap.size ≤ k_) ∧ some k_ ≠ (.slice Ao34 t205.length co34 : Value).ownBlock ∧ some k_ ≠ (v211 : Value).ownBlock ∧ k_ ≠ gb189 ∧ k_ ≠ gb194)) (by (with_reducible repeat (first | apply Kd.V_alloc | apply Kd.V_drewN | apply Kd.V_drew)); exact Kd.V_mono HO199.out (fun _ hk => ⟨⟨hk.1, ⟨hk.2.2.1, ⟨hk.2.2.2.1, ⟨hk.2.2.2.2.1, hk.2.2.2.2.2⟩⟩⟩⟩, hk.2.1⟩)) hg hat); have n4_ := Aside0.mk (Kd.V_afterv (ok := (fun k_ => (P1_ k_ ∨ w.heap.size ≤ k_) ∧ some k_ ≠ (.slice Ao34 t205.length co34 : Value).ownBlock ∧ some k_ ≠ (v211 : Value).ownBlock ∧ k_ ≠ gb189 ∧ k_ ≠ gb194)) (by (with_reducible repeat (first | apply Kd.V_alloc | apply Kd.V_drewN | apply Kd.V_drew)); exact Kd.V_mono HO204.out (fun _ hk => ⟨⟨hk.1, ⟨hk.2.2.1, ⟨hk.2.2.2.1, ⟨hk.2.2.2.2.1, hk.2.2.2.2.2⟩⟩⟩⟩, hk.2.1⟩)) hg hat); have n5_ := Aside0.mk (Kd.R_over' (uR HO212.out) (Kd.S_typed (uS HO_9.out)) (by decide) hg); have n6_ := Aside0.mk (hb); have n7_ := Aside0.mk (ho); clear HO_1; clear BK189; clear BK194; clear HO199; clear HO204; clear HO212; clear HB; clear HO_9; clear HO210; have HO_1 := n0_; have BK189 := n1_; have BK194 := n2_; have HO199 := n3_; have HO204 := n4_; have HO212 := n5_; have HB := n6_; have HO215 := n7_; clear n0_ n1_ n2_ n3_ n4_ n5_ n6_ n7_; clear ho hb hg hat; have q42 : (t193 : Int) ≤ ((x1_2.length : Int) : Int) := of_decide_eq_true (by first | (with_reducible assumption) | assumption); obtain ⟨i042, hi042, _, hsz42, _⟩ := info_parts info5; have hroom42 : x1_2.length ≤ co31 := (Kd.V_reads' HO_1.out).2.1; have hC42 : Kd.F (Kd.int .u8) _ _ Ao31 x1_2.length x1_2 := (Kd.V_at (base := w.heap.size) HO_1.out).2.2; have q042 : (0 : Int) ≤ (t193 : Int) := of_decide_eq_true (by first | (with_reducible assumption) | assumption); have hcut42 := cut_from (P := Try.prog) 26 5 .i64 Try.underlying26 hi042 1 hsz42 Ao31 x1_2.length co31 t193 q042 q42; have hr42 := Kd.F_cut (m := (t193 : Int).toNat) (c := co31) hC42 (by omega) hroom42; obtain ⟨A42, hA42⟩ : ∃ A1, A1 = (if co31 = (t193 : Int).toNat then Ao31 else (Ao31 : Option Addr).map (·.add ((t193 : Int).toNat * 1))) := ⟨_, rfl⟩; obtain ⟨c42, hc42⟩ : ∃ c1, c1 = co31 - (t193 : Int).toNat := ⟨_, rfl⟩; have hy42 : y216.length = x1_2.length - (t193 : Int).toNat := (by rw [Ny216.out, List.length_drop] <;> omega); rw [show (x1_2).drop (t193 : Int).toNat = y216 from Ny216.out.symm] at hr42; replace hr42 : Kd.F (Kd.int .u8) _ _ A42 y216.length y216 := (by rw [hA42]; exact hr42); rw [← hy42, ← hA42, ← hc42] at hcut42; have HO220 := Aside0.mk (show Kd.V (Kd.int .u8) 5 _ w.heap.size _ (.slice A42 y216.length c42) y216 from Kd.V_mk (by rw [hy42, hc42]; exact Nat.sub_le_sub_right hroom42 _) hr42); have HC220 := Aside0.mk (show y216.length ≤ c42 from by rw [hy42, hc42]; exact Nat.sub_le_sub_right hroom42 _); clear hr42 hC42 hroom42 hi042 hsz42 hc42; have KY42 := Aside0.mk hy42; have KA42 := Aside0.mk hA42; clear hy42 hA42; replace q42 := eq_true q42))
              go_roundg k2
              case measure => have := HJ3.out; have := HK2.out; omega
              case rel => exact ⟨(y216), (y213), (wrap64 (x33_2 + 1)), (by first | rfl | (simp; done) | (simp [*]; done)), H', ⟨by have := HJ3.out; have := HK2.out; omega⟩, ⟨by (with_reducible repeat (first | apply Kd.V_alloc | apply Kd.V_drewN | apply Kd.V_drew)); exact Kd.V_mono HO220.out (fun _ hk => ⟨hk.1.1, ⟨hk.2, hk.1.2.2.2.1⟩⟩)⟩, ⟨by (with_reducible repeat (first | apply Kd.S_alloc | apply Kd.S_drewN | apply Kd.S_drew)); exact Kd.S_mono HO215.out (fun _ hk => hk.1)⟩, ⟨uK BK189.out⟩, ⟨uB HB.out⟩⟩
             ·rw [if_neg c24] at H
              exact absurd H (by simp)
            ·rw [if_neg c23] at H
             exact absurd H (by simp)
           ·rw [if_neg c21] at H
            exact absurd H (by simp)
          ·rw [if_neg c20] at H
           exact absurd H (by simp)
         ·rw [if_neg c18] at H
          exact absurd H (by simp)
        ·rw [if_neg c17] at H
         exact absurd H (by simp)
       ·rw [if_neg c15] at H
        have c15b0 : decide (x33_2 < a0_2) = false := decide_eq_false c15
        clear c15
        simp only [Option.some.injEq, Prod.mk.injEq] at H
        obtain ⟨rfl, rfl⟩ := H
        go_wp2
        go_ret2
        exact ⟨_, by first | rfl | (simp [errW_none, errW_some] <;> rfl) | (simp [*, errW_none, errW_some] <;> rfl), by (with_reducible repeat (first | apply Kd.S_alloc | apply Kd.S_drewN | apply Kd.S_drew)); exact HO_9.out, uB HB.out⟩
    ·rw [if_neg c11] at H
     have c11b0 : (t192 == 0) = false := beq_eq_false_iff_ne.mpr c11
     have c11b1 : (t192 != 0) = true := bne_iff_ne.mpr c11
     simp only [Option.some.injEq, Prod.mk.injEq] at H
     obtain ⟨rfl, rfl⟩ := H
     have hcz43_0 : wc.cell? ⟨gb189, 0, none⟩ = some (.int .i64 a0_0) := (blk_cell BK189.out 0).trans rfl
     have hcz43_1 : wc.cell? ⟨gb189, 1, none⟩ = some (.int .i64 a0_1) := (blk_cell BK189.out 1).trans rfl
     have hcz43_2 : wc.cell? ⟨gb189, 2, none⟩ = some (.int .i64 a0_2) := (blk_cell BK189.out 2).trans rfl
     have hcz43_3 : wc.cell? ⟨gb189, 3, none⟩ = some (.int .i64 a0_3) := (blk_cell BK189.out 3).trans rfl
     have hcz43_4 : wc.cell? ⟨gb189, 4, none⟩ = some (.int .i64 a0_4) := (blk_cell BK189.out 4).trans rfl
     have hfz43_0 := blk_frozen BK189.out 0
     have hfz43_1 := blk_frozen BK189.out 1
     have hfz43_2 := blk_frozen BK189.out 2
     have hfz43_3 := blk_frozen BK189.out 3
     have hfz43_4 := blk_frozen BK189.out 4
     go_wp2_with (first | ((with_reducible refine gate_callee (f := 26) rfl ?_); refine goesL_ (some 27) rfl rfl Try.func26 (by kernel_rfl) rfl #[.agg #[.int .i64 a0_0, .int .i64 a0_1, .int .i64 a0_2, .int .i64 a0_3, .int .i64 a0_4], .slice A1 l1.length c1] rfl (by (try simp only [List.map_toArray, List.map_cons, List.map_nil]); first | done | rfl | (simp only [List.length_drop, List.length_take]; rfl)) ?_; (with_reducible refine (ecc_state.calls kj3 a0_0 a0_1 a0_2 a0_3 a0_4 _ _ l1 t192 _ ?side1 ?side2 A10.out).mono ?_); (case side1 => repeat (first | exact (Kd.V_reads' HO_1.out).2.2 | (with_reducible refine Kd.C_alloc ?_ _) | (with_reducible refine Kd.C_drewN ?_ _) | (with_reducible refine Kd.C_drew ?_))); (case side2 => exact (Kd.V_reads' HO_1.out).2.1); rintro e w44 ⟨rfl, hb⟩; refine ⟨_, rfl, ?_⟩; have n0_ := Aside0.mk (Kd.V_below (uV HO_1.out) hb); have n1_ := Aside0.mk (blk_below (g := gb189) (o := .cells #[.int .i64 a0_0, .int .i64 a0_1, .int .i64 a0_2, .int .i64 a0_3, .int .i64 a0_4] 23 (0, 0)) (uK BK189.out) hb); have n2_ := Aside0.mk (below_step (uB HB.out) hb); clear HO_1; clear BK189; clear HB; have HO_1 := n0_; have BK189 := n1_; have HB := n2_; clear n0_ n1_ n2_; (try clear hb); (try clear hb2); (try clear hk); (try clear hi)))
     go_ret2
     exact ⟨_, by first | rfl | (simp [errW_none, errW_some] <;> rfl) | (simp [*, errW_none, errW_some] <;> rfl), by first | exact Kd.S_nil _ _ _ _ _ | exact Kd.N_nil _ _ _ _ _ | exact Kd.V_nil _ _ _ _ _ | exact Kd.Q_nil _ _ _ _ _ | exact Kd.R_nil _ _ _ _ _, uB HB.out⟩
def casematelaw06_turned.l0 : Nat → Int → Int → Int → Option (Int)
 | 0, _, _, _ => none
 | k + 1, x0, x3, x4 => if x4 < x0 then (casematelaw06_turned.l0 k x0 ((x3 * 2) % 256) (wrap64 (x4 + 1))) else (some x3)
def casematelaw06_turned.f (k : Nat) (a0 : Int) : Option (Int) := casematelaw06_turned.l0 k a0 1 0
end Go.Proofs.Ytfpdloccmneabaa.P

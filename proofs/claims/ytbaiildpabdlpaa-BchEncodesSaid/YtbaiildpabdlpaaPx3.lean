/- What Go functions of the translation come to, as plain functions, and that their calls come to just that. No condition but that the plain function answers. (Written by a program of this session.) -/
import Derived.Test.YtbaiildpabdlpaaPx0
import Derived.Test.YtbaiildpabdlpaaPx1
import Derived.Test.YtbaiildpabdlpaaPx2
namespace Go.Proofs.Ytbaiildpabdlpaa.P
open Go.RowKit Go.Proofs.YtbaiildpabdlpaaW.PrintWords Go.Proofs.YtbaiildpabdlpaaW.PrintLast Go.Proofs.YtbaiildpabdlpaaW.PrintMore
attribute [local go_sem] max2_int min2_int max_two min_two max_three min_three max_four min_four   -- for this text's walks alone
set_option linter.unusedVariables false
set_option linter.unusedSimpArgs false
def gf_pow.l0 : Nat → Int → Int → Int → Option (Int)
  | 0, _, _, _ => none
  | k + 1, x0, x1, x5 => if x1 > 0 then (if (Go.bits .and .i64 x1 1) = 1 then ((gf_mul.f k x5 x0).bind fun t138 => ((gf_mul.f k x0 x0).bind fun t139 => (gf_pow.l0 k t139 (x1 / 2) t138))) else ((gf_mul.f k x0 x0).bind fun t140 => (gf_pow.l0 k t140 (x1 / 2) x5))) else (some x5)
def gf_pow.f (k : Nat) (a0 : Int) (a1 : Int) : Option (Int) := gf_pow.l0 k a0 a1 1
theorem gf_pow.mono_l : ∀ k, (∀ y0 y1 y2, LeO (gf_pow.l0 k y0 y1 y2) (gf_pow.l0 (k + 1) y0 y1 y2))
  | 0 => fun _ _ _ r h => by simp [gf_pow.l0] at h
  | k + 1 => by
    have ih0 := gf_pow.mono_l k
    · intro y0 y1 y2
      unfold gf_pow.l0
      repeat' first
      | (with_reducible exact ih0 _ _ _)
      | (with_reducible exact gf_mul.mono _ _ _)
      | (with_reducible exact LeO.refl _)
      | (with_reducible exact LeO.none _)
      | (with_reducible refine LeO.ite ?_ ?_)
      | (with_reducible refine LeO.bind ?_ (fun _ => ?_))
      | exact ih0 _ _ _
      | exact gf_mul.mono _ _ _
      | exact LeO.none _
      | refine LeO.ite ?_ ?_
      | refine LeO.bind ?_ (fun _ => ?_)
theorem gf_pow.mono : ∀ a0 a1 k, LeO (gf_pow.f k a0 a1) (gf_pow.f (k + 1) a0 a1) := by
  intro a0 a1 k
  have ih0 := gf_pow.mono_l k
  unfold gf_pow.f
  repeat' first
      | (with_reducible exact ih0 _ _ _)
      | (with_reducible exact gf_mul.mono _ _ _)
      | (with_reducible exact LeO.refl _)
      | (with_reducible exact LeO.none _)
      | (with_reducible refine LeO.ite ?_ ?_)
      | (with_reducible refine LeO.bind ?_ (fun _ => ?_))
      | exact ih0 _ _ _
      | exact gf_mul.mono _ _ _
      | exact LeO.none _
      | refine LeO.ite ?_ ?_
      | refine LeO.bind ?_ (fun _ => ?_)
set_option maxHeartbeats 8000000 in
set_option maxRecDepth 100000 in
theorem gf_pow.calls (k : Nat) (a0 : Int) (a1 : Int) (r : Int) (w : World) (h : gf_pow.f k a0 a1 = some r) :
    Calls Try.prog 60 #[.int .i64 a0, .int .i64 a1] w fun e w' => e = .returned (.int .i64 r) ∧ Drawn0 w w' := by
  have H : (gf_pow.l0 k a0 a1 1) = some r := h
  clear h
  have H' := Aside0.mk H
  clear H
  go_enter Try.func60, Try.ntmps60
  go_wp2
  go_loopg [0, 1, 5] k (fun kq v0 v1 v5 w' => ∃ (x0_1 : Int) (x1_1 : Int) (x5_1 : Int), v0 = .int .i64 x0_1 ∧ v1 = .int .i64 x1_1 ∧ v5 = .int .i64 x5_1 ∧ Aside0 (gf_pow.l0 kq x0_1 x1_1 x5_1 = some r) ∧ Aside0 (kq ≤ k) ∧ Drawn0 w w')
  case atStart => exact ⟨(a0), (a1), (1), (by first | rfl | (simp; done) | (simp [*]; done)), (by first | rfl | (simp; done) | (simp [*]; done)), (by first | rfl | (simp; done) | (simp [*]; done)), H', ⟨Nat.le_refl _⟩, by repeat (first | exact Drawn0.refl _ | apply Drawn0.step)⟩
  case round =>
    clear H'
    try clear p2
    obtain ⟨x0_1, x1_1, x5_1, rfl, rfl, rfl, HA, HK1, ⟨m1, rfl⟩⟩ := hrel
    cases gk with
    | zero => exact absurd HA.out (by simp [gf_pow.l0])
    | succ k1 =>
      have H := HA.out
      clear HA
      simp only [gf_pow.l0] at H
      by_cases c3 : x1_1 > 0
      · rw [if_pos c3] at H
        have c3b0 : decide (0 < x1_1) = true := decide_eq_true c3
        clear c3
        by_cases c4 : (Go.bits .and .i64 x1_1 1) = 1
        · rw [if_pos c4] at H
          have c4b0 : ((Go.bits .and .i64 x1_1 1) == 1) = true := beq_iff_eq.mpr c4
          have c4b1 : ((Go.bits .and .i64 x1_1 1) != 1) = false := bne_eq_false_iff_eq.mpr c4
          clear c4
          replace H := Option.bind_eq_some_iff.mp H
          obtain ⟨t138, A50, H⟩ := H
          replace H : ((gf_mul.f k1 x0_1 x0_1).bind fun t139 => (gf_pow.l0 k1 t139 (x1_1 / 2) t138)) = some r := H
          have A5 := Aside0.mk A50
          clear A50
          replace H := Option.bind_eq_some_iff.mp H
          obtain ⟨t139, A60, H⟩ := H
          replace H : (gf_pow.l0 k1 t139 (x1_1 / 2) t138) = some r := H
          have A6 := Aside0.mk A60
          clear A60
          have H' := Aside0.mk H
          clear H
          go_wp2_with (first | ((with_reducible refine gate_callee (f := 68) rfl ?_); refine goesL_ (some 15) rfl rfl Try.func68 (by kernel_rfl) rfl #[.int .i64 x5_1, .int .i64 x0_1] rfl (by (try simp only [List.map_toArray, List.map_cons, List.map_nil]); first | done | rfl | (simp only [List.length_drop, List.length_take]; rfl)) ?_; (with_reducible refine (gf_mul.calls k1 x5_1 x0_1 t138 _ A5.out).mono ?_); rintro e w' ⟨rfl, ⟨nd, rfl⟩⟩; refine ⟨_, rfl, ?_⟩) | ((with_reducible refine gate_callee (f := 68) rfl ?_); refine goesL_ (some 18) rfl rfl Try.func68 (by kernel_rfl) rfl #[.int .i64 x0_1, .int .i64 x0_1] rfl (by (try simp only [List.map_toArray, List.map_cons, List.map_nil]); first | done | rfl | (simp only [List.length_drop, List.length_take]; rfl)) ?_; (with_reducible refine (gf_mul.calls k1 x0_1 x0_1 t139 _ A6.out).mono ?_); rintro e w' ⟨rfl, ⟨nd, rfl⟩⟩; refine ⟨_, rfl, ?_⟩))
          go_roundg k1
          case measure => have := HK1.out; omega
          case rel => exact ⟨(t139), (x1_1 / 2), (t138), (by first | rfl | (simp; done) | (simp [*]; done)), (by first | rfl | (simp; done) | (simp [*]; done)), (by first | rfl | (simp; done) | (simp [*]; done)), H', ⟨by have := HK1.out; omega⟩, by repeat (first | exact Drawn0.refl _ | apply Drawn0.step)⟩
        · rw [if_neg c4] at H
          have c4b0 : ((Go.bits .and .i64 x1_1 1) == 1) = false := beq_eq_false_iff_ne.mpr c4
          have c4b1 : ((Go.bits .and .i64 x1_1 1) != 1) = true := bne_iff_ne.mpr c4
          replace H := Option.bind_eq_some_iff.mp H
          obtain ⟨t140, A70, H⟩ := H
          replace H : (gf_pow.l0 k1 t140 (x1_1 / 2) x5_1) = some r := H
          have A7 := Aside0.mk A70
          clear A70
          have H' := Aside0.mk H
          clear H
          go_wp2_with (first | ((with_reducible refine gate_callee (f := 68) rfl ?_); refine goesL_ (some 18) rfl rfl Try.func68 (by kernel_rfl) rfl #[.int .i64 x0_1, .int .i64 x0_1] rfl (by (try simp only [List.map_toArray, List.map_cons, List.map_nil]); first | done | rfl | (simp only [List.length_drop, List.length_take]; rfl)) ?_; (with_reducible refine (gf_mul.calls k1 x0_1 x0_1 t140 _ A7.out).mono ?_); rintro e w' ⟨rfl, ⟨nd, rfl⟩⟩; refine ⟨_, rfl, ?_⟩))
          go_roundg k1
          case measure => have := HK1.out; omega
          case rel => exact ⟨(t140), (x1_1 / 2), (x5_1), (by first | rfl | (simp; done) | (simp [*]; done)), (by first | rfl | (simp; done) | (simp [*]; done)), (by first | rfl | (simp; done) | (simp [*]; done)), H', ⟨by have := HK1.out; omega⟩, by repeat (first | exact Drawn0.refl _ | apply Drawn0.step)⟩
      · rw [if_neg c3] at H
        have c3b0 : decide (0 < x1_1) = false := decide_eq_false c3
        clear c3
        obtain rfl := Option.some.inj H
        go_wp2
        go_ret
        exact ⟨by first | rfl | (simp; done) | (simp [*]; done), by repeat (first | exact Drawn0.refl _ | apply Drawn0.step)⟩
def gf_around.f (a0 : Int) : Option (Int) := if (Int.tmod a0 8191) < 0 then (some (wrap64 ((Int.tmod a0 8191) + 8191))) else (some (Int.tmod a0 8191))
set_option maxHeartbeats 8000000 in
set_option maxRecDepth 100000 in
theorem gf_around.calls (a0 : Int) (r : Int) (w : World) (h : gf_around.f a0 = some r) :
    Calls Try.prog 61 #[.int .i64 a0] w fun e w' => e = .returned (.int .i64 r) ∧ Drawn0 w w' := by
  have H : (if (Int.tmod a0 8191) < 0 then (some (wrap64 ((Int.tmod a0 8191) + 8191))) else (some (Int.tmod a0 8191))) = some r := h
  clear h
  by_cases c2 : (Int.tmod a0 8191) < 0
  · rw [if_pos c2] at H
    have c2b0 : decide ((Int.tmod a0 8191) < 0) = true := decide_eq_true c2
    clear c2
    obtain rfl := Option.some.inj H
    go_enter Try.func61, Try.ntmps61
    go_wp2
    go_ret
    exact ⟨by first | rfl | (simp; done) | (simp [*]; done), by repeat (first | exact Drawn0.refl _ | apply Drawn0.step)⟩
  · rw [if_neg c2] at H
    have c2b0 : decide ((Int.tmod a0 8191) < 0) = false := decide_eq_false c2
    clear c2
    obtain rfl := Option.some.inj H
    go_enter Try.func61, Try.ntmps61
    go_wp2
    go_ret
    exact ⟨by first | rfl | (simp; done) | (simp [*]; done), by repeat (first | exact Drawn0.refl _ | apply Drawn0.step)⟩
def gf_Exp.f (k : Nat) (a0 : Int) : Option (Int) := (gf_around.f a0).bind fun t141 => ((gf_pow.f k 2 t141).bind fun t142 => (some t142))
theorem gf_Exp.mono : ∀ a0 k, LeO (gf_Exp.f k a0) (gf_Exp.f (k + 1) a0) := by
  intro a0 k
  unfold gf_Exp.f
  repeat' first
      | (with_reducible exact gf_pow.mono _ _ _)
      | (with_reducible exact LeO.refl _)
      | (with_reducible exact LeO.none _)
      | (with_reducible refine LeO.ite ?_ ?_)
      | (with_reducible refine LeO.bind ?_ (fun _ => ?_))
      | exact gf_pow.mono _ _ _
      | exact LeO.none _
      | refine LeO.ite ?_ ?_
      | refine LeO.bind ?_ (fun _ => ?_)
set_option maxHeartbeats 8000000 in
set_option maxRecDepth 100000 in
theorem gf_Exp.calls (k : Nat) (a0 : Int) (r : Int) (w : World) (h : gf_Exp.f k a0 = some r) :
    Calls Try.prog 39 #[.int .i64 a0] w fun e w' => e = .returned (.int .i64 r) ∧ Drawn0 w w' := by
  have H : ((gf_around.f a0).bind fun t141 => ((gf_pow.f k 2 t141).bind fun t142 => (some t142))) = some r := h
  clear h
  replace H := Option.bind_eq_some_iff.mp H
  obtain ⟨t141, A20, H⟩ := H
  replace H : ((gf_pow.f k 2 t141).bind fun t142 => (some t142)) = some r := H
  have A2 := Aside0.mk A20
  clear A20
  replace H := Option.bind_eq_some_iff.mp H
  obtain ⟨t142, A30, H⟩ := H
  replace H : (some t142) = some r := H
  have A3 := Aside0.mk A30
  clear A30
  obtain rfl := Option.some.inj H
  go_enter Try.func39, Try.ntmps39
  go_wp2_with (first | ((with_reducible refine gate_callee (f := 61) rfl ?_); refine goesL_ (some 4) rfl rfl Try.func61 (by kernel_rfl) rfl #[.int .i64 a0] rfl (by (try simp only [List.map_toArray, List.map_cons, List.map_nil]); first | done | rfl | (simp only [List.length_drop, List.length_take]; rfl)) ?_; (with_reducible refine (gf_around.calls a0 t141 _ A2.out).mono ?_); rintro e w' ⟨rfl, ⟨nd, rfl⟩⟩; refine ⟨_, rfl, ?_⟩) | ((with_reducible refine gate_callee (f := 60) rfl ?_); refine goesL_ (some 5) rfl rfl Try.func60 (by kernel_rfl) rfl #[.int .i64 2, .int .i64 t141] rfl (by (try simp only [List.map_toArray, List.map_cons, List.map_nil]); first | done | rfl | (simp only [List.length_drop, List.length_take]; rfl)) ?_; (with_reducible refine (gf_pow.calls k 2 t141 t142 _ A3.out).mono ?_); rintro e w' ⟨rfl, ⟨nd, rfl⟩⟩; refine ⟨_, rfl, ?_⟩))
  go_ret
  exact ⟨by first | rfl | (simp; done) | (simp [*]; done), by repeat (first | exact Drawn0.refl _ | apply Drawn0.step)⟩
section
open Go.Shelf
attribute [local go_sem] Oper.semAt_some
def conjL (m : Int → Int → Option (Int × Int)) (first : Int) : Nat → Int → Option (List Int)
  | 0, _ => none
  | n + 1, x => (m x x).bind fun y => if y.1 = first then some [x] else (conjL m first n y.1).bind fun l => some (x :: l)
theorem conjL_more (m : Int → Int → Option (Int × Int)) (first : Int) : ∀ (n : Nat) (x : Int) (l : List Int), conjL m first n x = some l → conjL m first (n + 1) x = some l
  | 0, x, l, h => by simp [conjL] at h
  | n + 1, x, l, h => by
    unfold conjL at h ⊢
    obtain ⟨y, hy, h⟩ := Option.bind_eq_some_iff.1 h
    rw [hy, Option.bind_some]
    by_cases e : y.1 = first
    · rw [if_pos e] at h ⊢; exact h
    · rw [if_neg e] at h ⊢
      obtain ⟨q, hq, h⟩ := Option.bind_eq_some_iff.1 h
      rw [conjL_more m first n y.1 q hq, Option.bind_some]; exact h
def conjN (m : Int → Int → Option (Int × Int)) (first x : Int) : Nat := match conjL m first 20 x with | some l => l.length | none => 0
set_option maxHeartbeats 2000000 in
set_option maxRecDepth 100000 in
theorem conj1_in (k l Bn n n₀ : Nat) (hn : 3 ≤ n) (nn x0 : Int) (xs : List Int) (hE : gf_Exp.f k nn = some x0) (hxs : conjL (gf_Mul.f k) x0 20 x0 = some xs) (J Jx : List Int → World → Prop)
    (hJd : ∀ s W m, J s W → J s (W.drewN m))
    (hY : ∀ pre x W, J pre W → pre.length < xs.length → YieldAt Fence.wide (n - 1) Try.prog l #[.int .i64 x] W fun e W' =>
      (e = .returned (.bool true) ∧ J (pre ++ [x]) W' ∧ Below n₀ W W') ∨ (e = .returned (.bool false) ∧ Jx (pre ++ [x]) W'))
    (W : World) (hBn : W.cell? ⟨Bn, 0, none⟩ = some (.int .i64 nn)) (h0 : J [] W) :
    CallsIn Fence.wide n Try.prog 69 #[.func (.yield l) #[] #[], .pointer (some ⟨Bn, 0, none⟩)] W fun e W' => (∃ v, e = .returned v) ∧
      ((∃ ys, ys = xs ∧ J ys W') ∨ (∃ pre, pre <+: xs ∧ Jx pre W')) := by
  have hn1 : 1 ≤ n := by omega
  have hn2 : 1 ≤ n - 1 := by omega
  refine callsIn_of_wp Try.func69 rfl trivial ?_ rfl
  simp only [Try.ntmps69, List.size_toArray, List.length_cons, List.length_nil, Nat.reduceAdd, Nat.reduceSub, Array.replicate_succ, Array.replicate_zero, List.push_toArray, List.append_toArray, List.nil_append, List.cons_append]
  gi_wp2_with (refine ⟨trivial, ?_⟩; gi_at_call 39; refine (callsIn_wide.2 (gf_Exp.calls k nn x0 _ hE)).mono ?_; rintro e w' ⟨rfl, ⟨nd, rfl⟩⟩)
  have h1 := hJd _ _ nd h0
  have HX := Aside0.mk hxs
  clear hxs h0 hE hBn
  gi_wp2
  gi_loopw [4] (fun p wr => ∃ (pre rest : List Int) (x : Int), p = .int .i64 x ∧ xs = pre ++ rest ∧ Aside0 (conjL (gf_Mul.f k) x0 20 x = some rest) ∧ J pre wr) (fun p _ => conjN (gf_Mul.f k) x0 (intOf p))
  case atStart => exact ⟨[], xs, x0, rfl, rfl, HX, h1⟩
  case round =>
    obtain ⟨pre, rest, x, rfl, hx, HL, hJs⟩ := hrel
    have hl := HL.out
    unfold conjL at hl
    obtain ⟨y, hy, hl⟩ := Option.bind_eq_some_iff.1 hl
    have HY := Aside0.mk hy
    have hlen : pre.length < xs.length := by
      by_cases e : y.1 = x0
      · rw [if_pos e] at hl; rw [hx, ← Option.some.inj hl]; simp
      · rw [if_neg e] at hl
        obtain ⟨q, _, hl⟩ := Option.bind_eq_some_iff.1 hl
        rw [hx, ← Option.some.inj hl]; simp
    obtain ⟨fn, tmps, assign, body, hyy, hR⟩ := hY pre x wr hJs hlen
    clear hy
    gi_wp2
    refine hR.mono ?_
    rintro e W3 (⟨rfl, hJ3, hk3⟩ | ⟨rfl, hJx3⟩)
    · by_cases e : y.1 = x0
      · rw [if_pos e] at hl
        have he : (y.1 == x0) = true := beq_iff_eq.2 e
        have HL2 := Aside0.mk (Option.some.inj hl)
        clear hl HL e
        gi_wp2_with (refine ⟨trivial, ?_⟩; gi_at_call 62; refine (callsIn_wide.2 (gf_Mul.calls k x x y.1 y.2 _ HY.out)).mono ?_; rintro e w' ⟨rfl, ⟨nd, rfl⟩⟩)
        refine bodyPost_ret (results_none rfl _ _ _) rfl ?_
        exact ⟨⟨_, rfl⟩, .inl ⟨_, by rw [hx, ← HL2.out], hJd _ _ nd hJ3⟩⟩
      · rw [if_neg e] at hl
        obtain ⟨q, hq, hl⟩ := Option.bind_eq_some_iff.1 hl
        have he : (y.1 == x0) = false := beq_eq_false_iff_ne.2 e
        have HL2 := Aside0.mk (Option.some.inj hl)
        have HQ := Aside0.mk (conjL_more _ _ _ _ _ hq)
        clear hl e hq
        gi_wp2_with (refine ⟨trivial, ?_⟩; gi_at_call 62; refine (callsIn_wide.2 (gf_Mul.calls k x x y.1 y.2 _ HY.out)).mono ?_; rintro e w' ⟨rfl, ⟨nd, rfl⟩⟩)
        go_roundw
        case rel => exact ⟨pre ++ [x], q, y.1, rfl, by rw [hx, ← HL2.out]; simp, HQ, hJd _ _ nd hJ3⟩
        case measure =>
          show conjN (gf_Mul.f k) x0 (intOf (.int .i64 y.1)) < conjN (gf_Mul.f k) x0 (intOf (.int .i64 x))
          show conjN (gf_Mul.f k) x0 y.1 < conjN (gf_Mul.f k) x0 x
          unfold conjN
          rw [HQ.out, HL.out, ← HL2.out]; simp
    · gi_wp2
      go_end0
      have hp : pre ++ [x] <+: xs := by
        by_cases e : y.1 = x0
        · rw [if_pos e] at hl; exact ⟨[], by rw [hx, ← Option.some.inj hl]; simp⟩
        · rw [if_neg e] at hl
          obtain ⟨q, _, hl⟩ := Option.bind_eq_some_iff.1 hl
          exact ⟨q, by rw [hx, ← Option.some.inj hl]; simp⟩
      exact ⟨⟨_, rfl⟩, .inr ⟨pre ++ [x], hp, hJx3⟩⟩
theorem conj_calls (nn : Int) (w : World) : Calls Try.prog 64 #[.int .i64 nn] w fun e w' => e = .returned (.func (.func 69) #[] #[.pointer (some ⟨w.heap.size, 0, none⟩)]) ∧ w' = w.alloc (.cells #[.int .i64 nn] 3) := by
  go_enter Try.func64, Try.ntmps64
  go_wp2
  go_ret
  exact ⟨rfl, rfl⟩
theorem conj_stops (k n Bn n₀ : Nat) (hn : 3 ≤ n) (nn x0 : Int) (xs : List Int) (hE : gf_Exp.f k nn = some x0) (hxs : conjL (gf_Mul.f k) x0 20 x0 = some xs) (w : World) (hBn : w.cell? ⟨Bn, 0, none⟩ = some (.int .i64 nn)) :
    SeqStopsK Fence.wide n Try.prog 69 #[.pointer (some ⟨Bn, 0, none⟩)] (fun x : Int => #[.int .i64 x]) (Below n₀) (fun ys => ys = xs) (fun pre => pre <+: xs) xs.length w :=
  fun l J Jx W hW hJ hJx hY h0 => conj1_in k l Bn n n₀ hn nn x0 xs hE hxs J Jx
    (fun s W1 m h => hJ s W1 _ none h (grown_of_below (pw_below_drewN (Below.refl _ _) m) none) (fun r e => by cases e)) hY W ((hW.cell (World.block_lt_of_cell? w _ hBn)).trans hBn) h0
theorem C_cells9 {k : IntKind} {w : World} {A : Option Addr} {n : Nat} {xs : List Int} (h : Kd.C (Kd.int k) w A n xs) (hn : xs.length = n) (h0 : 0 < n) : ∃ ad, A = some ad ∧ ∀ j u, (encs (Value.int k) xs)[j]? = some u → w.cell? (ad.add j) = some u := by
  obtain ⟨ad, hA, _⟩ := Kd.at_int h 0 (by omega) (by omega)
  refine ⟨ad, hA, fun j u hu => ?_⟩
  have hj : j < xs.length := by
    have := (List.getElem?_eq_some_iff.1 hu).1
    simpa [encs] using this
  obtain ⟨ad', hA', hc⟩ := Kd.at_int h (j : Int) (by omega) (by omega)
  rw [hA] at hA'
  cases hA'
  rw [Int.toNat_natCast] at hc
  rw [hc]
  simp only [encs, List.getElem?_map, List.getElem?_eq_getElem hj, Option.map_some, Option.some.injEq] at hu
  rw [← hu]
  simp [rd, List.getElem?_eq_getElem hj]
def prodL (k : Nat) : List Int → List Int → Option (List Int)
  | [], p => some p
  | x :: xs, p => (poly_Mul.f k p [x, 1]).bind fun r => prodL k xs r.1
theorem prodL_snoc (k : Nat) (x : Int) : ∀ (xs p : List Int), prodL k (xs ++ [x]) p = (prodL k xs p).bind fun q => (poly_Mul.f k q [x, 1]).bind fun r => some r.1
  | [], p => by
    show (poly_Mul.f k p [x, 1]).bind (fun r => prodL k [] r.1) = _
    rfl
  | y :: xs, p => by
    show (poly_Mul.f k p [y, 1]).bind (fun r => prodL k (xs ++ [x]) r.1) = ((poly_Mul.f k p [y, 1]).bind fun r => prodL k xs r.1).bind _
    cases poly_Mul.f k p [y, 1] with
    | none => rfl
    | some r => exact prodL_snoc k x xs r.1
theorem mul_tot : ∀ (j k : Nat) (a b o : Int), 0 ≤ b → b < 2 ^ j → j < k → ∃ r, gf_mul.l0 k a b o = some r
  | 0, k, a, b, o, h0, h1, hk => by
    obtain ⟨k, rfl⟩ : ∃ m, k = m + 1 := ⟨k - 1, by omega⟩
    exact ⟨o, by rw [gf_mul.l0, if_pos (by omega)]⟩
  | j + 1, k, a, b, o, h0, h1, hk => by
    obtain ⟨k, rfl⟩ : ∃ m, k = m + 1 := ⟨k - 1, by omega⟩
    by_cases hb : b = 0
    · exact ⟨o, by rw [gf_mul.l0, if_pos hb]⟩
    · have h2 : b / 2 < 2 ^ j := by
        rw [Int.pow_succ] at h1
        generalize (2 : Int) ^ j = q at h1 ⊢
        omega
      have ih := fun a o => mul_tot j k a (b / 2) o (by omega) h2 (by omega)
      rw [gf_mul.l0, if_neg hb]
      split
      · split
        · exact ih _ _
        · exact ih _ _
      · split
        · exact ih _ _
        · exact ih _ _
theorem Mul_tot (a b : Int) {k : Nat} (hk : 13 < k) : ∃ r, gf_Mul.f k a b = some r := by
  unfold gf_Mul.f gf_is.f
  by_cases ha : a ≥ 0
  · rw [if_pos ha, Option.bind_some]
    by_cases ha' : a < 8192
    · rw [if_pos (by simpa using ha')]
      by_cases hb : b ≥ 0
      · rw [if_pos hb, Option.bind_some]
        by_cases hb' : b < 8192
        · rw [if_pos (by simpa using hb')]
          obtain ⟨r, hr⟩ := mul_tot 13 k a b 0 hb (by simpa using hb') hk
          unfold gf_mul.f
          exact ⟨(r, 0), by rw [hr]; rfl⟩
        · rw [if_neg (by simpa using hb')]; exact ⟨_, rfl⟩
      · rw [if_neg hb, Option.bind_some, if_neg (by simp)]; exact ⟨_, rfl⟩
    · rw [if_neg (by simpa using ha')]; exact ⟨_, rfl⟩
  · rw [if_neg ha, Option.bind_some, if_neg (by simp)]; exact ⟨_, rfl⟩
theorem is_tot1 (ls : List (List Int)) (n x11 : Int) (l : List Int) (hl : l.length ≤ 1000) (K : Nat) (hK : 14 ≤ K) (hr : ∀ k, K ≤ k → ∃ r, poly_is.l0 k ls n (wrap64 (x11 + 1)) = some r) : ∀ (d i k : Nat), i + d = l.length → K + d < k → ∃ r, poly_is.l1 k ls n x11 l (l.length : Int) (i : Int) = some r
  | 0, i, k, hi, hk => by
    obtain ⟨k, rfl⟩ : ∃ m, k = m + 1 := ⟨k - 1, by omega⟩
    rw [poly_is.l1, if_neg (by omega)]
    exact hr k (by omega)
  | d + 1, i, k, hi, hk => by
    obtain ⟨k, rfl⟩ : ∃ m, k = m + 1 := ⟨k - 1, by omega⟩
    rw [poly_is.l1, if_pos (by omega), if_pos (by omega), if_pos (by omega)]
    obtain ⟨r, h⟩ := Mul_tot (rd l (i : Int)) 0 (k := k) (by omega)
    rw [h, Option.bind_some]
    have hw : wrap64 ((i : Int) + 1) = ((i + 1 : Nat) : Int) := by unfold wrap64; omega
    rw [hw]
    split
    · exact is_tot1 ls n x11 l hl K hK hr d (i + 1) k (by omega) (by omega)
    · exact ⟨_, rfl⟩
theorem is_tot (p q : List Int) (hp : p.length ≤ 1000) (hq : q.length ≤ 1000) {k : Nat} (hk : p.length + q.length + 20 ≤ k) : ∃ b, poly_is.f k [p, q] = some b := by
  have w1 : wrap64 (0 + 1) = 1 := by unfold wrap64; omega
  have w2 : wrap64 (1 + 1) = 2 := by unfold wrap64; omega
  have hl : ([p, q].length : Int) = 2 := rfl
  have h2 : ∀ k, 14 ≤ k → ∃ r, poly_is.l0 k [p, q] 2 (wrap64 (1 + 1)) = some r := fun k h => by
    obtain ⟨k, rfl⟩ : ∃ m, k = m + 1 := ⟨k - 1, by omega⟩
    exact ⟨true, by rw [w2, poly_is.l0, if_neg (by omega)]⟩
  have h1 : ∀ k, q.length + 16 ≤ k → ∃ r, poly_is.l0 k [p, q] 2 (wrap64 (0 + 1)) = some r := fun k h => by
    obtain ⟨k, rfl⟩ : ∃ m, k = m + 1 := ⟨k - 1, by omega⟩
    rw [w1, poly_is.l0, if_pos (by omega), if_pos (by omega), if_pos (by omega)]
    exact is_tot1 [p, q] 2 1 q hq 14 (Nat.le_refl _) h2 q.length 0 k (by omega) (by omega)
  unfold poly_is.f
  obtain ⟨k, rfl⟩ : ∃ m, k = m + 1 := ⟨k - 1, by omega⟩
  rw [hl, poly_is.l0, if_pos (by omega), if_pos (by omega), if_pos (by omega)]
  exact is_tot1 [p, q] 2 0 p hp (q.length + 16) (by omega) h1 p.length 0 k (by omega) (by omega)
theorem lay_tot (m : Int → Option Int) (hm : ∀ a, ∃ t, m a = some t) : ∀ (p : List Int) (i : Nat) (l : List Int), i + p.length ≤ l.length → ∃ r, layL m p i l = some r ∧ r.length = l.length
  | [], _, l, _ => ⟨l, rfl, rfl⟩
  | a :: p, i, l, h => by
    obtain ⟨t, ht⟩ := hm a
    obtain ⟨r, hr, hl⟩ := lay_tot m hm p (i + 1) (l.set i (Go.bits .xor .i64 (l.getD i 0) t)) (by simp at h ⊢; omega)
    refine ⟨r, ?_, by rw [hl]; simp⟩
    show ((m a).bind fun t => if i < l.length then layL m p (i + 1) (l.set i (Go.bits .xor .i64 (l.getD i 0) t)) else none) = some r
    rw [ht, Option.bind_some, if_pos (by simp at h; omega), hr]
theorem mulL_tot (m : Int → Int → Option Int) (hm : ∀ a b, ∃ t, m a b = some t) (q : List Int) : ∀ (p : List Int) (i : Nat) (l : List Int), i + p.length + q.length ≤ l.length + 1 ∨ p = [] → ∃ r, mulL m q p i l = some r ∧ r.length = l.length
  | [], _, l, _ => ⟨l, rfl, rfl⟩
  | a :: p, i, l, h => by
    have h' : i + p.length + 1 + q.length ≤ l.length + 1 := by rcases h with h | h; simp at h; omega; cases h
    obtain ⟨r, hr, hl⟩ := lay_tot (fun x => m x a) (fun x => hm x a) q i l (by omega)
    obtain ⟨s, hs, hl2⟩ := mulL_tot m hm q p (i + 1) r (.inl (by omega))
    refine ⟨s, ?_, by omega⟩
    show (layL (fun x => m x a) q i l).bind (fun l' => mulL m q p (i + 1) l') = some s
    rw [hr, Option.bind_some, hs]
theorem fin_short (l : List Int) : (fin l).length ≤ l.length := by unfold fin; exact List.length_take_le' _ _
theorem pMul_tot (p : List Int) (x : Int) (hp : p.length ≤ 1000) {k : Nat} (hk : p.length + 40 ≤ k) : ∃ r e, poly_Mul.f k p [x, 1] = some (r, e) ∧ r.length ≤ p.length + 2 := by
  obtain ⟨b, hb⟩ := is_tot p [x, 1] hp (by simp) (k := k) (by simp; omega)
  unfold poly_Mul.f poly_Mul.L
  rw [hb, Option.bind_some]
  cases b with
  | false => exact ⟨[], 1, by rw [if_neg (by simp)], by simp⟩
  | true =>
    obtain ⟨r, hr, hl⟩ := mulL_tot (poly_mul.f k) (fun a b => by
      obtain ⟨t, ht⟩ := Mul_tot a b (k := k) (by omega)
      exact ⟨t.1, by unfold poly_mul.f; rw [ht]; rfl⟩) [x, 1] p 0 (List.replicate (p.length + [x, 1].length) 0) (.inl (by simp))
    refine ⟨fin r, 0, by rw [if_pos rfl, if_pos (by simp; omega), hr]; rfl, ?_⟩
    have := fin_short r
    simp at hl
    omega
theorem prodL_tot {k : Nat} (hk : 100 ≤ k) : ∀ (xs p : List Int), p.length + 2 * xs.length ≤ 60 → ∃ r, prodL k xs p = some r ∧ r.length ≤ p.length + 2 * xs.length
  | [], p, _ => ⟨p, rfl, by simp⟩
  | x :: xs, p, h => by
    simp only [List.length_cons] at h
    obtain ⟨r, e, hr, hl⟩ := pMul_tot p x (by omega) (k := k) (by omega)
    obtain ⟨s, hs, hl2⟩ := prodL_tot hk xs r (by omega)
    refine ⟨s, ?_, by simp only [List.length_cons]; omega⟩
    show (poly_Mul.f k p [x, 1]).bind (fun r => prodL k xs r.1) = some s
    rw [hr, Option.bind_some, hs]
theorem C_new9 {k : IntKind} (w : World) (xs : List Int) (c : Array Value) (t : TypeId) (fz : Nat × Nat) (n : Nat) (hc : c = (encs (Value.int k) xs).toArray) (hn : xs.length = n) (hm : n ≤ 9223372036854775807) (g : Nat) (hg : g = w.heap.size) : Kd.C (Kd.int k) (w.alloc (.cells c t fz)) (some ⟨g, 0, none⟩) n xs := by
  subst hc hn hg
  refine Kd.C_of_reads (d := (0 : Int)) (h1 := fun _ => rfl) ⟨rfl, hm, fun _ => ⟨_, rfl, fun j hj => ?_⟩⟩
  rw [add_plain, cell_of_row _ _ _ _ _ _ (blk_new w _)]
  simp [encs, List.getElem?_eq_getElem hj, List.getD_eq_getElem?_getD]
theorem ginfo_u8 : (Try.prog.info? 5).map (fun i => (i.zero, i.size, i.bytes)) = some (some (.int .u8 0), 1, 1) := by kernel_rfl
theorem made_formb {w : World} {base n : Nat} {ok : Nat → Prop} {v : Value} {z : Int} {m : Nat} (h : (Kd.int .u8).R 5 w base ok v (List.replicate z.toNat 0)) (hb : ∃ b, v.ownBlock = some b ∧ n ≤ b) (hz : z.toNat = m) :
    ∃ g cap, v = .slice (some ⟨g, 0, none⟩) m cap ∧ base ≤ g ∧ n ≤ g ∧ g < w.heap.size ∧ w.ownsRow base 5 1 (.slice (some ⟨g, 0, none⟩) m cap) m (encs (Value.int .u8) (List.replicate m 0)) := by
  obtain ⟨b, hb, hle⟩ := hb
  have ho := Kd.own_of_R h
  rw [hz, List.length_replicate] at ho
  have hlt := own_lt ho b hb
  rcases ho.2 with ⟨rfl, _⟩ | ⟨g, cap, cur, rfl, hg, hh, _⟩
  · simp [Value.ownBlock] at hb
  · obtain rfl : g = b := by simpa [Value.ownBlock] using hb
    exact ⟨g, cap, rfl, hg, hle, hlt, ho⟩
/-- out[i / 8] |= byte(p[i] << (i % 8)), for the first j numbers. -/
def orL (p : List Int) : Nat → List Int → List Int
  | 0, l => l
  | j + 1, l => (orL p j l).set (j / 8) (Go.bits .or .u8 ((orL p j l).getD (j / 8) 0) (wrap64 (p.getD j 0 * 2 ^ (j % 8)) % 256))
theorem C_of_own9 {w : World} {base g cap : Nat} {l : List Int} (h : w.ownsRow base 5 1 (.slice (some ⟨g, 0, none⟩) l.length cap) l.length (encs (Value.int .u8) l)) : Kd.C (Kd.int .u8) w (some ⟨g, 0, none⟩) l.length l ∧ l.length ≤ cap := by
  obtain ⟨A, c, he, hc, hC⟩ := Kd.R_reads (Kd.R_of_own (h1 := fun _ => rfl) h (ok := fun _ => True) (fun _ _ => trivial))
  injection he with h1 h2 h3
  subst h1; subst h3
  exact ⟨hC, hc⟩
theorem cutb {w : World} {base g cap : Nat} {l : List Int} (h : w.ownsRow base 5 1 (.slice (some ⟨g, 0, none⟩) l.length cap) l.length (encs (Value.int .u8) l)) {m : Nat} (hm : m ≤ l.length) (hz : ∀ j, m ≤ j → l.getD j 0 = 0) (hn : 0 < m → l.getD (m - 1) 0 ≠ 0) :
    m = (fin l).length ∧ w.ownsRow base 5 1 (.slice (some ⟨g, 0, none⟩) (fin l).length cap) (fin l).length (encs (Value.int .u8) (fin l)) := by
  have h1 := own_take h hm
  have h2 : fin l = l.take m := by unfold fin; rw [normN_of hz hn l.length hm]
  have h3 : (encs (Value.int .u8) l).take (m * 1) = encs (Value.int .u8) (l.take m) := by rw [Nat.mul_one]; simp [encs, List.map_take]
  rw [h3] at h1
  have h4 : (l.take m).length = m := by rw [List.length_take]; omega
  rw [h2, h4]
  exact ⟨rfl, h1⟩
/-- What norm answers: how many are left. -/
def NormAnsB (l : List Int) (A : Option Addr) (c : Nat) (w : World) (e : Ending) (w' : World) : Prop := ∃ m : Nat, m ≤ l.length ∧ e = .returned (.slice A m c) ∧ (∀ j, m ≤ j → l.getD j 0 = 0) ∧ (0 < m → l.getD (m - 1) 0 ≠ 0) ∧ w = w'
theorem normb_calls (A : Option Addr) (c : Nat) (l : List Int) (w : World) (hr : Kd.C (Kd.int .u8) w A l.length l) (hc : l.length ≤ c) :
    Calls Try.prog 48 #[.slice A l.length c] w (NormAnsB l A c w) := by
  have hm : l.length ≤ 9223372036854775807 := hr.2.1
  go_enter Try.func48, Try.ntmps48
  go_wp2
  go_loop [0] (fun v => ∃ m : Nat, m ≤ l.length ∧ v = .slice A m c ∧ (∀ j, m ≤ j → l.getD j 0 = 0)) (fun v => match v with | .slice _ m _ => m | _ => 0)
  case atStart => exact ⟨l.length, Nat.le_refl _, rfl, fun j hj => by simp [List.getElem?_eq_none hj]⟩
  case round =>
    obtain ⟨m, hml, rfl, hz⟩ := hrel
    have HZ := Aside0.mk hz
    clear hz
    by_cases h0 : 0 < m
    · obtain ⟨ad, rfl, hx0⟩ := Kd.at_int hr ((m - 1 : Nat) : Int) (by omega) (by omega)
      obtain ⟨z, hz⟩ : ∃ z, z = l.getD (m - 1) 0 := ⟨_, rfl⟩
      have hx : w.cell? (ad.add (m - 1)) = some (.int .u8 z) := by
        have := hx0
        rw [rd_nat', Int.toNat_natCast] at this
        rw [hz]; exact this
      have HV := Aside0.mk hz
      have hd : decide (0 < (m : Int)) = true := decide_eq_true (by omega)
      have hd2 : decide (0 < m) = true := decide_eq_true h0
      clear hx0 hz
      by_cases hz0 : z = 0
      · have hb : (z == 0) = true := beq_iff_eq.2 hz0
        have H0 := Aside0.mk hz0
        clear hz0
        go_wp2
        go_round
        case rel =>
          refine ⟨m - 1, by omega, rfl, fun j hj => ?_⟩
          by_cases e : j = m - 1
          · subst e; rw [← HV.out, H0.out]
          · exact HZ.out j (by omega)
        case measure => show m - 1 < m; omega
      · have hb : (z == 0) = false := beq_eq_false_iff_ne.2 hz0
        have H0 := Aside0.mk hz0
        clear hz0
        go_wp2
        go_ret
        exact ⟨m, hml, rfl, HZ.out, fun _ => by rw [← HV.out]; exact H0.out, rfl⟩
    · have hm0 : m = 0 := by omega
      subst hm0
      go_wp2
      go_ret
      exact ⟨0, hml, rfl, HZ.out, fun h => absurd h (by omega), rfl⟩
theorem keepsOthers_below {W W' : World} (hb : Below W.heap.size W W') : KeepsOthers W W' := ⟨hb.size, fun k _ hk _ => (hb.block k (Array.getElem?_eq_some_iff.1 hk).1).trans hk⟩
theorem reads_of_C {W : World} {A : Option Addr} {p : List Int} (h : Kd.C (Kd.int .i64) W A p.length p) : ReadsInt W .i64 A p.length p := by
  refine ⟨rfl, h.2.1, fun hn => ?_⟩
  obtain ⟨ad, hA, hc⟩ := C_cells9 h rfl hn
  refine ⟨ad, hA, fun j hj => ?_⟩
  have := hc j (.int .i64 (p.getD j 0)) (by simp [encs, List.getElem?_eq_getElem hj, List.getD_eq_getElem?_getD])
  exact this
theorem C_of_ReadsInt {W : World} {A : Option Addr} {p : List Int} (h : ReadsInt W .i64 A p.length p) : Kd.C (Kd.int .i64) W A p.length p := Kd.C_of_reads (d := (0 : Int)) (h1 := fun _ => rfl) h
/-- Between two rounds: the box holds what the product has come to. -/
structure MinI (k b : Nat) (pre : List Int) (W : World) : Prop where
  ex : ∃ (p : List Int) (A : Option Addr) (c : Nat), W.cell? ⟨b, 0, none⟩ = some (.slice A p.length c) ∧ W.frozen? ⟨b, 0, none⟩ = false ∧ ReadsInt W .i64 A p.length p ∧ p.length ≤ c ∧ prodL k pre [1] = some p
theorem ReadsInt.kept {W W' : World} {row : Option Nat} {A : Option Addr} {p : List Int} (h : ReadsInt W .i64 A p.length p) (hg : W.grownBy W' row) (hr : ∀ r, row = some r → ∃ o : Obj, W.heap[r]? = some o ∧ o.isCells = false) : ReadsInt W' .i64 A p.length p := by
  refine ⟨rfl, h.2.1, fun hn => ?_⟩
  obtain ⟨ad, hA, hc⟩ := h.2.2 hn
  exact ⟨ad, hA, fun j hj => cell_kept (hc j hj) hg hr⟩
theorem MinI.own (k b : Nat) : Own (MinI k b) := fun s X Y row hs hg hr => by
  obtain ⟨p, A, c, h1, h2, h3, h4, h5⟩ := hs.ex
  exact ⟨p, A, c, cell_kept h1 hg hr, (frozen_kept h1 hg hr).trans h2, ReadsInt.kept h3 hg hr, h4, h5⟩
set_option maxHeartbeats 2000000 in
set_option maxRecDepth 100000 in
theorem min_calls (k : Nat) (hk : 100 ≤ k) (nn x0 : Int) (xs p : List Int) (hE : gf_Exp.f k nn = some x0) (hxs : conjL (gf_Mul.f k) x0 20 x0 = some xs) (hlen : xs.length ≤ 20) (hp : prodL k xs [1] = some p) (w : World) :
    Calls Try.prog 47 #[.int .i64 nn] w fun e w' => ∃ v0_ : Value, e = .returned v0_ ∧ Kd.R (Kd.int .u8) 5 w' w.heap.size (fun _ => True) v0_ (fin (orL p p.length (List.replicate (p.length / 8 + 1) 0))) ∧ Below w.heap.size w w' := by
  refine (callsIn_wide (n := 5)).1 ?_
  refine callsIn_of_wp_marks Try.func47 rfl trivial ?_ rfl
  simp only [Try.ntmps47, List.size_toArray, List.length_cons, List.length_nil, Nat.reduceAdd, Nat.reduceSub, Array.replicate_succ, Array.replicate_zero, List.push_toArray, List.append_toArray, List.nil_append, List.cons_append]
  gi_wp2_with (refine ⟨trivial, ?_⟩; gi_at_call 64; refine (callsIn_wide.2 (conj_calls nn _)).mono ?_; rintro e w' ⟨rfl, rfl⟩)
  obtain ⟨W0, hW0⟩ : ∃ W0, W0 = ((w.alloc (.cells #[.int .i64 1] 3)).alloc (.cells #[.slice (some ⟨w.heap.size, 0, none⟩) 1 1] 38)).alloc (.cells #[.int .i64 nn] 3) := ⟨_, rfl⟩
  rw [← hW0]
  have e0 := blk_new w (.cells #[.int .i64 1] 3)
  have e1 := blk_new (w.alloc (.cells #[.int .i64 1] 3)) (.cells #[.slice (some ⟨w.heap.size, 0, none⟩) 1 1] 38)
  have e2 := blk_new ((w.alloc (.cells #[.int .i64 1] 3)).alloc (.cells #[.slice (some ⟨w.heap.size, 0, none⟩) 1 1] 38)) (.cells #[.int .i64 nn] 3)
  simp only [World.size_alloc] at e1 e2
  have b0 : W0.heap[w.heap.size]? = some (.cells #[.int .i64 1] 3 (0, 0)) := by rw [hW0]; exact blk_alloc (blk_alloc e0 _) _
  have b1 : W0.heap[w.heap.size + 1]? = some (.cells #[.slice (some ⟨w.heap.size, 0, none⟩) 1 1] 38 (0, 0)) := by rw [hW0]; exact blk_alloc e1 _
  have b2 : W0.heap[w.heap.size + 1 + 1]? = some (.cells #[.int .i64 nn] 3 (0, 0)) := by rw [hW0]; exact e2
  have hsz : W0.heap.size = w.heap.size + 1 + 1 + 1 := by rw [hW0]; simp
  have hbW : Below w.heap.size w W0 := by rw [hW0]; exact below_alloc (below_alloc (below_alloc (Below.refl _ _) _) _) _
  have hI0 : MinI k (w.heap.size + 1) [] W0 := ⟨[1], some ⟨w.heap.size, 0, none⟩, 1, (blk_cell b1 0).trans rfl, blk_frozen b1 0, ⟨rfl, by decide, fun _ => ⟨_, rfl, fun j hj => by
    have : j = 0 := by simp at hj; omega
    subst this
    rw [add_plain]; exact (blk_cell b0 0).trans rfl⟩⟩, by decide, rfl⟩
  have hstop := conj_stops k 4 (w.heap.size + 1 + 1) w.heap.size (by decide) nn x0 xs hE hxs W0 ((blk_cell b2 0).trans rfl)
  refine wpIn_rangeFunc_ownG rfl (by decide) (gf := 69) (lb := #[.pointer (some ⟨w.heap.size + 1 + 1, 0, none⟩)]) rfl trivial (enters_of Try.func69 (by kernel_rfl) rfl)
    hstop belowK_t (belowK_b (by rw [hsz]; omega)) (Below.refl _ _) (fun _ => rfl)
    (fun pre W => MinI k (w.heap.size + 1) pre W ∧ Below w.heap.size w W) (fun _ _ _ => False)
    (OwnFrom.and (Own.from (MinI.own k (w.heap.size + 1)) _) (ownFrom_below (Nat.le_refl _) (by rw [hsz]; omega)))
    (fun _ _ _ _ _ hs _ _ => hs)
    ⟨hI0, hbW⟩
    (fun x => { tmps := #[.int .i64 nn, undef, .slice none 0 0, .pointer (some ⟨w.heap.size + 1, 0, none⟩), .int .i64 x, undef, undef, undef, .slice (some ⟨w.heap.size, 0, none⟩) 1 1, .int .i64 nn, .func (.func 69) #[] #[.pointer (some ⟨w.heap.size + 1 + 1, 0, none⟩)], .int .i64 x, undef, undef, undef, undef, undef, undef, undef, undef, undef, undef, undef, undef, undef, undef, undef, undef, undef, undef, undef, undef, undef, undef, undef, undef, undef, undef, undef, undef, undef, undef, undef, undef, undef, undef], defers := [] }) ?assign ?body ?done ?stop
  case assign =>
    intro l x W K hK
    gi_wp2
    exact hK
  case body =>
    rintro l pre x W ⟨⟨q, A, c, hc, hf, hr, hqc, hq⟩, hB⟩ hpl
    obtain ⟨q', hq', hql⟩ := prodL_tot hk pre [1] (by simp; omega)
    rw [hq] at hq'
    obtain rfl := Option.some.inj hq'
    obtain ⟨r, er, hm, hrl⟩ := pMul_tot q x (by simp at hql; omega) (k := k) (by simp at hql; omega)
    have hlt : w.heap.size + 1 < W.heap.size := World.block_lt_of_cell? W _ hc
    have HC := Aside0.mk (C_of_ReadsInt hr)
    have HQ := Aside0.mk hq
    have HM := Aside0.mk hm
    have HB := Aside0.mk hB
    have HQC := Aside0.mk hqc
    clear hr hq hm hB hqc hq' hI0 hstop e0 e1 e2 b0 b1 b2 hbW hE hxs hp hpl hql hrl hsz
    gi_wp2
    refine ⟨trivial, ?_⟩
    refine (CallsIn.inRound l (callsIn_wide.2 (poly_Mul.calls k A c q (some ⟨W.heap.size, 0, none⟩) 2 [x, 1] r er _ (Kd.C_alloc HC.out _) HQC.out (C_new9 W [x, 1] _ 3 (0, 0) 2 rfl rfl (by omega) _ rfl) (Nat.le_refl _) HM.out))).mono ?_
    rintro e w1 ⟨v0, rfl, hR, hb⟩
    have hW1 : Below W.heap.size W w1 := below_step (below_alloc (Below.refl _ W) _) hb
    have hbs := hb.size
    have ho := Kd.own_of_R hR
    obtain ⟨A', c', hv, hc', _⟩ := Kd.R_reads hR
    subst hv
    have hcell : w1.cell? ⟨w.heap.size + 1, 0, none⟩ = some (.slice A q.length c) := (hW1.cell (p := ⟨w.heap.size + 1, 0, none⟩) hlt).trans hc
    have hfr : w1.frozen? ⟨w.heap.size + 1, 0, none⟩ = false := (hW1.frozen (p := ⟨w.heap.size + 1, 0, none⟩) hlt).trans hf
    have HO := Aside0.mk ho
    have HR := Aside0.mk hR
    have HW1 := Aside0.mk hW1
    have HC' := Aside0.mk hc'
    clear ho hR hW1 hc' hb
    gi_wp2
    have hbase : ∀ g, (Value.slice A' r.length c').ownBlock = some g → g ≠ w.heap.size + 1 := fun g hg e => by
      have := own_base HO.out g hg
      simp at this; omega
    have ho2 := own_move (w1 := w1.setCell ⟨w.heap.size + 1, 0, none⟩ (.slice A' r.length c')) HO.out (fun g hg => Below.heap_setCell w1 ⟨w.heap.size + 1, 0, none⟩ _ g (hbase g hg))
    obtain ⟨A2, c2, hv2, _, hC2⟩ := Kd.R_reads (Kd.R_of_own (h1 := fun _ => rfl) ho2 (ok := fun _ => True) (fun _ _ => trivial))
    obtain ⟨rfl, _, rfl⟩ : A' = A2 ∧ r.length = r.length ∧ c' = c2 := by injection hv2 with a b c; exact ⟨a, b, c⟩
    refine ⟨((keepsOthers_below HW1.out).trans (KeepsOthers.setCell _ _ _)).from _, ?_, ⟨r, A', c', ?_, ?_, reads_of_C hC2, HC'.out, ?_⟩, ?_⟩
    · exact (HW1.out.mono (by omega)).setCell (p := ⟨w.heap.size + 1, 0, none⟩) (by show w.heap.size ≤ w.heap.size + 1; omega) _
    · exact World.cell?_setCell_same' _ _ _ (by rw [hcell]; rfl)
    · rw [World.frozen?_setCell]; exact hfr
    · rw [prodL_snoc, HQ.out, Option.bind_some, HM.out]; rfl
    · exact (HB.out.trans (HW1.out.mono (by omega))).setCell (p := ⟨w.heap.size + 1, 0, none⟩) (by show w.heap.size ≤ w.heap.size + 1; omega) _
  case done =>
    rintro D ys W hD rfl ⟨⟨q, A, c, hc, hf, hr, hqc, hq⟩, hB⟩ hK
    rw [hp] at hq
    obtain rfl := Option.some.inj hq
    obtain ⟨q', hq', hql⟩ := prodL_tot hk ys [1] (by simp; omega)
    rw [hp] at hq'
    obtain rfl := Option.some.inj hq'
    have hpl : p.length ≤ 41 := by simp at hql; omega
    have hD2 : w.heap.size + 1 + 1 < D := by omega
    have HC := Aside0.mk (C_of_ReadsInt hr)
    have HB := Aside0.mk hB
    have HQC := Aside0.mk hqc
    have HK := Aside0.mk hK
    clear hr hq' hql hB hqc hK hp hI0 hstop e0 e1 e2 b0 b1 b2 hbW hE hxs hsz hW0 hf hD
    refine (‹∀ (a : Act) (w : World), Code.wpIn _ _ _ _ _ a w → _› _ _ (wpIn_wide.2 ?_))
    obtain ⟨m, hm⟩ : ∃ m : Nat, m = p.length / 8 + 1 := ⟨_, rfl⟩
    have HM := Aside0.mk hm
    clear hm
    go_wp2_with (first | ((with_reducible refine gate_dst (N := 23) rfl ?_); refine Kd.R_make (Kd.int .u8) W.heap.size 5 rfl (N := 23) rfl 22 _ _ rfl ((p.length : Int) / 8 + 1) rfl rfl Try.underlying22 (.int .u8 0) 1 ginfo_u8 rfl (by decide) (by omega) 0 (ok := fun _ => True) (okp := fun _ => True) rfl (fun _ hk => hk) trivial (by omega) (by omega) (Below.refl _ _) (Nat.le_refl _) ?_; intro v w5 ho6 hb hg_ hnew_; obtain ⟨g, cap, rfl, hg1, hg2, hg3, ho7⟩ := made_formb ho6 hnew_ (show ((p.length : Int) / 8 + 1).toNat = m by have := HM.out; omega); have HO := Aside0.mk ho7; have HBB := Aside0.mk hb; have HG := Aside0.mk hg2; have hc5 : w5.cell? ⟨w.heap.size + 1, 0, none⟩ = some (.slice A p.length c) := (hb.cell (p := ⟨w.heap.size + 1, 0, none⟩) (World.block_lt_of_cell? W _ hc)).trans hc; clear ho6 ho7 hb hg_ hnew_ hg1 hg2 hg3))
    have HC5 := Aside0.mk (Kd.C_below HC.out HBB.out)
    clear hc5
    go_loopw [26] (fun i wr => ∃ (j : Nat) (l : List Int), j ≤ p.length ∧ i = .int .i64 (j : Int) ∧ Aside0 (wr.ownsRow W.heap.size 5 1 (.slice (some ⟨g, 0, none⟩) m cap) m (encs (Value.int .u8) l)) ∧ Aside0 (orL p j (List.replicate m 0) = l) ∧ Aside0 (Below W.heap.size W wr) ∧ Aside0 (l.length = m)) (fun i _ => p.length - (intOf i).toNat)
    case atStart => exact ⟨0, List.replicate m 0, Nat.zero_le _, rfl, HO, ⟨rfl⟩, HBB, ⟨by simp⟩⟩
    case round =>
      obtain ⟨j, l, hj, rfl, HS, HL, HB2, HLM⟩ := hrel
      by_cases hlt : j < p.length
      · obtain ⟨ad, hA, hx0⟩ := Kd.at_int (Kd.C_below HC.out HB2.out) (j : Int) (by omega) (by omega)
        have hx : wr.cell? (ad.add j) = some (.int .i64 p[j]) := by
          rw [Int.toNat_natCast] at hx0
          rw [hx0]; simp [rd, List.getElem?_eq_getElem hlt]
        have hjm : j / 8 < m := by have := HM.out; omega
        have hs : wr.ownsRow W.heap.size 5 1 (.slice (some ⟨g, 0, none⟩) l.length cap) l.length (encs (Value.int .u8) l) := by rw [HLM.out]; exact HS.out
        have hy := own_at_of (enc := Value.int .u8) (d := (0 : Int)) hs ((j / 8 : Nat) : Int) (by omega) (by rw [HLM.out]; omega)
        have hgj : wr.cell? ⟨g, j / 8, none⟩ = some (.int .u8 (l.getD (j / 8) 0)) ∧ wr.frozen? ⟨g, j / 8, none⟩ = false := by
          rw [Int.toNat_natCast] at hy
          exact ⟨hy.1, hy.2⟩
        obtain ⟨hg1, hg2⟩ := hgj
        have HX := Aside0.mk hx
        have HS2 := Aside0.mk hs
        subst hA
        have i1 : ((j : Int) / 8).toNat = j / 8 := by omega
        have i2 : 0 ≤ (j : Int) / 8 := by omega
        have i3 : (j : Int) / 8 < (m : Int) := by omega
        have i4 : 0 ≤ (j : Int) % 8 := by omega
        have hlt' : decide ((j : Int) < (p.length : Int)) = true := decide_eq_true (by omega)
        obtain ⟨y, hy1⟩ : ∃ y, y = l.getD (j / 8) 0 := ⟨_, rfl⟩
        rw [← hy1] at hg1
        have HY := Aside0.mk hy1
        obtain ⟨a, ha⟩ : ∃ a, a = p[j] := ⟨_, rfl⟩
        rw [← ha] at hx
        have HA := Aside0.mk ha
        clear hx0 hy hs hy1 ha
        go_wp2_with fail
        go_region
        go_wp2
        go_roundw
        case rel =>
          have h1 := own_store_of (enc := Value.int .u8) HS2.out ((j / 8 : Nat) : Int) (Go.bits .or .u8 y (wrap64 (a * 2 ^ (j % 8)) % 256))
          rw [Int.toNat_natCast] at h1
          refine ⟨j + 1, l.set (j / 8) (Go.bits .or .u8 y (wrap64 (a * 2 ^ (j % 8)) % 256)), by omega, by go_num, ⟨?_⟩, ⟨?_⟩, ⟨?_⟩, ⟨by rw [List.length_set]; exact HLM.out⟩⟩
          · have h2 := h1.1
            rw [HLM.out] at h2
            exact own_move h2 (fun _ _ => rfl)
          · unfold orL
            rw [HL.out, HY.out, HA.out]
            simp [List.getD_eq_getElem?_getD, List.getElem?_eq_getElem hlt]
          · have hgb : W.heap.size ≤ g := own_base HS2.out g (by simp [Value.ownBlock])
            exact below_drew1 (HB2.out.setCell (p := ⟨g, j / 8, none⟩) hgb _)
        case measure => simp [intOf]; omega
      · have hje : j = p.length := by omega
        subst hje
        have hlt' : decide ((p.length : Int) < (p.length : Int)) = false := by simp
        clear hlt
        have hl := HLM.out
        subst hl
        have hC := (C_of_own9 HS.out)
        have hcap := hC.2
        have HN := Aside0.mk hC.1
        clear hC
        go_wp2_with (first | (go_at_call 48; have Hq := Aside0.mk (normb_calls (some ⟨g, 0, none⟩) cap l _ HN.out hcap); refine Hq.out.mono ?_; rintro e w'' ⟨mm, hmm, rfl, hz, hn0, rfl⟩; have HZ := Aside0.mk hz; have HNN := Aside0.mk hn0; clear hz hn0 Hq))
        have hKw : wr.heap[D]? = some (.deferred (some [])) := blk_below HK.out HB2.out
        refine ⟨by simp, .inl ⟨_, _, rfl, run_takeDeferred hKw, ?_⟩⟩
        refine ⟨_, results_tmp rfl _ _ _, _, rfl, ?_, ?_⟩
        · obtain ⟨h1, h2⟩ := cutb HS.out hmm HZ.out HNN.out
          have hDW : D < W.heap.size := blk_lt HK.out
          have h3 : (wr.putObj D (.deferred none)).ownsRow W.heap.size 5 1 (.slice (some ⟨g, 0, none⟩) (fin l).length cap) (fin l).length (encs (Value.int .u8) (fin l)) := own_move h2 (fun k hk => World.putObj_heap_other (fun e => by have := own_base h2 k hk; omega))
          have h4 : orL p p.length (List.replicate (p.length / 8 + 1) 0) = l := by rw [← HM.out]; exact HL.out
          rw [h4]
          have h5 := Kd.R_of_own (h1 := fun _ => rfl) (own_weaken h3 HB.out.size) (ok := fun _ => True) (fun _ _ => trivial)
          rw [← h1] at h5
          exact h5
        · exact (below_then HB.out HB.out.size HB2.out).trans (belowK_b (w := w) (Nat.le_refl _) wr D _ _ (by omega) hKw rfl rfl)
  case stop =>
    rintro D c pre W _ _ h _
    exact h.elim
theorem conjL_mono {m m' : Int → Int → Option (Int × Int)} (h : ∀ a b, LeO (m a b) (m' a b)) (first : Int) : ∀ (n : Nat) (x : Int), LeO (conjL m first n x) (conjL m' first n x)
  | 0, _ => LeO.none _
  | n + 1, x => by
    unfold conjL
    exact LeO.bind (h x x) (fun y => LeO.ite (LeO.refl _) (LeO.bind (conjL_mono h first n y.1) (fun l => LeO.refl _)))
theorem prodL_mono (k : Nat) : ∀ (xs p : List Int), LeO (prodL k xs p) (prodL (k + 1) xs p)
  | [], _ => LeO.refl _
  | x :: xs, p => by
    unfold prodL
    exact LeO.bind (poly_Mul.mono _ _ _) (fun r => prodL_mono k xs r.1)
def bpoly_Minimal.f (k : Nat) (a0 : Int) : Option (List Int) := if 100 ≤ k then ((gf_Exp.f k a0).bind fun x0 => (conjL (gf_Mul.f k) x0 20 x0).bind fun xs => if xs.length ≤ 20 then ((prodL k xs [1]).bind fun p => some (fin (orL p p.length (List.replicate (p.length / 8 + 1) 0)))) else none) else none
theorem bpoly_Minimal.mono : ∀ a0 k, LeO (bpoly_Minimal.f k a0) (bpoly_Minimal.f (k + 1) a0) := by
  intro a0 k
  unfold bpoly_Minimal.f
  by_cases h : 100 ≤ k
  · rw [if_pos h, if_pos (by omega)]
    exact LeO.bind (gf_Exp.mono _ _) (fun x0 => LeO.bind (conjL_mono (fun a b => gf_Mul.mono _ _ _) _ _ _) (fun xs => LeO.ite (LeO.bind (prodL_mono _ _ _) (fun p => LeO.refl _)) (LeO.refl _)))
  · rw [if_neg h]; exact LeO.none _
theorem bpoly_Minimal.calls (k : Nat) (a0 : Int) (r : List Int) (w : World) (h : bpoly_Minimal.f k a0 = some r) :
    Calls Try.prog 47 #[.int .i64 a0] w fun e w' => ∃ v0_ : Value, e = .returned (v0_) ∧ Kd.R (Kd.int .u8) 5 w' w.heap.size (fun _ => True) v0_ r ∧ Below w.heap.size w w' := by
  unfold bpoly_Minimal.f at h
  by_cases hk : 100 ≤ k
  · rw [if_pos hk] at h
    obtain ⟨x0, hx, h⟩ := Option.bind_eq_some_iff.1 h
    obtain ⟨xs, hxs, h⟩ := Option.bind_eq_some_iff.1 h
    by_cases hl : xs.length ≤ 20
    · rw [if_pos hl] at h
      obtain ⟨p, hp, h⟩ := Option.bind_eq_some_iff.1 h
      obtain rfl := Option.some.inj h
      exact min_calls k hk a0 x0 xs p hx hxs hl hp w
    · rw [if_neg hl] at h; exact absurd h (by simp)
  · rw [if_neg hk] at h; exact absurd h (by simp)
end
mutual
def bpoly_Generator.j0 : Nat → Int → Bool → Option (List Int × Int)
  | 0, _, _ => none
  | k + 1, x0, x11 => if x11 = true then (some (([] : List Int), 1)) else (bpoly_Generator.l0 k x0 (([1] : List Int)) 1)
def bpoly_Generator.l0 : Nat → Int → List Int → Int → Option (List Int × Int)
  | 0, _, _, _ => none
  | k + 1, x0, x4, x5 => if x5 < (wrap64 (2 * x0)) then ((bpoly_Minimal.f k x5).bind fun t146 => ((bpoly_Mul.f k x4 t146).bind fun t149 => (bpoly_Generator.l0 k x0 t149 (wrap64 (x5 + 2))))) else (some (x4, 0))
end
def bpoly_Generator.f (k : Nat) (a0 : Int) : Option (List Int × Int) := if a0 < 1 then (bpoly_Generator.j0 k a0 true) else (bpoly_Generator.j0 k a0 (decide (a0 > 8)))
theorem bpoly_Generator.mono_l : ∀ k, (∀ y0 y1, LeO (bpoly_Generator.j0 k y0 y1) (bpoly_Generator.j0 (k + 1) y0 y1)) ∧ (∀ y0 y1 y2, LeO (bpoly_Generator.l0 k y0 y1 y2) (bpoly_Generator.l0 (k + 1) y0 y1 y2))
  | 0 => ⟨fun _ _ r h => by simp [bpoly_Generator.j0] at h, fun _ _ _ r h => by simp [bpoly_Generator.l0] at h⟩
  | k + 1 => by
    obtain ⟨ih0, ih1⟩ := bpoly_Generator.mono_l k
    refine ⟨?_, ?_⟩
    · intro y0 y1
      unfold bpoly_Generator.j0
      repeat' first
      | (with_reducible exact ih0 _ _)
      | (with_reducible exact ih1 _ _ _)
      | (with_reducible exact bpoly_Minimal.mono _ _)
      | (with_reducible exact bpoly_Mul.mono _ _ _)
      | (with_reducible exact LeO.refl _)
      | (with_reducible exact LeO.none _)
      | (with_reducible refine LeO.ite ?_ ?_)
      | (with_reducible refine LeO.bind ?_ (fun _ => ?_))
      | exact ih0 _ _
      | exact ih1 _ _ _
      | exact bpoly_Minimal.mono _ _
      | exact bpoly_Mul.mono _ _ _
      | exact LeO.none _
      | refine LeO.ite ?_ ?_
      | refine LeO.bind ?_ (fun _ => ?_)
    · intro y0 y1 y2
      unfold bpoly_Generator.l0
      repeat' first
      | (with_reducible exact ih0 _ _)
      | (with_reducible exact ih1 _ _ _)
      | (with_reducible exact bpoly_Minimal.mono _ _)
      | (with_reducible exact bpoly_Mul.mono _ _ _)
      | (with_reducible exact LeO.refl _)
      | (with_reducible exact LeO.none _)
      | (with_reducible refine LeO.ite ?_ ?_)
      | (with_reducible refine LeO.bind ?_ (fun _ => ?_))
      | exact ih0 _ _
      | exact ih1 _ _ _
      | exact bpoly_Minimal.mono _ _
      | exact bpoly_Mul.mono _ _ _
      | exact LeO.none _
      | refine LeO.ite ?_ ?_
      | refine LeO.bind ?_ (fun _ => ?_)
theorem bpoly_Generator.mono : ∀ a0 k, LeO (bpoly_Generator.f k a0) (bpoly_Generator.f (k + 1) a0) := by
  intro a0 k
  obtain ⟨ih0, ih1⟩ := bpoly_Generator.mono_l k
  unfold bpoly_Generator.f
  repeat' first
      | (with_reducible exact ih0 _ _)
      | (with_reducible exact ih1 _ _ _)
      | (with_reducible exact bpoly_Minimal.mono _ _)
      | (with_reducible exact bpoly_Mul.mono _ _ _)
      | (with_reducible exact LeO.refl _)
      | (with_reducible exact LeO.none _)
      | (with_reducible refine LeO.ite ?_ ?_)
      | (with_reducible refine LeO.bind ?_ (fun _ => ?_))
      | exact ih0 _ _
      | exact ih1 _ _ _
      | exact bpoly_Minimal.mono _ _
      | exact bpoly_Mul.mono _ _ _
      | exact LeO.none _
      | refine LeO.ite ?_ ?_
      | refine LeO.bind ?_ (fun _ => ?_)
set_option maxHeartbeats 8000000 in
set_option maxRecDepth 100000 in
theorem bpoly_Generator.calls (k : Nat) (a0 : Int) (r1 : List Int) (r2 : Int) (w : World) (h : bpoly_Generator.f k a0 = some (r1, r2)) :
    Calls Try.prog 28 #[.int .i64 a0] w fun e w' => ∃ v0_ : Value, e = .returned (.tuple #[v0_, .int .i64 r2]) ∧ Kd.V (Kd.int .u8) 5 w' w.heap.size (fun k_ => (w.heap.size ≤ k_)) v0_ r1 ∧ Below w.heap.size w w' := by
  have HB := Aside0.mk (Below.refl w.heap.size w)
  have H : (if a0 < 1 then (bpoly_Generator.j0 k a0 true) else (bpoly_Generator.j0 k a0 (decide (a0 > 8)))) = some (r1, r2) := h
  clear h
  have HC2 := Aside0.mk H
  clear H
  go_enter Try.func28, Try.ntmps28
  go_upto_region 1 with (fail)
  go_cut [11] (fun v11 wc => ∃ (kq : Nat) (x11_1 : Bool), v11 = .bool x11_1 ∧ Aside0 (bpoly_Generator.j0 kq a0 x11_1 = some (r1, r2)) ∧ Aside0 (kq ≤ k) ∧ Aside0 (Below w.heap.size w wc))
  case first =>
    have H := HC2.out
    clear HC2
    by_cases c3 : a0 < 1
    · rw [if_pos c3] at H
      have c3b0 : decide (a0 < 1) = true := decide_eq_true c3
      clear c3
      (first | rw [c3b0] | (simp only [i64_w, i32_w]; rw [c3b0]) | skip)
      have H' := Aside0.mk H
      clear H
      go_wp2
      go_meet
      case rel => exact ⟨_, (true), (by first | rfl | (simp; done) | (simp [*]; done)), H', ⟨by first | omega | exact Nat.le_refl _⟩, ⟨by repeat (first | (with_reducible first | exact HB.out | apply below_alloc | apply pw_below_drewN | apply below_drew1) | exact HB.out)⟩⟩
    · rw [if_neg c3] at H
      have c3b0 : decide (a0 < 1) = false := decide_eq_false c3
      clear c3
      (first | rw [c3b0] | (simp only [i64_w, i32_w]; rw [c3b0]) | skip)
      have H' := Aside0.mk H
      clear H
      go_wp2
      go_meet
      case rel => exact ⟨_, (decide (a0 > 8)), (by first | rfl | (simp; done) | (simp [*]; done)), H', ⟨by first | omega | exact Nat.le_refl _⟩, ⟨by repeat (first | (with_reducible first | exact HB.out | apply below_alloc | apply pw_below_drewN | apply below_drew1) | exact HB.out)⟩⟩
  case rest =>
    clear HC2
    try clear c2
    try clear p2
    try clear c3
    try clear c3b0
    obtain ⟨kq, x11_1, rfl, HA, HJ1, HB⟩ := hcut
    cases kq with
    | zero => exact absurd HA.out (by simp [bpoly_Generator.j0])
    | succ kj1 =>
      have H := HA.out
      clear HA
      simp only [bpoly_Generator.j0] at H
      by_cases c4 : x11_1 = true
      · subst c4
        have H1 : (some (([] : List Int), 1)) = some (r1, r2) := by rw [if_pos rfl] at H; exact H
        clear H
        have H := H1
        clear H1
        simp only [Option.some.injEq, Prod.mk.injEq] at H
        obtain ⟨rfl, rfl⟩ := H
        go_wp2
        go_ret2
        exact ⟨_, by first | rfl | (simp [errW_none, errW_some] <;> rfl) | (simp [*, errW_none, errW_some] <;> rfl), Kd.R_V (base := 0) (by first | exact Kd.R_nil _ _ _ _ _ | exact Kd.N_nil _ _ _ _ _ | exact Kd.V_nil _ _ _ _ _ | exact Kd.Q_nil _ _ _ _ _ | exact Kd.S_nil _ _ _ _ _), by repeat (first | (with_reducible first | exact HB.out | apply below_alloc | apply pw_below_drewN | apply below_drew1) | exact HB.out)⟩
      · replace c4 := Bool.eq_false_iff.mpr c4
        subst c4
        have H1 : (bpoly_Generator.l0 kj1 a0 (([1] : List Int)) 1) = some (r1, r2) := by rw [if_neg (show ¬ (false = true) by decide)] at H; exact H
        clear H
        have H := H1
        clear H1
        obtain ⟨y143, hy143⟩ : ∃ y_ : List Int, y_ = (([1] : List Int)) := ⟨_, rfl⟩
        replace H : (bpoly_Generator.l0 kj1 a0 y143 1) = some (r1, r2) := by first | (rw [hy143]; with_reducible exact H) | (have H2_ := (Option.bind_some _ _).symm.trans H; rw [hy143]; with_reducible exact H2_) | (have H2_ := (Option.bind_some _ _).symm.trans H; with_reducible exact H2_) | with_reducible exact H | (rw [hy143]; exact H) | exact H
        have Ny143 := Aside0.mk hy143
        clear hy143
        have H' := Aside0.mk H
        clear H
        go_wp2_with (first | ((with_reducible refine gate_dst (N := 12) rfl ?_); refine Kd.R_lit (Kd.int .u8) _ 5 ?hg (N := 12) ?hd (xs := ([1] : List Int)) (inner := [.int .u8 1]) (ok := fun _ => True) (okp := fun _ => True) ?hr ?hp (fun _ hk => hk) trivial (Below.refl _ _) (Nat.le_refl _) (by simp) ?_; (case hd => rfl); (case hg => rfl); (case hr => first | (go_simp; done) | (go_simp; rfl)); (case hp => exact (Reps.one (show Kd.M (Kd.int .u8) _ _ _ 1 [.int .u8 1] from rfl) (Reps.none _ _))); intro v144 w5 ho6 hb hg_ hnew_; clear hg_ hnew_; (first | rw [← Ny143.out] at ho6 | (simp only [Int.reduceToNat] at ho6; rw [← Ny143.out] at ho6)); have n0_ := Aside0.mk (Kd.R_lower (Kd.R_newM (M := fun k_ => (w.heap.size ≤ k_)) ho6 (below_size (by repeat (first | (with_reducible first | exact HB.out | apply below_alloc | apply pw_below_drewN | apply below_drew1) | exact HB.out))) (fun k_ h_ => h_)) (below_size (by repeat (first | (with_reducible first | exact HB.out | apply below_alloc | apply pw_below_drewN | apply below_drew1) | exact HB.out)))); have n1_ := Aside0.mk (below_step (by repeat (first | (with_reducible first | exact HB.out | apply below_alloc | apply pw_below_drewN | apply below_drew1) | exact HB.out)) hb); clear HB; have HO145 := n0_; have HB := n1_; clear n0_ n1_; clear hb ho6))
        go_loopg [4, 5] kj1 (fun kq v4 v5 w' => ∃ (x4_2 : List Int) (x5_2 : Int), v5 = .int .i64 x5_2 ∧ Aside0 (bpoly_Generator.l0 kq a0 x4_2 x5_2 = some (r1, r2)) ∧ Aside0 (kq ≤ kj1) ∧ Aside0 (Kd.V (Kd.int .u8) 5 w' w.heap.size (fun k_ => (w.heap.size ≤ k_)) v4 x4_2) ∧ Aside0 (Below w.heap.size w w'))
        case atStart => exact ⟨(y143), (1), (by first | rfl | (simp; done) | (simp [*]; done)), H', ⟨Nat.le_refl _⟩, ⟨Kd.R_V (by (with_reducible repeat (first | apply Kd.R_alloc | apply Kd.R_drewN | apply Kd.R_drew)); exact Kd.R_mono HO145.out (fun _ hk => hk.1))⟩, ⟨by repeat (first | (with_reducible first | exact HB.out | apply below_alloc | apply pw_below_drewN | apply below_drew1) | exact HB.out)⟩⟩
        case round =>
          clear H'
          try clear c2
          try clear p2
          try clear c3
          try clear c3b0
          try clear c4
          try clear p2
          obtain ⟨x4_2, x5_2, rfl, HA, HK2, HO_4, HB⟩ := hrel
          cases gk with
          | zero => exact absurd HA.out (by simp [bpoly_Generator.l0])
          | succ k2 =>
            have H := HA.out
            clear HA
            simp only [bpoly_Generator.l0] at H
            by_cases c7 : x5_2 < (wrap64 (2 * a0))
            · rw [if_pos c7] at H
              have c7b0 : decide (x5_2 < (wrap64 (2 * a0))) = true := decide_eq_true c7
              clear c7
              replace H := Option.bind_eq_some_iff.mp H
              obtain ⟨t146, A80, H⟩ := H
              replace H : ((bpoly_Mul.f k2 x4_2 t146).bind fun t149 => (bpoly_Generator.l0 k2 a0 t149 (wrap64 (x5_2 + 2)))) = some (r1, r2) := H
              have A8 := Aside0.mk A80
              clear A80
              replace H := Option.bind_eq_some_iff.mp H
              obtain ⟨t149, A90, H⟩ := H
              replace H : (bpoly_Generator.l0 k2 a0 t149 (wrap64 (x5_2 + 2))) = some (r1, r2) := H
              have A9 := Aside0.mk A90
              clear A90
              have H' := Aside0.mk H
              clear H
              go_wp2_with (first | ((with_reducible refine gate_callee (f := 47) rfl ?_); refine goesL_ (some 21) rfl rfl Try.func47 (by kernel_rfl) rfl #[.int .i64 x5_2] rfl (by (try simp only [List.map_toArray, List.map_cons, List.map_nil]); first | done | rfl | (simp only [List.length_drop, List.length_take]; rfl)) ?_; (with_reducible refine (bpoly_Minimal.calls k2 x5_2 t146 _ A8.out).mono ?_); rintro e w10 ⟨v147, rfl, ho0, hb⟩; refine ⟨_, rfl, ?_⟩; have n0_ := Aside0.mk (Kd.V_elder' (by (with_reducible repeat (first | apply Kd.V_alloc | apply Kd.V_drewN | apply Kd.V_drew)); exact HO_4.out) (Kd.R_base ho0) hb); have n1_ := Aside0.mk (Kd.R_lower (Kd.R_newM (M := fun k_ => (w.heap.size ≤ k_)) ho0 (below_size (by repeat (first | (with_reducible first | exact HB.out | apply below_alloc | apply pw_below_drewN | apply below_drew1) | exact HB.out))) (fun k_ h_ => h_)) (below_size (by repeat (first | (with_reducible first | exact HB.out | apply below_alloc | apply pw_below_drewN | apply below_drew1) | exact HB.out)))); have n2_ := Aside0.mk (below_step (by repeat (first | (with_reducible first | exact HB.out | apply below_alloc | apply pw_below_drewN | apply below_drew1) | exact HB.out)) hb); clear HO_4; clear HB; have HO_4 := n0_; have HO148 := n1_; have HB := n2_; clear n0_ n1_ n2_; (try clear hb); (try clear hb2); (try clear hk); (try clear hi); (try clear ho0); obtain ⟨Ao11, co11, eo11⟩ := Kd.V_slice HO_4.out; subst eo11; obtain ⟨Ao12, co12, eo12⟩ := Kd.R_slice HO148.out; subst eo12) | ((with_reducible refine gate_callee (f := 30) rfl ?_); refine goesL_ (some 22) rfl rfl Try.func30 (by kernel_rfl) rfl #[.slice Ao11 x4_2.length co11, .slice Ao12 t146.length co12] rfl (by (try simp only [List.map_toArray, List.map_cons, List.map_nil]); first | done | rfl | (simp only [List.length_drop, List.length_take]; rfl)) ?_; (with_reducible refine (bpoly_Mul.calls k2 _ _ x4_2 _ _ t146 t149 _ ?side1 ?side2 ?side3 ?side4 A9.out).mono ?_); (case side1 => repeat (first | exact (Kd.V_reads' HO_4.out).2.2 | (with_reducible refine Kd.C_alloc ?_ _) | (with_reducible refine Kd.C_drewN ?_ _) | (with_reducible refine Kd.C_drew ?_))); (case side2 => exact (Kd.V_reads' HO_4.out).2.1); (case side3 => repeat (first | exact (Kd.R_reads' HO148.out).2.2 | (with_reducible refine Kd.C_alloc ?_ _) | (with_reducible refine Kd.C_drewN ?_ _) | (with_reducible refine Kd.C_drew ?_))); (case side4 => exact (Kd.R_reads' HO148.out).2.1); rintro e w13 ⟨v150, rfl, ho0, hb⟩; refine ⟨_, rfl, ?_⟩; have n0_ := Aside0.mk (Kd.V_below (by (with_reducible repeat (first | apply Kd.V_alloc | apply Kd.V_drewN | apply Kd.V_drew)); exact HO_4.out) hb); have n1_ := Aside0.mk (Kd.R_below (by (with_reducible repeat (first | apply Kd.R_alloc | apply Kd.R_drewN | apply Kd.R_drew)); exact HO148.out) hb); have n2_ := Aside0.mk (Kd.V_lower (Kd.V_mono (ok' := fun k_ => (w.heap.size ≤ k_) ∧ some k_ ≠ (.slice Ao12 t146.length co12 : Value).ownBlock) ho0 (fun k_ hk_ => ⟨(Nat.le_trans (below_size (by repeat (first | (with_reducible first | exact HB.out | apply below_alloc | apply pw_below_drewN | apply below_drew1) | exact HB.out))) hk_), (Kd.fresh' (Kd.R_lt (by (with_reducible repeat (first | apply Kd.R_alloc | apply Kd.R_drewN | apply Kd.R_drew)); exact HO148.out)) k_ hk_)⟩)) (below_size (by repeat (first | (with_reducible first | exact HB.out | apply below_alloc | apply pw_below_drewN | apply below_drew1) | exact HB.out)))); have n3_ := Aside0.mk (below_step (by repeat (first | (with_reducible first | exact HB.out | apply below_alloc | apply pw_below_drewN | apply below_drew1) | exact HB.out)) hb); clear HO_4; clear HO148; clear HB; have HO_4 := n0_; have HO148 := n1_; have HO151 := n2_; have HB := n3_; clear n0_ n1_ n2_ n3_; (try clear hb); (try clear hb2); (try clear hk); (try clear hi); (try clear ho0)))
              go_roundg k2
              case measure => have := HJ1.out; have := HK2.out; omega
              case rel => exact ⟨(t149), (wrap64 (x5_2 + 2)), (by first | rfl | (simp; done) | (simp [*]; done)), H', ⟨by have := HJ1.out; have := HK2.out; omega⟩, ⟨by (with_reducible repeat (first | apply Kd.V_alloc | apply Kd.V_drewN | apply Kd.V_drew)); exact Kd.V_mono HO151.out (fun _ hk => hk.1)⟩, ⟨by repeat (first | (with_reducible first | exact HB.out | apply below_alloc | apply pw_below_drewN | apply below_drew1) | exact HB.out)⟩⟩
            · rw [if_neg c7] at H
              have c7b0 : decide (x5_2 < (wrap64 (2 * a0))) = false := decide_eq_false c7
              clear c7
              simp only [Option.some.injEq, Prod.mk.injEq] at H
              obtain ⟨rfl, rfl⟩ := H
              go_wp2
              go_ret2
              exact ⟨_, by first | rfl | (simp [errW_none, errW_some] <;> rfl) | (simp [*, errW_none, errW_some] <;> rfl), by (with_reducible repeat (first | apply Kd.V_alloc | apply Kd.V_drewN | apply Kd.V_drew)); exact HO_4.out, by repeat (first | (with_reducible first | exact HB.out | apply below_alloc | apply pw_below_drewN | apply below_drew1) | exact HB.out)⟩
end Go.Proofs.Ytbaiildpabdlpaa.P

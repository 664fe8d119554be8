/- What Go functions of the translation come to, as plain functions, and that their calls come to just that. No condition but that the plain function answers. (Written by a program of this session.) -/
import Derived.Test.YtfjmbmlmbchglaaPx0
import Derived.Test.YtfjmbmlmbchglaaPx1
import Derived.Test.YtfjmbmlmbchglaaPx2
namespace Go.Proofs.Ytfjmbmlmbchglaa.P
open Go.RowKit Go.Proofs.YtfjmbmlmbchglaaW.PrintWords Go.Proofs.YtfjmbmlmbchglaaW.PrintLast Go.Proofs.YtfjmbmlmbchglaaW.PrintMore
attribute [local go_sem] max2_int min2_int max_two min_two max_three min_three max_four min_four   -- for this text's walks alone
set_option linter.unusedVariables false
set_option linter.unusedSimpArgs false

/-! ### poly_Add: function 20 -/
theorem add1_calls (k : Nat) (W : World) (B g cap : Nat) (b0 b1 : Nat) (A : Option Addr) (c : Nat) (p : List Int) (hr : Kd.C (Kd.int .i64) W A p.length p) (hb0 : W.cell? ⟨b0, 0, none⟩ = some (.slice A p.length c)) (A' : Option Addr) (c' : Nat) (q : List Int) (hr' : Kd.C (Kd.int .i64) W A' q.length q) (hb1 : W.cell? ⟨b1, 0, none⟩ = some (.slice A' q.length c')) (l r : List Int) (W1 : World) (hst : PutSt W B g cap l W1) (h : ((layL (fun a => poly_mul.f k a 1) p 0 l).bind fun l => layL (fun a => poly_mul.f k a 1) q 0 l) = some r) :
    Calls Try.prog 38 #[.func (.func 46) #[] #[.pointer (some ⟨B, 0, none⟩)], .pointer (some ⟨b0, 0, none⟩), .pointer (some ⟨b1, 0, none⟩)] W1 fun e w' => e = .returned (.tuple #[]) ∧ PutSt W B g cap r w' := by
  obtain ⟨l', h1, h2⟩ := Option.bind_eq_some_iff.1 h
  have hbx := box_at hst.below hb0
  have Hq := Aside0.mk (lay_calls k W B g cap A c p hr 0 1 l l' W1 hst h1)
  have Hr := Aside0.mk (fun w' hs => lay_calls k W B g cap A' c' q hr' 0 1 l' r w' hs h2)
  have Hb := Aside0.mk hb1
  clear hst h hr hb0 h1 h2 hr' hb1
  go_enter Try.func38, Try.ntmps38
  go_wp2_with (first | (go_at_call 35; refine Hq.out.mono ?_; clear Hq; rintro e w' ⟨rfl, hs⟩; have HS := Aside0.mk hs; have hby := box_at hs.below Hb.out; clear hs))
  refine (Hr.out w' HS.out).mono ?_
  clear Hr HS
  rintro e w'' ⟨rfl, hs⟩
  have HS := Aside0.mk hs
  clear hs
  go_wp2
  go_end0
  exact ⟨rfl, HS.out⟩
def poly_Add.L (k : Nat) (l0 l1 : List Int) : Option (List Int) := (layL (fun a => poly_mul.f k a 1) l0 0 (List.replicate (max l0.length l1.length) 0)).bind fun l => layL (fun a => poly_mul.f k a 1) l1 0 l
def poly_Add.f (k : Nat) (l0 l1 : List Int) : Option (List Int × Int) := (poly_is.f k [l0, l1]).bind fun b => if b = true then (if max l0.length l1.length ≤ 35184372088832 then (poly_Add.L k l0 l1).bind fun l => some (fin l, 0) else none) else some ([], 1)
theorem poly_Add.mono : ∀ a0 a1 k, LeO (poly_Add.f k a0 a1) (poly_Add.f (k + 1) a0 a1) := by
  intro a0 a1 k
  unfold poly_Add.f
  refine LeO.bind (poly_is.mono _ _) (fun b => LeO.ite (LeO.ite (LeO.bind ?_ (fun l => LeO.refl _)) (LeO.refl _)) (LeO.refl _))
  exact LeO.bind (layL_mono (fun a => poly_mul.mono _ _ _) _ _ _) (fun l => layL_mono (fun a => poly_mul.mono _ _ _) _ _ _)
set_option maxHeartbeats 1000000 in
theorem poly_Add.calls_yes (k : Nat) (A0 : Option Addr) (c0 : Nat) (l0 : List Int) (A1 : Option Addr) (c1 : Nat) (l1 : List Int) (l : List Int) (w : World) (hr0 : Kd.C (Kd.int .i64) w A0 l0.length l0) (hc0 : l0.length ≤ c0) (hr1 : Kd.C (Kd.int .i64) w A1 l1.length l1) (hc1 : l1.length ≤ c1) (hb : poly_is.f k [l0, l1] = some true) (n : Nat) (hl : n ≤ 35184372088832) (hn : n = max l0.length l1.length) (hlay : poly_Add.L k l0 l1 = some l) :
    Calls Try.prog 20 #[.slice A0 l0.length c0, .slice A1 l1.length c1] w fun e w' => ∃ g cap : Nat, e = .returned (.tuple #[.slice (some ⟨g, 0, none⟩) (fin l).length cap, .int .i64 0]) ∧ w'.ownsRow w.heap.size 3 1 (.slice (some ⟨g, 0, none⟩) (fin l).length cap) (fin l).length (encs (Value.int .i64) (fin l)) ∧ Below w.heap.size w w' := by
  have HR := Aside0.mk hr0
  have HNN := Aside0.mk hn
  have HC := Aside0.mk hc0
  have HR1 := Aside0.mk hr1
  have HC1 := Aside0.mk hc1
  have HI := Aside0.mk hb
  have HL := Aside0.mk hlay
  clear hr0 hc0 hr1 hc1 hb hlay hn
  go_enter Try.func20, Try.ntmps20
  go_wp2_with fail
  have hB2 : Below w.heap.size w (((w.alloc (.cells #[.slice A0 l0.length c0] 22)).alloc (.cells #[.slice A1 l1.length c1] 22)).alloc (.cells #[.slice A0 l0.length c0, .slice A1 l1.length c1] 22)) := below_alloc (below_alloc (below_alloc (Below.refl _ _) _) _) _
  have hc2 : (((w.alloc (.cells #[.slice A0 l0.length c0] 22)).alloc (.cells #[.slice A1 l1.length c1] 22)).alloc (.cells #[.slice A0 l0.length c0, .slice A1 l1.length c1] 22)).cell? ⟨w.heap.size + 1 + 1, 0, none⟩ = some (.slice A0 l0.length c0) := by go_simp
  have hc3 : (((w.alloc (.cells #[.slice A0 l0.length c0] 22)).alloc (.cells #[.slice A1 l1.length c1] 22)).alloc (.cells #[.slice A0 l0.length c0, .slice A1 l1.length c1] 22)).cell? ⟨w.heap.size + 1 + 1, 1, none⟩ = some (.slice A1 l1.length c1) := by go_simp
  have HX := Aside0.mk (C_two HR.out HC.out HR1.out HC1.out hB2 hc2 hc3)
  clear hB2 hc2 hc3
  refine (poly_is.calls k _ 2 [l0, l1] true _ HX.out (Nat.le_refl _) HI.out).mono ?_
  clear HX
  rintro e w' ⟨rfl, ⟨nd, rfl⟩⟩
  have hB3 : Below w.heap.size w ((((w.alloc (.cells #[.slice A0 l0.length c0] 22)).alloc (.cells #[.slice A1 l1.length c1] 22)).alloc (.cells #[.slice A0 l0.length c0, .slice A1 l1.length c1] 22)).drewN nd) := pw_below_drewN (below_alloc (below_alloc (below_alloc (Below.refl _ _) _) _) _) nd
  have hb3 : ((((w.alloc (.cells #[.slice A0 l0.length c0] 22)).alloc (.cells #[.slice A1 l1.length c1] 22)).alloc (.cells #[.slice A0 l0.length c0, .slice A1 l1.length c1] 22)).drewN nd).cell? ⟨w.heap.size, 0, none⟩ = some (.slice A0 l0.length c0) := by go_simp
  have hb4 : ((((w.alloc (.cells #[.slice A0 l0.length c0] 22)).alloc (.cells #[.slice A1 l1.length c1] 22)).alloc (.cells #[.slice A0 l0.length c0, .slice A1 l1.length c1] 22)).drewN nd).cell? ⟨w.heap.size + 1, 0, none⟩ = some (.slice A1 l1.length c1) := by go_simp
  have HB3 := Aside0.mk hB3
  have Hb3 := Aside0.mk hb3
  have Hb4 := Aside0.mk hb4
  clear hB3 hb3 hb4
  by_cases hlt : l0.length < l1.length
  · have hd0 : ((l0.length : Int) < (l1.length : Int)) = True := eq_true (by omega)
    have hnn : n = l1.length := by have := HNN.out; omega
    subst hnn
    go_wp2_with fail
    have Hq := Aside0.mk (build_calls_Add l1.length _ l hl w.heap.size (w.heap.size + 1) (fun B g cap W1 hst => add1_calls k _ B g cap w.heap.size (w.heap.size + 1) A0 c0 l0 (Kd.C_below HR.out HB3.out) Hb3.out A1 c1 l1 (Kd.C_below HR1.out HB3.out) Hb4.out _ l W1 hst (by have := HL.out; unfold poly_Add.L at this; rw [← HNN.out] at this; exact this)))
    refine Hq.out.mono ?_
    clear Hq
    rintro e w' ⟨g, cap, rfl, ho, hb⟩
    have HO := Aside0.mk (own_weaken ho HB3.out.size)
    have HB := Aside0.mk (below_then HB3.out HB3.out.size hb)
    clear ho hb HB3 Hb3 Hb4
    go_wp2
    go_ret2
    exact ⟨g, cap, rfl, HO.out, HB.out⟩
  · have hd0 : ((l0.length : Int) < (l1.length : Int)) = False := eq_false (by omega)
    have hnn : n = l0.length := by have := HNN.out; omega
    subst hnn
    go_wp2_with fail
    have Hq := Aside0.mk (build_calls_Add l0.length _ l hl w.heap.size (w.heap.size + 1) (fun B g cap W1 hst => add1_calls k _ B g cap w.heap.size (w.heap.size + 1) A0 c0 l0 (Kd.C_below HR.out HB3.out) Hb3.out A1 c1 l1 (Kd.C_below HR1.out HB3.out) Hb4.out _ l W1 hst (by have := HL.out; unfold poly_Add.L at this; rw [← HNN.out] at this; exact this)))
    refine Hq.out.mono ?_
    clear Hq
    rintro e w' ⟨g, cap, rfl, ho, hb⟩
    have HO := Aside0.mk (own_weaken ho HB3.out.size)
    have HB := Aside0.mk (below_then HB3.out HB3.out.size hb)
    clear ho hb HB3 Hb3 Hb4
    go_wp2
    go_ret2
    exact ⟨g, cap, rfl, HO.out, HB.out⟩
set_option maxHeartbeats 1000000 in
theorem poly_Add.calls (k : Nat) (A0 : Option Addr) (c0 : Nat) (l0 : List Int) (A1 : Option Addr) (c1 : Nat) (l1 : List Int) (r1 : List Int) (r2 : Int) (w : World) (hr0 : Kd.C (Kd.int .i64) w A0 l0.length l0) (hc0 : l0.length ≤ c0) (hr1 : Kd.C (Kd.int .i64) w A1 l1.length l1) (hc1 : l1.length ≤ c1) (h : poly_Add.f k l0 l1 = some (r1, r2)) :
    Calls Try.prog 20 #[.slice A0 l0.length c0, .slice A1 l1.length c1] w fun e w' => ∃ v0_ : Value, e = .returned (.tuple #[v0_, .int .i64 r2]) ∧ Kd.R (Kd.int .i64) 3 w' w.heap.size (fun _ => True) v0_ r1 ∧ Below w.heap.size w w' := by
  unfold poly_Add.f at h
  obtain ⟨b, hb, h⟩ := Option.bind_eq_some_iff.1 h
  cases b with
  | false =>
    have HI := Aside0.mk hb
    have HR := Aside0.mk hr0
    have HC := Aside0.mk hc0
    have HR1 := Aside0.mk hr1
    have HC1 := Aside0.mk hc1
    rw [if_neg (by simp)] at h
    simp only [Option.some.injEq, Prod.mk.injEq] at h
    obtain ⟨rfl, rfl⟩ := h
    clear hr0 hc0 hr1 hc1 hb
    go_enter Try.func20, Try.ntmps20
    go_wp2_with fail
    have hB2 : Below w.heap.size w (((w.alloc (.cells #[.slice A0 l0.length c0] 22)).alloc (.cells #[.slice A1 l1.length c1] 22)).alloc (.cells #[.slice A0 l0.length c0, .slice A1 l1.length c1] 22)) := below_alloc (below_alloc (below_alloc (Below.refl _ _) _) _) _
    have hc2 : (((w.alloc (.cells #[.slice A0 l0.length c0] 22)).alloc (.cells #[.slice A1 l1.length c1] 22)).alloc (.cells #[.slice A0 l0.length c0, .slice A1 l1.length c1] 22)).cell? ⟨w.heap.size + 1 + 1, 0, none⟩ = some (.slice A0 l0.length c0) := by go_simp
    have hc3 : (((w.alloc (.cells #[.slice A0 l0.length c0] 22)).alloc (.cells #[.slice A1 l1.length c1] 22)).alloc (.cells #[.slice A0 l0.length c0, .slice A1 l1.length c1] 22)).cell? ⟨w.heap.size + 1 + 1, 1, none⟩ = some (.slice A1 l1.length c1) := by go_simp
    have HX := Aside0.mk (C_two HR.out HC.out HR1.out HC1.out hB2 hc2 hc3)
    clear hB2 hc2 hc3
    refine (poly_is.calls k _ 2 [l0, l1] false _ HX.out (Nat.le_refl _) HI.out).mono ?_
    clear HX
    rintro e w' ⟨rfl, ⟨nd, rfl⟩⟩
    go_wp2
    go_ret2
    exact ⟨_, rfl, Kd.R_nil _ _ _ _ _, pw_below_drewN (below_alloc (below_alloc (below_alloc (Below.refl _ _) _) _) _) nd⟩
  | true =>
    rw [if_pos rfl] at h
    by_cases hl : max l0.length l1.length ≤ 35184372088832
    · rw [if_pos hl] at h
      obtain ⟨l, hlay, h⟩ := Option.bind_eq_some_iff.1 h
      simp only [Option.some.injEq, Prod.mk.injEq] at h
      obtain ⟨rfl, rfl⟩ := h
      refine (poly_Add.calls_yes k A0 c0 l0 A1 c1 l1 l w hr0 hc0 hr1 hc1 hb _ hl rfl hlay).mono ?_
      rintro e w' ⟨g, cap, rfl, ho, hb⟩
      exact ⟨_, rfl, Kd.R_of_own (h1 := fun _ => rfl) ho (fun _ _ => trivial), hb⟩
    · rw [if_neg hl] at h; exact absurd h (by simp)

/-! ### casematelaw03_add: function 18 -/
def casematelaw03_add.f (k : Nat) (l0 : List Int) (l1 : List Int) : Option (List Int) := (poly_Add.f k l0 l1).bind fun bt188 => (some bt188.1)
theorem casematelaw03_add.mono : ∀ a0 a1 k, LeO (casematelaw03_add.f k a0 a1) (casematelaw03_add.f (k + 1) a0 a1) := by
  intro a0 a1 k
  unfold casematelaw03_add.f
  repeat' first
      | (with_reducible exact poly_Add.mono _ _ _)
      | (with_reducible exact LeO.refl _)
      | (with_reducible exact LeO.none _)
      | (with_reducible refine LeO.ite ?_ ?_)
      | (with_reducible refine LeO.bind ?_ (fun _ => ?_))
      | exact poly_Add.mono _ _ _
      | exact LeO.none _
      | refine LeO.ite ?_ ?_
      | refine LeO.bind ?_ (fun _ => ?_)
set_option maxHeartbeats 8000000 in
set_option maxRecDepth 100000 in
theorem casematelaw03_add.calls (k : Nat) (A0 : Option Addr) (c0 : Nat) (l0 : List Int) (A1 : Option Addr) (c1 : Nat) (l1 : List Int) (r : List Int) (w : World) (hr0 : Kd.C (Kd.int .i64) w A0 l0.length l0) (hc0 : l0.length ≤ c0) (hr1 : Kd.C (Kd.int .i64) w A1 l1.length l1) (hc1 : l1.length ≤ c1) (h : casematelaw03_add.f k l0 l1 = some r) :
    Calls Try.prog 18 #[.slice A0 l0.length c0, .slice A1 l1.length c1] w fun e w' => ∃ v0_ : Value, e = .returned (v0_) ∧ Kd.R (Kd.int .i64) 3 w' w.heap.size (fun _ => True) v0_ r ∧ Below w.heap.size w w' := by
  have HR0 := Aside0.mk hr0
  have HC0 := Aside0.mk hc0
  clear hr0 hc0
  have HR1 := Aside0.mk hr1
  have HC1 := Aside0.mk hc1
  clear hr1 hc1
  have HB := Aside0.mk (Below.refl w.heap.size w)
  have H : ((poly_Add.f k l0 l1).bind fun bt188 => (some bt188.1)) = some r := h
  clear h
  replace H := Option.bind_eq_some_iff.mp H
  obtain ⟨⟨t188, t189⟩, A30, H⟩ := H
  replace H : (some t188) = some r := H
  have A3 := Aside0.mk A30
  clear A30
  obtain rfl := Option.some.inj H
  go_enter Try.func18, Try.ntmps18
  go_wp2_with (first | ((with_reducible refine gate_callee (f := 20) rfl ?_); refine goesL_ (some 10) rfl rfl Try.func20 (by kernel_rfl) rfl #[.slice A0 l0.length c0, .slice A1 l1.length c1] rfl (by (try simp only [List.map_toArray, List.map_cons, List.map_nil]); first | done | rfl | (simp only [List.length_drop, List.length_take]; rfl)) ?_; (with_reducible refine (poly_Add.calls k _ _ l0 _ _ l1 t188 t189 _ ?side1 ?side2 ?side3 ?side4 A3.out).mono ?_); (case side1 => repeat (first | exact HR0.out | (with_reducible refine Kd.C_alloc ?_ _) | (with_reducible refine Kd.C_drewN ?_ _) | (with_reducible refine Kd.C_drew ?_))); (case side2 => exact HC0.out); (case side3 => repeat (first | exact HR1.out | (with_reducible refine Kd.C_alloc ?_ _) | (with_reducible refine Kd.C_drewN ?_ _) | (with_reducible refine Kd.C_drew ?_))); (case side4 => exact HC1.out); rintro e w4 ⟨v190, rfl, ho0, hb⟩; refine ⟨_, rfl, ?_⟩; have n0_ := Aside0.mk (Kd.R_lower ho0 (below_size (by repeat (first | (with_reducible first | exact HB.out | apply below_alloc | apply pw_below_drewN | apply below_drew1) | exact HB.out)))); have n1_ := Aside0.mk (below_step (by repeat (first | (with_reducible first | exact HB.out | apply below_alloc | apply pw_below_drewN | apply below_drew1) | exact HB.out)) hb); clear HB; have HO191 := n0_; have HB := n1_; clear n0_ n1_; (try clear hb); (try clear hb2); (try clear hk); (try clear hi); (try clear ho0)))
  go_ret
  exact ⟨_, by first | rfl | (simp [errW_none, errW_some] <;> rfl) | (simp [*, errW_none, errW_some] <;> rfl), by (with_reducible repeat (first | apply Kd.R_alloc | apply Kd.R_drewN | apply Kd.R_drew)); exact HO191.out, by repeat (first | (with_reducible first | exact HB.out | apply below_alloc | apply pw_below_drewN | apply below_drew1) | exact HB.out)⟩

end Go.Proofs.Ytfjmbmlmbchglaa.P

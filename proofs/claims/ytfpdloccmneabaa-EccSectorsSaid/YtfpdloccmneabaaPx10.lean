/- What Go functions of the translation come to, and that their calls come to just that. No condition but that the plain function answers. -/
import Derived.Test.YtfpdloccmneabaaPx0
import Derived.Test.YtfpdloccmneabaaPx6
import Derived.Test.YtfpdloccmneabaaUp
namespace Go.Proofs.Ytfpdloccmneabaa.P
open Go.RowKit Go.Proofs.YtfpdloccmneabaaW.PrintWords Go.Proofs.YtfpdloccmneabaaW.PrintLast Go.Proofs.YtfpdloccmneabaaW.PrintMore
attribute [local go_sem] max2_int min2_int max_two min_two max_three min_three max_four min_four   -- for this text's walks alone
set_option linter.unusedVariables false
set_option linter.unusedSimpArgs false
mutual
def ecc_Unpack.j0 : Nat → List Int → Bool → Int → Int → Int → Int → Int → Option ((List (S39)) × Int)
 | 0, _, _, _, _, _, _, _ => none
 | k + 1, x1, x24, x190000, x190001, x190002, x190003, x190004 => if x24 = true then (some (([] : List (S39)), 1)) else ((ecc_state.f k x190000 x190001 x190002 x190003 x190004 x1).bind fun t192 => (if t192 = 0 then (ecc_Unpack.l0 k x1 ([] : List (S39)) x190002 0 x190000 x190001 x190002 x190003 x190004) else (some (([] : List (S39)), t192))))
def ecc_Unpack.l0 : Nat → List Int → List (S39) → Int → Int → Int → Int → Int → Int → Int → Option ((List (S39)) × Int)
 | 0, _, _, _, _, _, _, _, _, _ => none
 | k + 1, x1, x9, x32, x33, x190000, x190001, x190002, x190003, x190004 => if x33 < x32 then ((ecc_whole.f x190000 x190001 x190002 x190003 x190004).bind fun t193 => (if 0 ≤ x190003 then (if x190003 ≤ (x1.length : Int) then (if x190003 ≤ t193 then (if t193 ≤ (x1.length : Int) then ((bch_Decode.f k x190004 (x1.take (x190003 : Int).toNat) ((x1.take (t193 : Int).toNat).drop (x190003 : Int).toNat)).bind fun bt205 => (if x9.length < 3518437208883 then (if 0 ≤ t193 then (ecc_Unpack.l0 k (x1.drop (t193 : Int).toNat) (x9 ++ [(⟨bt205.1, bt205.2.2.1, bt205.2.2.2⟩ : S39)]) x32 (wrap64 (x33 + 1)) x190000 x190001 x190002 x190003 x190004) else (none)) else (none))) else (none)) else (none)) else (none)) else (none))) else (some (x9, 0))
end
def ecc_Unpack.f (k : Nat) (a0_0 : Int) (a0_1 : Int) (a0_2 : Int) (a0_3 : Int) (a0_4 : Int) (l1 : List Int) : Option ((List (S39)) × Int) := (ecc_Raw.f a0_0 a0_1 a0_2 a0_3 a0_4).bind fun bt190 => (if bt190.2 = 0 then (ecc_Unpack.j0 k l1 ((l1.length : Int) != bt190.1) a0_0 a0_1 a0_2 a0_3 a0_4) else (ecc_Unpack.j0 k l1 true a0_0 a0_1 a0_2 a0_3 a0_4))
theorem ecc_Unpack.mono_l : ∀ k, (∀ y0 y1 y2 y3 y4 y5 y6, LeO (ecc_Unpack.j0 k y0 y1 y2 y3 y4 y5 y6) (ecc_Unpack.j0 (k + 1) y0 y1 y2 y3 y4 y5 y6)) ∧ (∀ y0 y1 y2 y3 y4 y5 y6 y7 y8, LeO (ecc_Unpack.l0 k y0 y1 y2 y3 y4 y5 y6 y7 y8) (ecc_Unpack.l0 (k + 1) y0 y1 y2 y3 y4 y5 y6 y7 y8))
 | 0 => ⟨fun _ _ _ _ _ _ _ r h => by simp [ecc_Unpack.j0] at h, fun _ _ _ _ _ _ _ _ _ r h => by simp [ecc_Unpack.l0] at h⟩
 | k + 1 => by
  obtain ⟨ih0, ih1⟩ := ecc_Unpack.mono_l k
  refine ⟨?_, ?_⟩
  ·intro y0 y1 y2 y3 y4 y5 y6
   unfold ecc_Unpack.j0
   repeat' first
   | (with_reducible exact ih0 _ _ _ _ _ _ _)
   | (with_reducible exact ih1 _ _ _ _ _ _ _ _ _)
   | (with_reducible exact bch_Decode.mono _ _ _ _)
   | (with_reducible exact ecc_state.mono _ _ _ _ _ _ _)
   | (with_reducible exact LeO.refl _)
   | (with_reducible exact LeO.none _)
   | (with_reducible refine LeO.ite ?_ ?_)
   | (with_reducible refine LeO.bind ?_ (fun _ => ?_))
   | exact ih0 _ _ _ _ _ _ _
   | exact ih1 _ _ _ _ _ _ _ _ _
   | exact bch_Decode.mono _ _ _ _
   | exact ecc_state.mono _ _ _ _ _ _ _
   | exact LeO.none _
   | refine LeO.ite ?_ ?_
   | refine LeO.bind ?_ (fun _ => ?_)
  ·intro y0 y1 y2 y3 y4 y5 y6 y7 y8
   unfold ecc_Unpack.l0
   repeat' first
   | (with_reducible exact ih0 _ _ _ _ _ _ _)
   | (with_reducible exact ih1 _ _ _ _ _ _ _ _ _)
   | (with_reducible exact bch_Decode.mono _ _ _ _)
   | (with_reducible exact ecc_state.mono _ _ _ _ _ _ _)
   | (with_reducible exact LeO.refl _)
   | (with_reducible exact LeO.none _)
   | (with_reducible refine LeO.ite ?_ ?_)
   | (with_reducible refine LeO.bind ?_ (fun _ => ?_))
   | exact ih0 _ _ _ _ _ _ _
   | exact ih1 _ _ _ _ _ _ _ _ _
   | exact bch_Decode.mono _ _ _ _
   | exact ecc_state.mono _ _ _ _ _ _ _
   | exact LeO.none _
   | refine LeO.ite ?_ ?_
   | refine LeO.bind ?_ (fun _ => ?_)
theorem ecc_Unpack.mono : ∀ a0 a1 a2 a3 a4 a5 k, LeO (ecc_Unpack.f k a0 a1 a2 a3 a4 a5) (ecc_Unpack.f (k + 1) a0 a1 a2 a3 a4 a5) := by
 intro a0 a1 a2 a3 a4 a5 k
 obtain ⟨ih0, ih1⟩ := ecc_Unpack.mono_l k
 unfold ecc_Unpack.f
 repeat' first
   | (with_reducible exact ih0 _ _ _ _ _ _ _)
   | (with_reducible exact ih1 _ _ _ _ _ _ _ _ _)
   | (with_reducible exact bch_Decode.mono _ _ _ _)
   | (with_reducible exact ecc_state.mono _ _ _ _ _ _ _)
   | (with_reducible exact LeO.refl _)
   | (with_reducible exact LeO.none _)
   | (with_reducible refine LeO.ite ?_ ?_)
   | (with_reducible refine LeO.bind ?_ (fun _ => ?_))
   | exact ih0 _ _ _ _ _ _ _
   | exact ih1 _ _ _ _ _ _ _ _ _
   | exact bch_Decode.mono _ _ _ _
   | exact ecc_state.mono _ _ _ _ _ _ _
   | exact LeO.none _
   | refine LeO.ite ?_ ?_
   | refine LeO.bind ?_ (fun _ => ?_)
def ecc_Unpack.T12 : Bool × List (List Nat × List Nat) := (true, [([], []), ([0], [0]), ([], []), ([], []), ([3], [3]), ([], []), ([5], [5]), ([2, 4, 6], [2, 4, 6]), ([], []), ([], []), ([9], [9]), ([], []), ([], []), ([8, 10, 11, 12], [8, 10, 11, 12]), ([1, 7, 13], [1, 7, 13]), ([14], [14]), ([15], [15]), ([15], [15]), ([15], [15]), ([15], [15]), ([0, 1, 2, 3, 4, 5, 6, 7, 8, 9, 10, 11, 12, 13, 14, 15, 16], []), ([20, 16, 14, 0, 1, 2, 3, 4, 5, 6, 7, 8, 9, 10, 11, 12, 13, 14, 15, 16], [16, 20]), ([0, 1, 2, 3, 4, 5, 6, 7, 8, 9, 10, 11, 12, 13, 14, 15, 16, 17, 18, 20, 21], []), ([22, 18, 21, 0, 1, 2, 3, 4, 5, 6, 7, 8, 9, 10, 11, 12, 13, 14, 15, 16, 17, 18, 20, 21], [18, 22]), ([0, 1, 2, 3, 4, 5, 6, 7, 8, 9, 10, 11, 12, 13, 14, 15, 16, 17, 18, 19, 20, 21, 22, 23], []), ([24, 19, 23, 0, 1, 2, 3, 4, 5, 6, 7, 8, 9, 10, 11, 12, 13, 14, 15, 16, 17, 18, 19, 20, 21, 22, 23], [19, 24])])
def ecc_Unpack.B12 : List Nat := [0, 1, 0, 0, 8, 0, 32, 124, 0, 0, 512, 0, 0, 7936, 16383, 32767, 65535, 65535, 65535, 65535, 131071, 1179647, 3670015, 7864319, 16777215, 33554431]
theorem ecc_Unpack.tab12 : rtab .any (opsOf Try.f13 12) = ecc_Unpack.T12 := by kernel_rfl
theorem ecc_Unpack.bits12 : waitsOk ecc_Unpack.T12.2 ecc_Unpack.B12 = true := by kernel_rfl
section
variable {P : Program}
/-- A cut with a capacity, that is its end. -/
theorem ecc_Unpack.cut_to3 (t e : TypeId) (kh : IntKind) {i : TypeInfo} (ht : P.underlying t = some (.slice e)) (hi : P.info? e = some i) (A : Option Addr) (n c : Nat) (j : Int) (h0 : 0 ≤ j) (hm : j ≤ n) (hc : n ≤ c) :
  ∀ W : World, (Instr.slice t (.slice A n c) none (some (.int kh j)) (some (.int kh j))).run P W = .ok (.slice A j.toNat j.toNat) W := by
 intro W
 have hel : P.elem t = e := by simp [Program.elem, ht]
 have hu : P.underlying t = some (.slice (P.elem t)) := by rw [hel]; exact ht
 have ha : (A.map fun x => x.add 0) = A := by cases A <;> simp [Addr.add]
 rw [run_slice_hm W t A n c hu kh kh j j h0 (Int.le_refl _) (by omega), hel]
 simp [sizeOf, typeInfo, hi, sliced, Result.andThen, ha]
theorem ecc_Unpack.cut_mid3 (t e : TypeId) (kl kh : IntKind) {i : TypeInfo} (ht : P.underlying t = some (.slice e)) (hi : P.info? e = some i) (size : Nat) (hsz : i.size = size) (A : Option Addr) (n c : Nat) (lo hi' : Int) (h0 : 0 ≤ lo) (h1 : lo ≤ hi') (h2 : hi' ≤ n) (hc : n ≤ c) :
  ∀ W : World, (Instr.slice t (.slice A n c) (some (.int kl lo)) (some (.int kh hi')) (some (.int kh hi'))).run P W = .ok (.slice (if hi'.toNat = lo.toNat then A else A.map (·.add (lo.toNat * size))) (hi'.toNat - lo.toNat) (hi'.toNat - lo.toNat)) W := by
 intro W
 have hel : P.elem t = e := by simp [Program.elem, ht]
 have hu : P.underlying t = some (.slice (P.elem t)) := by rw [hel]; exact ht
 rw [run_slice_lhm W t A n c hu kl kh kh lo hi' hi' h0 h1 (Int.le_refl _) (by omega), hel]
 simp [sizeOf, typeInfo, hi, hsz, sliced, Result.andThen]
end
set_option maxHeartbeats 8000000 in
set_option maxRecDepth 100000 in
theorem ecc_Unpack.calls (k : Nat) (a0_0 : Int) (a0_1 : Int) (a0_2 : Int) (a0_3 : Int) (a0_4 : Int) (P1_ : Nat → Prop) (A1 : Option Addr) (c1 : Nat) (l1 : List Int) (r1 : List (S39)) (r2 : Int) (w : World) (hs1 : Kd.V (Kd.int .u8) 5 w w.heap.size (fun k_ => P1_ k_) (.slice A1 l1.length c1) l1) (h : ecc_Unpack.f k a0_0 a0_1 a0_2 a0_3 a0_4 l1 = some (r1, r2)) :
  Calls Try.prog 13 #[.agg #[.int .i64 a0_0, .int .i64 a0_1, .int .i64 a0_2, .int .i64 a0_3, .int .i64 a0_4], .slice A1 l1.length c1] w fun e w' => ∃ v0_ : Value, e = .returned (.tuple #[v0_, .int .i64 r2]) ∧ Kd.S k39 39 w' w.heap.size (fun k_ => (w.heap.size ≤ k_)) v0_ r1 ∧ Below w.heap.size w w' := by
 have hu23 := Try.underlying23
 have hu39 := Try.underlying39
 have HO1 := Aside0.mk (show Kd.V (Kd.int .u8) 5 w w.heap.size (fun k_ => (P1_ k_ ∨ w.heap.size ≤ k_)) (.slice A1 l1.length c1) l1 from Kd.V_mono hs1 (fun k_ hk => .inl hk))
 have HB := Aside0.mk (Below.refl w.heap.size w)
 have H := h
 unfold ecc_Unpack.f at H
 clear h
 obtain ⟨⟨t190, t191⟩, A3, H⟩ := uO H
 dsimp only at H
 have HC4 := Aside0.mk H
 clear H
 go_enter Try.func13, Try.ntmps13
 go_upto_region 2 with (first | ((with_reducible refine gate_dst (N := 2) rfl ?_); (try (refine gate_guard (by rfl) ?_; dsimp only)); refine uX 2 #[.int .i64 a0_0, .int .i64 a0_1, .int .i64 a0_2, .int .i64 a0_3, .int .i64 a0_4] 23 ?_; intro gb189 hg w5 hbox hb; replace HO1 := uA (Kd.V_below (Kd.V_elderB (uV HO1.out) gb189 (Nat.le_of_eq hg.symm)) hb); have BK189 := uA hbox; have GW189 := uGe HB hg; have GE189 := uGe HB hg; replace HB := uBb HB hb; clear hg; obtain ⟨_, _, _, _, _, _, _, _, _, _⟩ := uZ BK189) | ((with_reducible refine gate_callee (f := 21) rfl ?_); refine uG (some 14) Try.func21 #[.agg #[.int .i64 a0_0, .int .i64 a0_1, .int .i64 a0_2, .int .i64 a0_3, .int .i64 a0_4]] ?_; (with_reducible refine (ecc_Raw.calls a0_0 a0_1 a0_2 a0_3 a0_4 t190 t191 _ A3.out).mono ?_); rintro e w7 ⟨rfl, hb⟩; refine ⟨_, rfl, ?_⟩; replace HO1 := uVb HO1 hb; replace BK189 := uKb BK189 hb; replace HB := uBb HB hb))
 (try simp only [Act.put, List.setIfInBounds_toArray, List.set_cons_zero, List.set_cons_succ])
 go_cut [24] (fun v24 wc => ∃ (kq : Nat) (x24_3 : Bool), v24 = .bool x24_3 ∧ Aside0 (ecc_Unpack.j0 kq l1 x24_3 a0_0 a0_1 a0_2 a0_3 a0_4 = some (r1, r2)) ∧ Aside0 (kq ≤ k) ∧ Aside0 (Kd.V (Kd.int .u8) 5 wc w.heap.size (fun k_ => (P1_ k_ ∨ w.heap.size ≤ k_) ∧ k_ ≠ gb189) (.slice A1 l1.length c1) l1) ∧ Aside0 (wc.heap[gb189]? = some (.cells #[.int .i64 a0_0, .int .i64 a0_1, .int .i64 a0_2, .int .i64 a0_3, .int .i64 a0_4] 23 (0, 0))) ∧ Aside0 (Below w.heap.size w wc))
 case first =>
  have H := HC4.out
  clear HC4
  by_cases c8 : t191 = 0
  ·rw [if_pos c8] at H
   have c8b0 : (t191 == 0) = true := beq_iff_eq.mpr c8
   have c8b1 : (t191 != 0) = false := bne_eq_false_iff_eq.mpr c8
   clear c8
   (first | rw [c8b0] | (simp only [i64_w, i32_w]; rw [c8b0]) | skip)
   have H' := Aside0.mk H
   clear H
   go_wp2
   go_meet
   case rel => exact ⟨_, (((l1.length : Int) != t190)), rfl, H', ⟨by omega⟩, ⟨uV HO1.out⟩, ⟨uK BK189.out⟩, ⟨uB HB.out⟩⟩
  ·rw [if_neg c8] at H
   have c8b0 : (t191 == 0) = false := beq_eq_false_iff_ne.mpr c8
   have c8b1 : (t191 != 0) = true := bne_iff_ne.mpr c8
   (first | rw [c8b0] | (simp only [i64_w, i32_w]; rw [c8b0]) | skip)
   have H' := Aside0.mk H
   clear H
   go_wp2
   go_meet
   case rel => exact ⟨_, (true), rfl, H', ⟨by omega⟩, ⟨uV HO1.out⟩, ⟨uK BK189.out⟩, ⟨uB HB.out⟩⟩
 case rest =>
  clear HC4
  obtain ⟨kq, x24_3, rfl, HA, HJ3, HO_1, BK189, HB⟩ := hcut
  cases kq with
  | zero => exact absurd HA.out (by simp [ecc_Unpack.j0])
  | succ kj3 =>
   have H := HA.out
   clear HA
   simp only [ecc_Unpack.j0] at H
   by_cases c9 : x24_3 = true
   ·subst c9
    replace H := uI rfl H
    simp only [Option.some.injEq, Prod.mk.injEq] at H
    obtain ⟨rfl, rfl⟩ := H
    go_wp2
    go_ret2
    exact ⟨_, by first | rfl | (simp [errW_none, errW_some] <;> rfl) | (simp [*, errW_none, errW_some] <;> rfl), by first | exact Kd.S_nil _ _ _ _ _ | exact Kd.N_nil _ _ _ _ _ | exact Kd.V_nil _ _ _ _ _ | exact Kd.Q_nil _ _ _ _ _ | exact Kd.R_nil _ _ _ _ _, uB HB.out⟩
   ·replace c9 := Bool.eq_false_iff.mpr c9
    subst c9
    replace H := uJ uN0 H
    obtain ⟨t192, A10, H⟩ := uO H
    by_cases c11 : t192 = 0
    ·rw [if_pos c11] at H
     have c11b0 : (t192 == 0) = true := beq_iff_eq.mpr c11
     have c11b1 : (t192 != 0) = false := bne_eq_false_iff_eq.mpr c11
     clear c11
     have H' := Aside0.mk H
     clear H
     obtain ⟨_, _, _, _, _, _, _, _, _, _⟩ := uZ BK189
     go_wp2_with (first | ((with_reducible refine gate_callee (f := 26) rfl ?_); refine uG (some 27) Try.func26 #[.agg #[.int .i64 a0_0, .int .i64 a0_1, .int .i64 a0_2, .int .i64 a0_3, .int .i64 a0_4], .slice A1 l1.length c1] ?_; (with_reducible refine (ecc_state.calls kj3 a0_0 a0_1 a0_2 a0_3 a0_4 _ _ l1 t192 _ ?side1 ?side2 A10.out).mono ?_); (case side1 => exact uC (Kd.V_reads' HO_1.out).2.2); (case side2 => exact (Kd.V_reads' HO_1.out).2.1); rintro e w13 ⟨rfl, hb⟩; refine ⟨_, rfl, ?_⟩; replace HO_1 := uVb HO_1 hb; replace BK189 := uKb BK189 hb; replace HB := uBb HB hb; obtain ⟨_, _, _, _, _, _, _, _, _, _⟩ := uZ BK189))
     go_loopg [1, 9, 33] kj3 (fun kq v1 v9 v33 w' => ∃ (x1_2 : List Int) (x9_2 : List (S39)) (x33_2 : Int), v33 = .int .i64 x33_2 ∧ Aside0 (ecc_Unpack.l0 kq x1_2 x9_2 a0_2 x33_2 a0_0 a0_1 a0_2 a0_3 a0_4 = some (r1, r2)) ∧ Aside0 (kq ≤ kj3) ∧ Aside0 (Kd.V (Kd.int .u8) 5 w' w.heap.size (fun k_ => (P1_ k_ ∨ w.heap.size ≤ k_) ∧ some k_ ≠ (v9 : Value).ownBlock ∧ k_ ≠ gb189) v1 x1_2) ∧ Aside0 (Kd.S k39 39 w' w.heap.size (fun k_ => (w.heap.size ≤ k_)) v9 x9_2) ∧ Aside0 (w'.heap[gb189]? = some (.cells #[.int .i64 a0_0, .int .i64 a0_1, .int .i64 a0_2, .int .i64 a0_3, .int .i64 a0_4] 23 (0, 0))) ∧ Aside0 (Below w.heap.size w w'))
     case atStart => exact ⟨(l1), (([] : List (S39))), (0), rfl, H', ⟨Nat.le_refl _⟩, ⟨by (with_reducible repeat (first | apply Kd.V_alloc | apply Kd.V_drewN | apply Kd.V_drew)); exact Kd.V_mono HO_1.out (fun _ hk => ⟨hk.1, ⟨(by simp [Value.ownBlock]), hk.2⟩⟩)⟩, ⟨by first | exact Kd.S_nil _ _ _ _ _ | exact Kd.N_nil _ _ _ _ _ | exact Kd.V_nil _ _ _ _ _ | exact Kd.Q_nil _ _ _ _ _ | exact Kd.R_nil _ _ _ _ _⟩, ⟨uK BK189.out⟩, ⟨uB HB.out⟩⟩
     case round =>
      clear H'
      obtain ⟨x1_2, x9_2, x33_2, rfl, HA, HK2, HO_1, HO_9, BK189, HB⟩ := hrel
      cases gk with
      | zero => exact absurd HA.out (by simp [ecc_Unpack.l0])
      | succ k2 =>
       have H := HA.out
       clear HA
       simp only [ecc_Unpack.l0] at H
       by_cases c15 : x33_2 < a0_2
       ·rw [if_pos c15] at H
        have c15b0 : decide (x33_2 < a0_2) = true := decide_eq_true c15
        clear c15
        obtain ⟨t193, A16, H⟩ := uO H
        by_cases c17 : 0 ≤ a0_3
        ·rw [if_pos c17] at H
         have c17b0 := eq_true c17
         have c17b1 : decide (0 ≤ a0_3) = true := decide_eq_true c17
         clear c17
         by_cases c18 : a0_3 ≤ (x1_2.length : Int)
         ·rw [if_pos c18] at H
          have c18b0 := eq_true c18
          have c18b1 : decide (a0_3 ≤ (x1_2.length : Int)) = true := decide_eq_true c18
          clear c18
          obtain ⟨y195, Ny195⟩ := uEA ((x1_2.take (a0_3 : Int).toNat) : List Int)
          rw [← Ny195.out] at H
          have c19b0 := eq_true (of_decide_eq_true (by first | (with_reducible assumption) | assumption) : 0 ≤ a0_3)
          by_cases c20 : a0_3 ≤ t193
          ·rw [if_pos c20] at H
           have c20b0 := eq_true c20
           have c20b1 : decide (a0_3 ≤ t193) = true := decide_eq_true c20
           clear c20
           by_cases c21 : t193 ≤ (x1_2.length : Int)
           ·rw [if_pos c21] at H
            have c21b0 := eq_true c21
            have c21b1 : decide (t193 ≤ (x1_2.length : Int)) = true := decide_eq_true c21
            clear c21
            obtain ⟨y200, Ny200⟩ := uEA (((x1_2.take (t193 : Int).toNat).drop (a0_3 : Int).toNat) : List Int)
            rw [← Ny200.out] at H
            obtain ⟨⟨t205, t206, t207, t208⟩, A22, H⟩ := uO H
            dsimp only at H
            by_cases c23 : x9_2.length < 3518437208883
            ·rw [if_pos c23] at H
             have LMc23 := Aside0.mk c23
             clear c23
             obtain ⟨y213, Ny213⟩ := uEA ((x9_2 ++ [(⟨t205, t207, t208⟩ : S39)]) : List (S39))
             rw [← Ny213.out] at H
             by_cases c24 : 0 ≤ t193
             ·rw [if_pos c24] at H
              have c24b0 := eq_true c24
              have c24b1 : decide (0 ≤ t193) = true := decide_eq_true c24
              clear c24
              have c25b0 := eq_true (of_decide_eq_true (by first | (with_reducible assumption) | assumption) : t193 ≤ (x1_2.length : Int))
              obtain ⟨y216, Ny216⟩ := uEA ((x1_2.drop (t193 : Int).toNat) : List Int)
              rw [← Ny216.out] at H
              have H' := Aside0.mk H
              clear H
              obtain ⟨_, _, _, _, _, _, _, _, _, _⟩ := uZ BK189
              try go_wp2_with (first | ((with_reducible refine gate_callee (f := 27) rfl ?_); refine uG (some 36) Try.func27 #[.agg #[.int .i64 a0_0, .int .i64 a0_1, .int .i64 a0_2, .int .i64 a0_3, .int .i64 a0_4]] ?_; (with_reducible refine (ecc_whole.calls a0_0 a0_1 a0_2 a0_3 a0_4 t193 _ A16.out).mono ?_); rintro e w27 ⟨rfl, hb⟩; refine ⟨_, rfl, ?_⟩; replace HO_1 := uVb HO_1 hb; replace HO_9 := uSb HO_9 hb; replace BK189 := uKb BK189 hb; replace HB := uBb HB hb) | ((with_reducible refine gate_dst (N := 11) rfl ?_); (try (refine gate_guard (by rfl) ?_; dsimp only)); refine uX 11 #[.slice none 0 0, .int .i64 0, .int .i64 0] 39 ?_; intro gb194 hg w28 hbox hb; replace HO_1 := uA (Kd.V_below (Kd.V_elderB (uV HO_1.out) gb194 (Nat.le_of_eq hg.symm)) hb); replace HO_9 := uA (Kd.S_below (Kd.S_elderB (uS HO_9.out) gb194 (Nat.le_of_eq hg.symm)) hb); have BK194 := uA hbox; have GW194 := uGe HB hg; have GE194 := uGe HB hg; replace HB := uBb HB hb; have NB189_194 := uA (by rw [hg]; exact Nat.ne_of_lt (blk_lt (g := gb189) (o := .cells #[.int .i64 a0_0, .int .i64 a0_1, .int .i64 a0_2, .int .i64 a0_3, .int .i64 a0_4] 23 (0, 0)) (uK BK189.out)) : gb189 ≠ gb194); have NB194_189 := uA (by rw [hg]; exact Nat.ne_of_gt (blk_lt (g := gb189) (o := .cells #[.int .i64 a0_0, .int .i64 a0_1, .int .i64 a0_2, .int .i64 a0_3, .int .i64 a0_4] 23 (0, 0)) (uK BK189.out)) : gb194 ≠ gb189); replace BK189 := uKb BK189 hb; clear hg))
              replace HO_1 := uA (Kd.V_drew HO_1.out); replace HO_9 := uA (Kd.S_drew HO_9.out); replace BK189 := uA (blk_drew BK189.out); replace BK194 := uA (blk_drew BK194.out); replace HB := uA (below_drew1 HB.out)
              obtain ⟨Ao31, co31, eo31⟩ := Kd.V_slice HO_1.out
              (first | subst eo31 | (injection eo31 with f1_ f2_ f3_; have f4_ := f1_.symm; have f5_ := f3_.symm; clear f1_ f2_ f3_; subst f4_; subst f5_))
              have q30 : (a0_3 : Int) ≤ ((x1_2.length : Int) : Int) := of_decide_eq_true (by first | (with_reducible assumption) | assumption)
              obtain ⟨i030, hi030, _, hsz30, _⟩ := info_parts info5
              have hroom30 : x1_2.length ≤ co31 := (Kd.V_reads' HO_1.out).2.1
              have hC30 : Kd.F (Kd.int .u8) _ _ Ao31 x1_2.length x1_2 := (Kd.V_at (base := w.heap.size) HO_1.out).2.2
              have hcut30 := ecc_Unpack.cut_to3 (P := Try.prog) 26 5 .i64 Try.underlying26 hi030 Ao31 x1_2.length co31 a0_3 (of_decide_eq_true (by first | (with_reducible assumption) | assumption)) q30 hroom30
              have hr30 := Kd.F_take (m := (a0_3 : Int).toNat) hC30 (by omega)
              have hy30 : y195.length = (a0_3 : Int).toNat := (by rw [Ny195.out, List.length_take]; omega)
              rw [← Ny195.out] at hr30
              rw [← hy30] at hcut30
              have HO199 := Aside0.mk (show Kd.V (Kd.int .u8) 5 _ w.heap.size _ (.slice Ao31 y195.length y195.length) y195 from Kd.V_mk (by omega) hr30)
              have HC199 := Aside0.mk (show y195.length ≤ y195.length from by omega)
              clear hr30 hC30 hroom30 hi030 hsz30
              have KY30 := Aside0.mk hy30
              clear hy30
              replace q30 := eq_true q30
              have q32 : (t193 : Int) ≤ ((x1_2.length : Int) : Int) := of_decide_eq_true (by first | (with_reducible assumption) | assumption)
              obtain ⟨i032, hi032, _, hsz32, _⟩ := info_parts info5
              have hroom32 : x1_2.length ≤ co31 := (Kd.V_reads' HO_1.out).2.1
              have hC32 : Kd.F (Kd.int .u8) _ _ Ao31 x1_2.length x1_2 := (Kd.V_at (base := w.heap.size) HO_1.out).2.2
              have ql32 : (a0_3 : Int) ≤ (t193 : Int) := of_decide_eq_true (by first | (with_reducible assumption) | assumption)
              have q032 : (0 : Int) ≤ (a0_3 : Int) := of_decide_eq_true (by first | (with_reducible assumption) | assumption)
              have hcut32 := ecc_Unpack.cut_mid3 (P := Try.prog) 26 5 .i64 .i64 Try.underlying26 hi032 1 hsz32 Ao31 x1_2.length co31 a0_3 t193 q032 ql32 q32 hroom32
              have hr32 := Kd.F_cut (m := (a0_3 : Int).toNat) (c := (t193 : Int).toNat) (Kd.F_take (m := (t193 : Int).toNat) hC32 (by omega)) (by rw [List.length_take]; omega) (by rw [List.length_take]; omega)
              obtain ⟨A32, hA32⟩ : ∃ A1, A1 = (if (t193 : Int).toNat = (a0_3 : Int).toNat then Ao31 else (Ao31 : Option Addr).map (·.add ((a0_3 : Int).toNat * 1))) := ⟨_, rfl⟩
              have hy32 : y200.length = (t193 : Int).toNat - (a0_3 : Int).toNat := (by rw [Ny200.out, List.length_drop, List.length_take] <;> omega)
              rw [show ((x1_2).take (t193 : Int).toNat).drop (a0_3 : Int).toNat = y200 from Ny200.out.symm] at hr32
              replace hr32 : Kd.F (Kd.int .u8) _ _ A32 y200.length y200 := (by rw [hA32]; exact hr32)
              rw [← hy32, ← hA32] at hcut32
              have HO204 := Aside0.mk (show Kd.V (Kd.int .u8) 5 _ w.heap.size _ (.slice A32 y200.length y200.length) y200 from Kd.V_mk (Nat.le_refl _) hr32)
              have HC204 := Aside0.mk (show y200.length ≤ y200.length from Nat.le_refl _)
              clear hr32 hC32 hroom32 hi032 hsz32
              have KY32 := Aside0.mk hy32
              have KA32 := Aside0.mk hA32
              clear hy32 hA32
              replace q32 := eq_true q32
              refine start_ (n := 26) (S := fun w' => w'.cell? ⟨gb189, 0, none⟩ = some (.int .i64 a0_0) ∧ w'.cell? ⟨gb189, 1, none⟩ = some (.int .i64 a0_1) ∧ w'.cell? ⟨gb189, 2, none⟩ = some (.int .i64 a0_2) ∧ w'.cell? ⟨gb189, 3, none⟩ = some (.int .i64 a0_3) ∧ w'.cell? ⟨gb189, 4, none⟩ = some (.int .i64 a0_4)) (ds := []) #[false, false, false, false, false, false, false, false, false, false, false, false, false, false, false, false, false, false, false, false, false, false, false, false, false, false] (by kernel_rfl) rfl rfl ⟨(blk_cell BK189.out 0).trans rfl, (blk_cell BK189.out 1).trans rfl, (blk_cell BK189.out 2).trans rfl, (blk_cell BK189.out 3).trans rfl, (blk_cell BK189.out 4).trans rfl⟩ (fun hHeld => ?_); refine with_tabW ecc_Unpack.tab12 ecc_Unpack.bits12 (fun HT_ HW_ => ?_)
              generalize w28.drew = w29 at HO_1 HO_9 BK189 BK194 HB HO199 HO204 hHeld ⊢
              refine uP HT_ 0 (some 38) (lb 26 1) ?_
              refine uP HT_ 2 (some 40) (lb 26 5) ?_
              refine uP HT_ 3 (some 41) (lb 26 13) ?_
              refine uP HT_ 5 (some 43) (lb 26 45) ?_
              refine uP HT_ 8 (some 46) (lb 26 301) ?_
              refine uP HT_ 9 (some 47) (lb 26 813) ?_
              refine uP HT_ 11 (some 49) (lb 26 2861) ?_
              refine uP HT_ 12 (some 50) (lb 26 6957) ?_
              refine uT HT_ HW_ 1 (some 39) (lb 26 6959) rfl hHeld ?_ (by rintro w' ⟨s0, s1, s2, s3, s4⟩; go_simp; with_reducible rfl)
              refine uT HT_ HW_ 4 (some 42) (lb 26 6975) rfl hHeld ?_ (by rintro w' ⟨s0, s1, s2, s3, s4⟩; go_simp; with_reducible rfl)
              refine uT HT_ HW_ 6 (some 44) (lb 26 7039) rfl hHeld ?_ (by rintro w' ⟨s0, s1, s2, s3, s4⟩; go_simp; with_reducible rfl)
              refine uP HT_ 7 (some 45) (lb 26 7167) ?_
              refine uT HT_ HW_ 10 (some 48) (lb 26 8191) rfl hHeld ?_ (by rintro w' ⟨s0, s1, s2, s3, s4⟩; go_simp; with_reducible rfl)
              refine uP HT_ 13 (some 51) (lb 26 16383) ?_
              refine one_ (i := 14) (N := some 52) #[true, true, true, true, true, true, true, true, true, true, true, true, true, true, true, false, false, false, false, false, false, false, false, false, false, false] rfl rfl (one_of HT_.out (by kernel_rfl)) (by decide) (fun K hK => ?_)
              refine goes_ Try.func28 (by kernel_rfl) rfl #[.int .i64 a0_4, .slice Ao31 y195.length y195.length, .slice A32 y200.length y200.length] (by rfl) rfl rfl (by (try simp only [List.map_toArray, List.map_cons, List.map_nil]); first | done | rfl | (simp only [List.length_drop, List.length_take]; rfl)) ?_
              with_reducible refine (bch_Decode.calls k2 a0_4 _ _ y195 _ _ y200 t205 t206 t207 t208 _ ?side1 ?side2 ?side3 ?side4 A22.out).mono ?_
              (case side1 => exact uC (Kd.V_reads' HO199.out).2.2)
              (case side2 => exact (Kd.V_reads' HO199.out).2.1)
              (case side3 => exact uC (Kd.V_reads' HO204.out).2.2)
              (case side4 => exact (Kd.V_reads' HO204.out).2.1)
              rintro e w33 ⟨v209, v211, rfl, ho0, ho1, hb⟩
              refine ⟨_, rfl, ?_⟩
              replace HO_1 := uA (Kd.V_mono (Kd.V_told (Kd.V_told (Kd.V_old (uV HO_1.out) hb) (Kd.R_base ho0)) (Kd.R_base ho1)) (fun _ h_ => h_.1)); replace HO_9 := uA (Kd.S_mono (Kd.S_told (Kd.S_told (Kd.S_old (uS HO_9.out) hb) (Kd.R_base ho0)) (Kd.R_base ho1)) (fun _ h_ => h_.1)); replace HO199 := uA (Kd.V_mono (Kd.V_told (Kd.V_told (Kd.V_old (uV HO199.out) hb) (Kd.R_base ho0)) (Kd.R_base ho1)) (fun _ h_ => h_.1)); replace HO204 := uA (Kd.V_mono (Kd.V_told (Kd.V_told (Kd.V_old (uV HO204.out) hb) (Kd.R_base ho0)) (Kd.R_base ho1)) (fun _ h_ => h_.1)); have HO210 := uA (Kd.R_lower (Kd.R_newM (M := fun k_ => (w.heap.size ≤ k_)) ho0 (below_size (uB HB.out)) (fun k_ h_ => h_)) (below_size (uB HB.out))); have HO212 := uA (Kd.R_lower (Kd.R_newM (M := fun k_ => (w.heap.size ≤ k_)) ho1 (below_size (uB HB.out)) (fun k_ h_ => h_)) (below_size (uB HB.out))); replace BK189 := uKb BK189 hb; replace BK194 := uKb BK194 hb; replace HB := uBb HB hb
              (try clear ho1)
              obtain ⟨Ao34, co34, eo34⟩ := Kd.R_slice HO210.out
              (first | subst eo34 | (injection eo34 with f1_ f2_ f3_; have f4_ := f1_.symm; have f5_ := f3_.symm; clear f1_ f2_ f3_; subst f4_; subst f5_))
              refine hK.out _ _ ⟨(blk_cell BK189.out 0).trans rfl, (blk_cell BK189.out 1).trans rfl, (blk_cell BK189.out 2).trans rfl, (blk_cell BK189.out 3).trans rfl, (blk_cell BK189.out 4).trans rfl⟩ (fun hHeld => ?_)
              clear hK K
              refine uN (some 52) _ ?_
              refine uP HT_ 15 (some 37) (lb 26 65535) ?_
              refine uP HT_ 16 (some 53) (lb 26 131071) ?_
              refine uP HT_ 17 (some 54) (lb 26 262143) ?_
              refine uP HT_ 18 (some 55) (lb 26 524287) ?_
              refine uP HT_ 19 (some 56) (lb 26 1048575) ?_
              refine uP HT_ 20 (some 57) (lb 26 2097151) ?_
              refine one_ (i := 21) (N := none) #[true, true, true, true, true, true, true, true, true, true, true, true, true, true, true, true, true, true, true, true, true, true, false, false, false, false] rfl rfl (one_of HT_.out (by kernel_rfl)) (by decide) (fun K hK => ?_)
              have hs35 : w33.cell? ⟨gb194, 0, none⟩ = some (.slice none 0 0) := (blk_cell BK194.out 0).trans rfl
              have hfs35 := blk_frozen BK194.out 0
              have hns35_0 := NB189_194.out
              have hms35_0 := NB194_189.out
              refine skip_ (w1 := ?_) (by rfl) rfl ?_ ?_
              rotate_left
              ·go_simp
               rfl
              refine hK.out _ _ ⟨((cell_far (p := ⟨gb194, _, none⟩) NB189_194.out _).trans (hHeld.1)), ((cell_far (p := ⟨gb194, _, none⟩) NB189_194.out _).trans (hHeld.2.1)), ((cell_far (p := ⟨gb194, _, none⟩) NB189_194.out _).trans (hHeld.2.2.1)), ((cell_far (p := ⟨gb194, _, none⟩) NB189_194.out _).trans (hHeld.2.2.2.1)), ((cell_far (p := ⟨gb194, _, none⟩) NB189_194.out _).trans (hHeld.2.2.2.2))⟩ (fun hHeld => ?_)
              clear hK K
              refine uP HT_ 22 (some 58) (lb 26 8388607) ?_
              refine one_ (i := 23) (N := none) #[true, true, true, true, true, true, true, true, true, true, true, true, true, true, true, true, true, true, true, true, true, true, true, true, false, false] rfl rfl (one_of HT_.out (by kernel_rfl)) (by decide) (fun K hK => ?_)
              have hs36 : w33.cell? ⟨gb194, 1, none⟩ = some (.int .i64 0) := (blk_cell BK194.out 1).trans rfl
              have hfs36 := blk_frozen BK194.out 1
              have hns36_0 := NB189_194.out
              have hms36_0 := NB194_189.out
              refine skip_ (w1 := ?_) (by rfl) rfl ?_ ?_
              rotate_left
              ·go_simp
               rfl
              refine hK.out _ _ ⟨((cell_far (p := ⟨gb194, _, none⟩) NB189_194.out _).trans (hHeld.1)), ((cell_far (p := ⟨gb194, _, none⟩) NB189_194.out _).trans (hHeld.2.1)), ((cell_far (p := ⟨gb194, _, none⟩) NB189_194.out _).trans (hHeld.2.2.1)), ((cell_far (p := ⟨gb194, _, none⟩) NB189_194.out _).trans (hHeld.2.2.2.1)), ((cell_far (p := ⟨gb194, _, none⟩) NB189_194.out _).trans (hHeld.2.2.2.2))⟩ (fun hHeld => ?_)
              clear hK K
              refine uP HT_ 24 (some 59) (lb 26 33554431) ?_
              refine one_ (i := 25) (N := none) #[true, true, true, true, true, true, true, true, true, true, true, true, true, true, true, true, true, true, true, true, true, true, true, true, true, true] rfl rfl (one_of HT_.out (by kernel_rfl)) (by decide) (fun K hK => ?_)
              have hs37 : w33.cell? ⟨gb194, 2, none⟩ = some (.int .i64 0) := (blk_cell BK194.out 2).trans rfl
              have hfs37 := blk_frozen BK194.out 2
              have hns37_0 := NB189_194.out
              have hms37_0 := NB194_189.out
              refine skip_ (w1 := ?_) (by rfl) rfl ?_ ?_
              rotate_left
              ·go_simp
               rfl
              refine hK.out _ _ ⟨((cell_far (p := ⟨gb194, _, none⟩) NB189_194.out _).trans (hHeld.1)), ((cell_far (p := ⟨gb194, _, none⟩) NB189_194.out _).trans (hHeld.2.1)), ((cell_far (p := ⟨gb194, _, none⟩) NB189_194.out _).trans (hHeld.2.2.1)), ((cell_far (p := ⟨gb194, _, none⟩) NB189_194.out _).trans (hHeld.2.2.2.1)), ((cell_far (p := ⟨gb194, _, none⟩) NB189_194.out _).trans (hHeld.2.2.2.2))⟩ (fun hHeld => ?_)
              clear hK K
              refine done_ (done_of HT_.out (by kernel_rfl)) ?_
              have n0_ : Aside0 (Kd.V (Kd.int .u8) 5 (((w33.setCell ⟨gb194, 0, none⟩ (.slice Ao34 t205.length co34)).setCell ⟨gb194, 1, none⟩ (.int .i64 t207)).setCell ⟨gb194, 2, none⟩ (.int .i64 t208)) w.heap.size (fun k_ => (P1_ k_ ∨ w.heap.size ≤ k_) ∧ some k_ ≠ (u9 : Value).ownBlock ∧ some k_ ≠ (.slice Ao34 t205.length co34 : Value).ownBlock ∧ some k_ ≠ (v211 : Value).ownBlock ∧ k_ ≠ gb189 ∧ k_ ≠ gb194) (.slice Ao31 x1_2.length co31) x1_2) := ⟨by (with_reducible repeat (first | apply Kd.V_alloc | apply Kd.V_drewN | apply Kd.V_drew)); exact Kd.V_mono (Kd.V_far (p := ⟨gb194, 2, none⟩) (Kd.V_far (p := ⟨gb194, 1, none⟩) (Kd.V_far (p := ⟨gb194, 0, none⟩) (Kd.V_mono HO_1.out (fun k_ hk => (⟨hk, hk.1.1.2⟩ : _ ∧ k_ ≠ gb194))) (fun _ hk => hk.2) (.slice Ao34 t205.length co34)) (fun _ hk => hk.2) (.int .i64 t207)) (fun _ hk => hk.2) (.int .i64 t208)) (fun _ hk => ⟨hk.1.1.1.1.1, ⟨hk.1.1.1.1.2.1, ⟨hk.1.1.2, ⟨hk.1.2, ⟨hk.1.1.1.1.2.2, hk.1.1.1.2⟩⟩⟩⟩⟩)⟩
              have n1_ : Aside0 (Kd.S k39 39 (((w33.setCell ⟨gb194, 0, none⟩ (.slice Ao34 t205.length co34)).setCell ⟨gb194, 1, none⟩ (.int .i64 t207)).setCell ⟨gb194, 2, none⟩ (.int .i64 t208)) w.heap.size (fun k_ => (w.heap.size ≤ k_) ∧ some k_ ≠ (.slice Ao34 t205.length co34 : Value).ownBlock ∧ some k_ ≠ (v211 : Value).ownBlock ∧ k_ ≠ gb194) u9 x9_2) := ⟨by (with_reducible repeat (first | apply Kd.S_alloc | apply Kd.S_drewN | apply Kd.S_drew)); exact Kd.S_mono (Kd.S_far (p := ⟨gb194, 2, none⟩) (Kd.S_far (p := ⟨gb194, 1, none⟩) (Kd.S_far (p := ⟨gb194, 0, none⟩) (Kd.S_mono HO_9.out (fun k_ hk => (⟨hk, hk.1.1.2⟩ : _ ∧ k_ ≠ gb194))) (fun _ hk => hk.2) (.slice Ao34 t205.length co34)) (fun _ hk => hk.2) (.int .i64 t207)) (fun _ hk => hk.2) (.int .i64 t208)) (fun _ hk => ⟨hk.1.1.1.1, ⟨hk.1.1.2, ⟨hk.1.2, hk.1.1.1.2⟩⟩⟩)⟩
              have n2_ : Aside0 (Kd.V (Kd.int .u8) 5 (((w33.setCell ⟨gb194, 0, none⟩ (.slice Ao34 t205.length co34)).setCell ⟨gb194, 1, none⟩ (.int .i64 t207)).setCell ⟨gb194, 2, none⟩ (.int .i64 t208)) w.heap.size (fun k_ => (P1_ k_ ∨ w.heap.size ≤ k_) ∧ some k_ ≠ (u9 : Value).ownBlock ∧ some k_ ≠ (.slice Ao34 t205.length co34 : Value).ownBlock ∧ some k_ ≠ (v211 : Value).ownBlock ∧ k_ ≠ gb189 ∧ k_ ≠ gb194) (.slice Ao31 y195.length y195.length) y195) := ⟨by (with_reducible repeat (first | apply Kd.V_alloc | apply Kd.V_drewN | apply Kd.V_drew)); exact Kd.V_mono (Kd.V_far (p := ⟨gb194, 2, none⟩) (Kd.V_far (p := ⟨gb194, 1, none⟩) (Kd.V_far (p := ⟨gb194, 0, none⟩) (Kd.V_mono HO199.out (fun k_ hk => (⟨hk, hk.1.1.2⟩ : _ ∧ k_ ≠ gb194))) (fun _ hk => hk.2) (.slice Ao34 t205.length co34)) (fun _ hk => hk.2) (.int .i64 t207)) (fun _ hk => hk.2) (.int .i64 t208)) (fun _ hk => ⟨hk.1.1.1.1.1, ⟨hk.1.1.1.1.2.1, ⟨hk.1.1.2, ⟨hk.1.2, ⟨hk.1.1.1.1.2.2, hk.1.1.1.2⟩⟩⟩⟩⟩)⟩
              have n3_ : Aside0 (Kd.V (Kd.int .u8) 5 (((w33.setCell ⟨gb194, 0, none⟩ (.slice Ao34 t205.length co34)).setCell ⟨gb194, 1, none⟩ (.int .i64 t207)).setCell ⟨gb194, 2, none⟩ (.int .i64 t208)) w.heap.size (fun k_ => (P1_ k_ ∨ w.heap.size ≤ k_) ∧ some k_ ≠ (u9 : Value).ownBlock ∧ some k_ ≠ (.slice Ao34 t205.length co34 : Value).ownBlock ∧ some k_ ≠ (v211 : Value).ownBlock ∧ k_ ≠ gb189 ∧ k_ ≠ gb194) (.slice A32 y200.length y200.length) y200) := ⟨by (with_reducible repeat (first | apply Kd.V_alloc | apply Kd.V_drewN | apply Kd.V_drew)); exact Kd.V_mono (Kd.V_far (p := ⟨gb194, 2, none⟩) (Kd.V_far (p := ⟨gb194, 1, none⟩) (Kd.V_far (p := ⟨gb194, 0, none⟩) (Kd.V_mono HO204.out (fun k_ hk => (⟨hk, hk.1.1.2⟩ : _ ∧ k_ ≠ gb194))) (fun _ hk => hk.2) (.slice Ao34 t205.length co34)) (fun _ hk => hk.2) (.int .i64 t207)) (fun _ hk => hk.2) (.int .i64 t208)) (fun _ hk => ⟨hk.1.1.1.1.1, ⟨hk.1.1.1.1.2.1, ⟨hk.1.1.2, ⟨hk.1.2, ⟨hk.1.1.1.1.2.2, hk.1.1.1.2⟩⟩⟩⟩⟩)⟩
              have n4_ : Aside0 (Kd.R (Kd.int .u8) 5 (((w33.setCell ⟨gb194, 0, none⟩ (.slice Ao34 t205.length co34)).setCell ⟨gb194, 1, none⟩ (.int .i64 t207)).setCell ⟨gb194, 2, none⟩ (.int .i64 t208)) w.heap.size (fun k_ => (w.heap.size ≤ k_) ∧ some k_ ≠ (v211 : Value).ownBlock) (.slice Ao34 t205.length co34) t205) := ⟨by (with_reducible repeat (first | apply Kd.R_alloc | apply Kd.R_drewN | apply Kd.R_drew)); exact Kd.R_mono (Kd.R_far (p := ⟨gb194, 2, none⟩) (Kd.R_far (p := ⟨gb194, 1, none⟩) (Kd.R_far (p := ⟨gb194, 0, none⟩) (Kd.R_types HO210.out BK194.out (by decide)) (fun _ hk => hk.2) (.slice Ao34 t205.length co34)) (fun _ hk => hk.2) (.int .i64 t207)) (fun _ hk => hk.2) (.int .i64 t208)) (fun _ hk => ⟨hk.1.1, hk.1.2⟩)⟩
              have n5_ : Aside0 (Kd.R (Kd.int .u8) 5 (((w33.setCell ⟨gb194, 0, none⟩ (.slice Ao34 t205.length co34)).setCell ⟨gb194, 1, none⟩ (.int .i64 t207)).setCell ⟨gb194, 2, none⟩ (.int .i64 t208)) w.heap.size (fun k_ => (w.heap.size ≤ k_) ∧ some k_ ≠ (.slice Ao34 t205.length co34 : Value).ownBlock) v211 t206) := ⟨by (with_reducible repeat (first | apply Kd.R_alloc | apply Kd.R_drewN | apply Kd.R_drew)); exact Kd.R_mono (Kd.R_far (p := ⟨gb194, 2, none⟩) (Kd.R_far (p := ⟨gb194, 1, none⟩) (Kd.R_far (p := ⟨gb194, 0, none⟩) (Kd.R_types HO212.out BK194.out (by decide)) (fun _ hk => hk.2) (.slice Ao34 t205.length co34)) (fun _ hk => hk.2) (.int .i64 t207)) (fun _ hk => hk.2) (.int .i64 t208)) (fun _ hk => ⟨hk.1.1, hk.1.2⟩)⟩
              have n6_ : Aside0 ((((w33.setCell ⟨gb194, 0, none⟩ (.slice Ao34 t205.length co34)).setCell ⟨gb194, 1, none⟩ (.int .i64 t207)).setCell ⟨gb194, 2, none⟩ (.int .i64 t208)).heap[gb189]? = some (.cells #[.int .i64 a0_0, .int .i64 a0_1, .int .i64 a0_2, .int .i64 a0_3, .int .i64 a0_4] 23 (0, 0))) := ⟨by (with_reducible repeat (first | refine blk_drewN ?_ _ | refine blk_drew ?_ | refine blk_alloc ?_ _)); refine blk_far ?_ NB189_194.out _; (with_reducible repeat (first | refine blk_drewN ?_ _ | refine blk_drew ?_ | refine blk_alloc ?_ _)); refine blk_far ?_ NB189_194.out _; (with_reducible repeat (first | refine blk_drewN ?_ _ | refine blk_drew ?_ | refine blk_alloc ?_ _)); refine blk_far ?_ NB189_194.out _; (with_reducible repeat (first | refine blk_drewN ?_ _ | refine blk_drew ?_ | refine blk_alloc ?_ _)); exact BK189.out⟩
              have n7_ : Aside0 ((((w33.setCell ⟨gb194, 0, none⟩ (.slice Ao34 t205.length co34)).setCell ⟨gb194, 1, none⟩ (.int .i64 t207)).setCell ⟨gb194, 2, none⟩ (.int .i64 t208)).heap[gb194]? = some (.cells #[.slice Ao34 t205.length co34, .int .i64 t207, .int .i64 t208] 39 (0, 0))) := ⟨by (with_reducible repeat (first | refine blk_drewN ?_ _ | refine blk_drew ?_ | refine blk_alloc ?_ _)); refine blk_put (cs := #[.slice Ao34 t205.length co34, .int .i64 t207, .int .i64 0]) ?_ 2 _ rfl; (with_reducible repeat (first | refine blk_drewN ?_ _ | refine blk_drew ?_ | refine blk_alloc ?_ _)); refine blk_put (cs := #[.slice Ao34 t205.length co34, .int .i64 0, .int .i64 0]) ?_ 1 _ rfl; (with_reducible repeat (first | refine blk_drewN ?_ _ | refine blk_drew ?_ | refine blk_alloc ?_ _)); refine blk_put (cs := #[.slice none 0 0, .int .i64 0, .int .i64 0]) ?_ 0 _ rfl; (with_reducible repeat (first | refine blk_drewN ?_ _ | refine blk_drew ?_ | refine blk_alloc ?_ _)); exact BK194.out⟩
              have n8_ : Aside0 (Below w.heap.size w (((w33.setCell ⟨gb194, 0, none⟩ (.slice Ao34 t205.length co34)).setCell ⟨gb194, 1, none⟩ (.int .i64 t207)).setCell ⟨gb194, 2, none⟩ (.int .i64 t208))) := ⟨by repeat (first | (with_reducible first | exact HB.out | apply below_alloc | apply pw_below_drewN | apply below_drew1 | refine below_set ?_ GE189.out | refine below_set ?_ GE194.out) | exact HB.out)⟩
              (try clear HO_1)
              (try clear HO_9)
              (try clear HO199)
              (try clear HO204)
              (try clear HO210)
              (try clear HO212)
              (try clear BK189)
              (try clear BK194)
              (try clear HB)
              generalize (((w33.setCell ⟨gb194, 0, none⟩ (.slice Ao34 t205.length co34)).setCell ⟨gb194, 1, none⟩ (.int .i64 t207)).setCell ⟨gb194, 2, none⟩ (.int .i64 t208)) = w38 at n0_ n1_ n2_ n3_ n4_ n5_ n6_ n7_ n8_ ⊢
              have HO_1 := n0_
              have HO_9 := n1_
              have HO199 := n2_
              have HO204 := n3_
              have HO210 := n4_
              have HO212 := n5_
              have BK189 := n6_
              have BK194 := n7_
              have HB := n8_
              clear n0_ n1_ n2_ n3_ n4_ n5_ n6_ n7_ n8_
              have hnb39 := NB194_189.out
              have hnc39 := NB189_194.out
              have hcz40_0 : w38.cell? ⟨gb194, 0, none⟩ = some (.slice Ao34 t205.length co34) := (blk_cell BK194.out 0).trans rfl
              have hcz40_1 : w38.cell? ⟨gb194, 1, none⟩ = some (.int .i64 t207) := (blk_cell BK194.out 1).trans rfl
              have hcz40_2 : w38.cell? ⟨gb194, 2, none⟩ = some (.int .i64 t208) := (blk_cell BK194.out 2).trans rfl
              have hfz40_0 := blk_frozen BK194.out 0
              have hfz40_1 := blk_frozen BK194.out 1
              have hfz40_2 := blk_frozen BK194.out 2
              try go_wp2_with (first | ((with_reducible refine gate_builtin (b := .append) (xs := #[.tmp 60, .tmp 62]) rfl ?_); (try (refine gate_guard (by rfl) ?_; dsimp only)); at_builtin; refine Kd.S_append k39 (w0 := w) w.heap.size rfl (.tmp 60) (.tmp 62) 27 39 (.agg #[(.slice none 0 0), (.int .i64 0), (.int .i64 0)]) 40 rfl Try.underlying27 info39 rfl (by decide) (by omega) u9 x9_2 (⟨t205, t207, t208⟩ : S39) [.slice Ao34 t205.length co34, .int .i64 t207, .int .i64 t208] (fun k_ => (w.heap.size ≤ k_) ∧ some k_ ≠ (v211 : Value).ownBlock ∧ k_ ≠ gb194) (fun k_ => some k_ = (.slice Ao34 t205.length co34 : Value).ownBlock) rfl rfl ?aP (fun k_ hk_ => ((Kd.R_mono (ok' := fun k_ => ((fun k_ => (w.heap.size ≤ k_) ∧ some k_ ≠ (v211 : Value).ownBlock ∧ k_ ≠ gb194)) k_ ∧ some k_ ≠ (u9 : Value).ownBlock) (Kd.R_types (Kd.R_apart' (HO210.out) (Kd.S_typed HO_9.out) (by decide)) BK194.out (by decide)) (fun k_ hk => ⟨⟨hk.1.1.1, ⟨hk.1.1.2, hk.2⟩⟩, hk.1.2⟩))).1 k_ hk_.symm) ?aF ?aO ?aB ?aS ?aL ?_; (case aP => exact k39_mkM _ _ _ (⟨t205, t207, t208⟩ : S39) (Kd.R_mono (Kd.R_tight rfl (Kd.R_mono (ok' := fun k_ => ((fun k_ => (w.heap.size ≤ k_) ∧ some k_ ≠ (v211 : Value).ownBlock ∧ k_ ≠ gb194)) k_ ∧ some k_ ≠ (u9 : Value).ownBlock) (Kd.R_types (Kd.R_apart' (HO210.out) (Kd.S_typed HO_9.out) (by decide)) BK194.out (by decide)) (fun k_ hk => ⟨⟨hk.1.1.1, ⟨hk.1.1.2, hk.2⟩⟩, hk.1.2⟩))) (fun _ h_ => h_))); (case aB => exact (uB HB.out)); (case aF => exact (fun k_ hk => ⟨(Nat.le_trans (below_size (uB HB.out)) hk), Kd.fresh' (Kd.R_lt (uR HO212.out)) k_ hk, Kd.freshB (g := gb194) (o := .cells #[.slice Ao34 t205.length co34, .int .i64 t207, .int .i64 t208] 39 (0, 0)) (uK BK194.out) k_ hk⟩)); (case aO => exact (by (with_reducible repeat (first | apply Kd.S_alloc | apply Kd.S_drewN | apply Kd.S_drew)); exact Kd.S_mono HO_9.out (fun k_ hk => ⟨⟨hk.1, ⟨hk.2.2.1, hk.2.2.2⟩⟩, fun e_ => hk.2.1 e_⟩))); (case aS => exact (below_size (uB HB.out))); (case aL => have := LMc23.out; omega); intro v214 w41 ho hb hg hat; rw [← Ny213.out] at ho; have n0_ := Aside0.mk (Kd.V_afterv (ok := (fun k_ => (P1_ k_ ∨ w.heap.size ≤ k_) ∧ some k_ ≠ (.slice Ao34 t205.length co34 : Value).ownBlock ∧ some k_ ≠ (v211 : Value).ownBlock ∧ k_ ≠ gb189 ∧ k_ ≠ gb194)) (by (with_reducible repeat (first | apply Kd.V_alloc | apply Kd.V_drewN | apply Kd.V_drew)); exact Kd.V_mono HO_1.out (fun _ hk => ⟨⟨hk.1, ⟨hk.2.2.1, ⟨hk.2.2.2.1, ⟨hk.2.2.2.2.1, hk.2.2.2.2.2⟩⟩⟩⟩, hk.2.1⟩)) hg hat); have n1_ := Aside0.mk (blk_grown (g := gb189) (o := .cells #[.int .i64 a0_0, .int .i64 a0_1, .int .i64 a0_2, .int .i64 a0_3, .int .i64 a0_4] 23 (0, 0)) (uK BK189.out) hg (Kd.S_ne HO_9.out BK189.out (by decide))); have n2_ := Aside0.mk (blk_grown (g := gb194) (o := .cells #[.slice Ao34 t205.length co34, .int .i64 t207, .int .i64 t208] 39 (0, 0)) (uK BK194.out) hg (Kd.S_away HO_9.out (fun _ hk => hk.2.2.2))); have n3_ := Aside0.mk (Kd.V_afterv (ok := (fun k_ => (P1_ k_ ∨ w.heap.size ≤ k_) ∧ some k_ ≠ (.slice Ao34 t205.length co34 : Value).ownBlock ∧ some k_ ≠ (v211 : Value).ownBlock ∧ k_ ≠ gb189 ∧ k_ ≠ gb194)) (by (with_reducible repeat (first | apply Kd.V_alloc | apply Kd.V_drewN | apply Kd.V_drew)); exact Kd.V_mono HO199.out (fun _ hk => ⟨⟨hk.1, ⟨hk.2.2.1, ⟨hk.2.2.2.1, ⟨hk.2.2.2.2.1, hk.2.2.2.2.2⟩⟩⟩⟩, hk.2.1⟩)) hg hat); have n4_ := Aside0.mk (Kd.V_afterv (ok := (fun k_ => (P1_ k_ ∨ w.heap.size ≤ k_) ∧ some k_ ≠ (.slice Ao34 t205.length co34 : Value).ownBlock ∧ some k_ ≠ (v211 : Value).ownBlock ∧ k_ ≠ gb189 ∧ k_ ≠ gb194)) (by (with_reducible repeat (first | apply Kd.V_alloc | apply Kd.V_drewN | apply Kd.V_drew)); exact Kd.V_mono HO204.out (fun _ hk => ⟨⟨hk.1, ⟨hk.2.2.1, ⟨hk.2.2.2.1, ⟨hk.2.2.2.2.1, hk.2.2.2.2.2⟩⟩⟩⟩, hk.2.1⟩)) hg hat); have n5_ := Aside0.mk (Kd.R_over' (uR HO212.out) (Kd.S_typed (uS HO_9.out)) (by decide) hg); have n6_ := Aside0.mk (hb); have n7_ := Aside0.mk (ho); clear HO_1; clear BK189; clear BK194; clear HO199; clear HO204; clear HO212; clear HB; clear HO_9; clear HO210; have HO_1 := n0_; have BK189 := n1_; have BK194 := n2_; have HO199 := n3_; have HO204 := n4_; have HO212 := n5_; have HB := n6_; have HO215 := n7_; clear n0_ n1_ n2_ n3_ n4_ n5_ n6_ n7_; clear ho hb hg hat; have q42 : (t193 : Int) ≤ ((x1_2.length : Int) : Int) := of_decide_eq_true (by first | (with_reducible assumption) | assumption); obtain ⟨i042, hi042, _, hsz42, _⟩ := info_parts info5; have hroom42 : x1_2.length ≤ co31 := (Kd.V_reads' HO_1.out).2.1; have hC42 : Kd.F (Kd.int .u8) _ _ Ao31 x1_2.length x1_2 := (Kd.V_at (base := w.heap.size) HO_1.out).2.2; have q042 : (0 : Int) ≤ (t193 : Int) := of_decide_eq_true (by first | (with_reducible assumption) | assumption); have hcut42 := cut_from (P := Try.prog) 26 5 .i64 Try.underlying26 hi042 1 hsz42 Ao31 x1_2.length co31 t193 q042 q42; have hr42 := Kd.F_cut (m := (t193 : Int).toNat) (c := co31) hC42 (by omega) hroom42; obtain ⟨A42, hA42⟩ : ∃ A1, A1 = (if co31 = (t193 : Int).toNat then Ao31 else (Ao31 : Option Addr).map (·.add ((t193 : Int).toNat * 1))) := ⟨_, rfl⟩; obtain ⟨c42, hc42⟩ : ∃ c1, c1 = co31 - (t193 : Int).toNat := ⟨_, rfl⟩; have hy42 : y216.length = x1_2.length - (t193 : Int).toNat := (by rw [Ny216.out, List.length_drop] <;> omega); rw [show (x1_2).drop (t193 : Int).toNat = y216 from Ny216.out.symm] at hr42; replace hr42 : Kd.F (Kd.int .u8) _ _ A42 y216.length y216 := (by rw [hA42]; exact hr42); rw [← hy42, ← hA42, ← hc42] at hcut42; have HO220 := Aside0.mk (show Kd.V (Kd.int .u8) 5 _ w.heap.size _ (.slice A42 y216.length c42) y216 from Kd.V_mk (by rw [hy42, hc42]; exact Nat.sub_le_sub_right hroom42 _) hr42); have HC220 := Aside0.mk (show y216.length ≤ c42 from by rw [hy42, hc42]; exact Nat.sub_le_sub_right hroom42 _); clear hr42 hC42 hroom42 hi042 hsz42 hc42; have KY42 := Aside0.mk hy42; have KA42 := Aside0.mk hA42; clear hy42 hA42; replace q42 := eq_true q42))
              go_roundg k2
              case measure => have := HJ3.out; have := HK2.out; omega
              case rel => exact ⟨(y216), (y213), (wrap64 (x33_2 + 1)), rfl, H', ⟨by have := HJ3.out; have := HK2.out; omega⟩, ⟨by (with_reducible repeat (first | apply Kd.V_alloc | apply Kd.V_drewN | apply Kd.V_drew)); exact Kd.V_mono HO220.out (fun _ hk => ⟨hk.1.1, ⟨hk.2, hk.1.2.2.2.1⟩⟩)⟩, ⟨by (with_reducible repeat (first | apply Kd.S_alloc | apply Kd.S_drewN | apply Kd.S_drew)); exact Kd.S_mono HO215.out (fun _ hk => hk.1)⟩, ⟨uK BK189.out⟩, ⟨uB HB.out⟩⟩
             ·rw [if_neg c24] at H
              injection H
            ·rw [if_neg c23] at H
             injection H
           ·rw [if_neg c21] at H
            injection H
          ·rw [if_neg c20] at H
           injection H
         ·rw [if_neg c18] at H
          injection H
        ·rw [if_neg c17] at H
         injection H
       ·rw [if_neg c15] at H
        have c15b0 : decide (x33_2 < a0_2) = false := decide_eq_false c15
        clear c15
        simp only [Option.some.injEq, Prod.mk.injEq] at H
        obtain ⟨rfl, rfl⟩ := H
        go_wp2
        go_ret2
        exact ⟨_, by first | rfl | (simp [errW_none, errW_some] <;> rfl) | (simp [*, errW_none, errW_some] <;> rfl), by (with_reducible repeat (first | apply Kd.S_alloc | apply Kd.S_drewN | apply Kd.S_drew)); exact HO_9.out, uB HB.out⟩
    ·rw [if_neg c11] at H
     have c11b0 : (t192 == 0) = false := beq_eq_false_iff_ne.mpr c11
     have c11b1 : (t192 != 0) = true := bne_iff_ne.mpr c11
     simp only [Option.some.injEq, Prod.mk.injEq] at H
     obtain ⟨rfl, rfl⟩ := H
     obtain ⟨_, _, _, _, _, _, _, _, _, _⟩ := uZ BK189
     go_wp2_with (first | ((with_reducible refine gate_callee (f := 26) rfl ?_); refine uG (some 27) Try.func26 #[.agg #[.int .i64 a0_0, .int .i64 a0_1, .int .i64 a0_2, .int .i64 a0_3, .int .i64 a0_4], .slice A1 l1.length c1] ?_; (with_reducible refine (ecc_state.calls kj3 a0_0 a0_1 a0_2 a0_3 a0_4 _ _ l1 t192 _ ?side1 ?side2 A10.out).mono ?_); (case side1 => exact uC (Kd.V_reads' HO_1.out).2.2); (case side2 => exact (Kd.V_reads' HO_1.out).2.1); rintro e w44 ⟨rfl, hb⟩; refine ⟨_, rfl, ?_⟩; replace HO_1 := uVb HO_1 hb; replace BK189 := uKb BK189 hb; replace HB := uBb HB hb))
     go_ret2
     exact ⟨_, by first | rfl | (simp [errW_none, errW_some] <;> rfl) | (simp [*, errW_none, errW_some] <;> rfl), by first | exact Kd.S_nil _ _ _ _ _ | exact Kd.N_nil _ _ _ _ _ | exact Kd.V_nil _ _ _ _ _ | exact Kd.Q_nil _ _ _ _ _ | exact Kd.R_nil _ _ _ _ _, uB HB.out⟩
def casematelaw06_turned.l0 : Nat → Int → Int → Int → Option (Int)
 | 0, _, _, _ => none
 | k + 1, x0, x3, x4 => if x4 < x0 then (casematelaw06_turned.l0 k x0 ((x3 * 2) % 256) (wrap64 (x4 + 1))) else (some x3)
def casematelaw06_turned.f (k : Nat) (a0 : Int) : Option (Int) := casematelaw06_turned.l0 k a0 1 0
def ecc_Read.l0 : Nat → List Int → Int → List (S39) → Int → Int → Option (List Int × Int × Int)
 | 0, _, _, _, _, _ => none
 | k + 1, x9, x10, x22, x23, x24 => if x24 < x23 then (if 0 ≤ x24 then (if x24 < (x22.length : Int) then (if ((rd_T39 x22 x24).f2) = 0 then (if x9.length + ((rd_T39 x22 x24).f0).length < 140737488355328 then (ecc_Read.l0 k (x9 ++ ((rd_T39 x22 x24).f0)) (mx x10 ((rd_T39 x22 x24).f1)) x22 x23 (wrap64 (x24 + 1))) else (none)) else (some (([] : List Int), 0, (rd_T39 x22 x24).f2))) else (none)) else (none)) else (some (x9, x10, 0))
def ecc_Read.f (k : Nat) (a0_0 : Int) (a0_1 : Int) (a0_2 : Int) (a0_3 : Int) (a0_4 : Int) (l1 : List Int) : Option (List Int × Int × Int) := (ecc_Unpack.f k a0_0 a0_1 a0_2 a0_3 a0_4 l1).bind fun bt222 => (if bt222.2 = 0 then (ecc_Read.l0 k ([] : List Int) 0 bt222.1 (bt222.1.length : Int) 0) else (some (([] : List Int), 0, bt222.2)))
theorem ecc_Read.mono_l : ∀ k, (∀ y0 y1 y2 y3 y4, LeO (ecc_Read.l0 k y0 y1 y2 y3 y4) (ecc_Read.l0 (k + 1) y0 y1 y2 y3 y4))
 | 0 => fun _ _ _ _ _ r h => by simp [ecc_Read.l0] at h
 | k + 1 => by
  have ih0 := ecc_Read.mono_l k
  ·intro y0 y1 y2 y3 y4
   unfold ecc_Read.l0
   repeat' first
   | (with_reducible exact ih0 _ _ _ _ _)
   | (with_reducible exact ecc_Unpack.mono _ _ _ _ _ _ _)
   | (with_reducible exact LeO.refl _)
   | (with_reducible exact LeO.none _)
   | (with_reducible refine LeO.ite ?_ ?_)
   | (with_reducible refine LeO.bind ?_ (fun _ => ?_))
   | exact ih0 _ _ _ _ _
   | exact ecc_Unpack.mono _ _ _ _ _ _ _
   | exact LeO.none _
   | refine LeO.ite ?_ ?_
   | refine LeO.bind ?_ (fun _ => ?_)
theorem ecc_Read.mono : ∀ a0 a1 a2 a3 a4 a5 k, LeO (ecc_Read.f k a0 a1 a2 a3 a4 a5) (ecc_Read.f (k + 1) a0 a1 a2 a3 a4 a5) := by
 intro a0 a1 a2 a3 a4 a5 k
 have ih0 := ecc_Read.mono_l k
 unfold ecc_Read.f
 repeat' first
   | (with_reducible exact ih0 _ _ _ _ _)
   | (with_reducible exact ecc_Unpack.mono _ _ _ _ _ _ _)
   | (with_reducible exact LeO.refl _)
   | (with_reducible exact LeO.none _)
   | (with_reducible refine LeO.ite ?_ ?_)
   | (with_reducible refine LeO.bind ?_ (fun _ => ?_))
   | exact ih0 _ _ _ _ _
   | exact ecc_Unpack.mono _ _ _ _ _ _ _
   | exact LeO.none _
   | refine LeO.ite ?_ ?_
   | refine LeO.bind ?_ (fun _ => ?_)
set_option maxHeartbeats 8000000 in
set_option maxRecDepth 100000 in
theorem ecc_Read.calls (k : Nat) (a0_0 : Int) (a0_1 : Int) (a0_2 : Int) (a0_3 : Int) (a0_4 : Int) (A1 : Option Addr) (c1 : Nat) (l1 : List Int) (r1 : List Int) (r2 : Int) (r3 : Int) (w : World) (hr1 : Kd.C (Kd.int .u8) w A1 l1.length l1) (hc1 : l1.length ≤ c1) (h : ecc_Read.f k a0_0 a0_1 a0_2 a0_3 a0_4 l1 = some (r1, r2, r3)) :
  Calls Try.prog 15 #[.agg #[.int .i64 a0_0, .int .i64 a0_1, .int .i64 a0_2, .int .i64 a0_3, .int .i64 a0_4], .slice A1 l1.length c1] w fun e w' => ∃ v0_ : Value, e = .returned (.tuple #[v0_, .int .i64 r2, .int .i64 r3]) ∧ Kd.R (Kd.int .u8) 5 w' w.heap.size (fun _ => True) v0_ r1 ∧ Below w.heap.size w w' := by
 have hu23 := Try.underlying23
 have hu39 := Try.underlying39
 have HR1 := Aside0.mk hr1
 have HC1 := Aside0.mk hc1
 clear hr1 hc1
 have HB := Aside0.mk (Below.refl w.heap.size w)
 have H := h
 unfold ecc_Read.f at H
 clear h
 obtain ⟨⟨t222, t225⟩, A3, H⟩ := uO H
 dsimp only at H
 by_cases c4 : t225 = 0
 ·rw [if_pos c4] at H
  have c4b0 : (t225 == 0) = true := beq_iff_eq.mpr c4
  have c4b1 : (t225 != 0) = false := bne_eq_false_iff_eq.mpr c4
  clear c4
  have H' := Aside0.mk H
  clear H
  go_enter Try.func15, Try.ntmps15
  go_wp2_with (first | ((with_reducible refine gate_dst (N := 2) rfl ?_); refine uX 2 #[.int .i64 a0_0, .int .i64 a0_1, .int .i64 a0_2, .int .i64 a0_3, .int .i64 a0_4] 23 ?_; intro gb221 hg w5 hbox hb; have BK221 := uA hbox; have GW221 := uGe HB hg; have GE221 := uGe HB hg; replace HB := uBb HB hb; clear hg; obtain ⟨_, _, _, _, _, _, _, _, _, _⟩ := uZ BK221) | (go_at_call 13; (with_reducible refine (ecc_Unpack.calls k a0_0 a0_1 a0_2 a0_3 a0_4 (fun k_ => k_ < w.heap.size) _ _ l1 t222 t225 _ ?side1 A3.out).mono ?_); (case side1 => exact Kd.V_mk HC1.out (Kd.F_below (Kd.C_F (Kd.heap_int .u8) HR1.out) (uB HB.out))); rintro e w7 ⟨v223, rfl, ho0, hb⟩; have HO224 := uA (Kd.S_lower (Kd.S_mono (ok' := fun k_ => True) ho0 (fun _ hk_ => trivial)) (below_size (uB HB.out))); replace BK221 := uKb BK221 hb; replace HB := uBb HB hb; obtain ⟨Ao8, co8, eo8⟩ := Kd.S_slice HO224.out; subst eo8))
  go_loopg [9, 10, 24] k (fun kq v9 v10 v24 w' => ∃ (x9_1 : List Int) (x10_1 : Int) (x24_1 : Int), v10 = .int .i64 x10_1 ∧ v24 = .int .i64 x24_1 ∧ Aside0 (ecc_Read.l0 kq x9_1 x10_1 t222 (t222.length : Int) x24_1 = some (r1, r2, r3)) ∧ Aside0 (kq ≤ k) ∧ Aside0 (Kd.R (Kd.int .u8) 5 w' w.heap.size (fun _ => True) v9 x9_1) ∧ Aside0 (Kd.S k39 39 w' w.heap.size (fun k_ => some k_ ≠ (v9 : Value).ownBlock) (.slice Ao8 t222.length co8) t222) ∧ Aside0 (w'.heap[gb221]? = some (.cells #[.int .i64 a0_0, .int .i64 a0_1, .int .i64 a0_2, .int .i64 a0_3, .int .i64 a0_4] 23 (0, 0))) ∧ Aside0 (Below w.heap.size w w'))
  case atStart => exact ⟨(([] : List Int)), (0), (0), rfl, rfl, H', ⟨Nat.le_refl _⟩, ⟨by first | exact Kd.R_nil _ _ _ _ _ | exact Kd.N_nil _ _ _ _ _ | exact Kd.V_nil _ _ _ _ _ | exact Kd.Q_nil _ _ _ _ _ | exact Kd.S_nil _ _ _ _ _⟩, ⟨by (with_reducible repeat (first | apply Kd.S_alloc | apply Kd.S_drewN | apply Kd.S_drew)); exact Kd.S_mono HO224.out (fun _ hk => (by simp [Value.ownBlock]))⟩, ⟨uK BK221.out⟩, ⟨uB HB.out⟩⟩
  case round =>
   clear H'
   obtain ⟨x9_1, x10_1, x24_1, rfl, rfl, HA, HK1, HO_9, HO_22, BK221, HB⟩ := hrel
   cases gk with
   | zero => exact absurd HA.out (by simp [ecc_Read.l0])
   | succ k1 =>
    have H := HA.out
    clear HA
    simp only [ecc_Read.l0] at H
    by_cases c9 : x24_1 < (t222.length : Int)
    ·rw [if_pos c9] at H
     have c9b0 : decide (x24_1 < (t222.length : Int)) = true := decide_eq_true c9
     clear c9
     by_cases c10 : 0 ≤ x24_1
     ·rw [if_pos c10] at H
      have c10b0 : decide (0 ≤ x24_1) = true := decide_eq_true c10
      clear c10
      by_cases c11 : x24_1 < (t222.length : Int)
      ·rw [if_pos c11] at H
       have c11b0 : decide (x24_1 < (t222.length : Int)) = true := decide_eq_true c11
       clear c11
       by_cases c12 : ((rd_T39 t222 x24_1).f2) = 0
       ·rw [if_pos c12] at H
        have c12b0 : (((rd_T39 t222 x24_1).f2) == 0) = true := beq_iff_eq.mpr c12
        have c12b1 : (((rd_T39 t222 x24_1).f2) != 0) = false := bne_eq_false_iff_eq.mpr c12
        clear c12
        by_cases c13 : x9_1.length + ((rd_T39 t222 x24_1).f0).length < 140737488355328
        ·rw [if_pos c13] at H
         have LMc13 := Aside0.mk c13
         clear c13
         obtain ⟨y228, Ny228⟩ := uEA ((x9_1 ++ ((rd_T39 t222 x24_1).f0)) : List Int)
         rw [← Ny228.out] at H
         obtain ⟨ji14, hji14⟩ : ∃ j_ : Int, (mx x10_1 ((rd_T39 t222 x24_1).f1)) = j_ := ⟨_, rfl⟩
         first | rw [hji14] at H | simp only [hji14] at H
         have hji14_ : (if x10_1 < ((rd_T39 t222 x24_1).f1) then ((rd_T39 t222 x24_1).f1) else x10_1) = ji14 := hji14
         have H' := Aside0.mk H
         clear H
         have p226 : 0 ≤ (x24_1 : Int) := of_decide_eq_true (by first | (with_reducible assumption) | assumption)
         have q226 : x24_1 < (t222.length : Int) := of_decide_eq_true (by first | (with_reducible assumption) | assumption)
         obtain ⟨ad226, A226_0, c226_0, e226, hx226_0, hx226_1, hx226_2, hl226_0, hi226_0⟩ := at_T39 (Kd.S_reads' HO_22.out).2.2 x24_1 p226 q226
         cases e226
         obtain ⟨ce226, hce226, hMe226, hcc226⟩ := Kd.S_get HO_22.out z39 x24_1 p226 (by first | exact q226 | exact of_decide_eq_true (by first | (with_reducible assumption) | assumption) | (have e_ := (Kd.S_reads' HO_22.out).1; omega))
         obtain ⟨ve226_0, rfl, ge226_0⟩ := k39_openM hMe226
         have hv226_0 := hcc226 0 _ rfl
         rw [Nat.add_zero] at hv226_0
         replace hv226_0 := Option.some.inj (hv226_0.symm.trans hx226_0)
         rw [hv226_0] at ge226_0
         have HL226_0 := Aside0.mk (show Kd.R (Kd.int .u8) 5 _ _ _ _ ((rd_T39 t222 x24_1).f0) from ge226_0)
         clear hv226_0 ge226_0
         clear hcc226 hce226
         have HR226_0 := Aside0.mk hi226_0
         have HC226_0 := Aside0.mk hl226_0
         clear hi226_0 hl226_0
         replace p226 := eq_true p226
         replace q226 := eq_true q226
         go_wp2_with (first | ((with_reducible refine gate_dst (N := 12) rfl ?_); refine box_event ?hg (N := 12) ?hd (cs := #[.slice none 0 0, .int .i64 0, .int .i64 0]) (t := 39) ?hr ?_; (case hd => rfl); (case hg => rfl); (case hr => first | (go_simp; done) | (go_simp; rfl)); intro gb227 hg w15 hbox hb; have n0_ := Aside0.mk (Kd.R_below (by (with_reducible repeat (first | apply Kd.R_alloc | apply Kd.R_drewN | apply Kd.R_drew)); exact HO_9.out) hb); have n1_ := Aside0.mk (Kd.S_below (Kd.S_elderB (by (with_reducible repeat (first | apply Kd.S_alloc | apply Kd.S_drewN | apply Kd.S_drew)); exact HO_22.out) gb227 (Nat.le_of_eq hg.symm)) hb); have n2_ := Aside0.mk (Kd.R_below (by (with_reducible repeat (first | apply Kd.R_alloc | apply Kd.R_drewN | apply Kd.R_drew)); exact HL226_0.out) hb); have n3_ := Aside0.mk (blk_below (g := gb221) (o := .cells #[.int .i64 a0_0, .int .i64 a0_1, .int .i64 a0_2, .int .i64 a0_3, .int .i64 a0_4] 23 (0, 0)) (by (with_reducible repeat (first | refine blk_drewN ?_ _ | refine blk_drew ?_ | refine blk_alloc ?_ _)); exact BK221.out) hb); have n4_ := Aside0.mk (Kd.C_below (by repeat (first | (with_reducible exact HR226_0.out) | (with_reducible refine Kd.C_alloc ?_ _) | (with_reducible refine Kd.C_drewN ?_ _) | (with_reducible refine Kd.C_drew ?_) | exact HR226_0.out)) hb); have n5_ := Aside0.mk (below_step (by repeat (first | (with_reducible first | exact HB.out | apply below_alloc | apply pw_below_drewN | apply below_drew1 | refine below_set ?_ GE221.out) | exact HB.out)) hb); have n6_ := Aside0.mk (hbox); have n7_ := Aside0.mk ((by rw [hg]; exact (below_size (by repeat (first | (with_reducible first | exact HB.out | apply below_alloc | apply pw_below_drewN | apply below_drew1 | refine below_set ?_ GE221.out) | exact HB.out))) : w.heap.size ≤ gb227)); have n8_ := Aside0.mk ((by rw [hg]; exact (below_size (by repeat (first | (with_reducible first | exact HB.out | apply below_alloc | apply pw_below_drewN | apply below_drew1 | refine below_set ?_ GE221.out) | exact HB.out))) : w.heap.size ≤ gb227)); have n9_ := Aside0.mk ((by rw [hg]; exact Nat.ne_of_lt (blk_lt (g := gb221) (o := .cells #[.int .i64 a0_0, .int .i64 a0_1, .int .i64 a0_2, .int .i64 a0_3, .int .i64 a0_4] 23 (0, 0)) (by (with_reducible repeat (first | refine blk_drewN ?_ _ | refine blk_drew ?_ | refine blk_alloc ?_ _)); exact BK221.out)) : gb221 ≠ gb227)); have n10_ := Aside0.mk ((by rw [hg]; exact Nat.ne_of_gt (blk_lt (g := gb221) (o := .cells #[.int .i64 a0_0, .int .i64 a0_1, .int .i64 a0_2, .int .i64 a0_3, .int .i64 a0_4] 23 (0, 0)) (by (with_reducible repeat (first | refine blk_drewN ?_ _ | refine blk_drew ?_ | refine blk_alloc ?_ _)); exact BK221.out)) : gb227 ≠ gb221)); clear HO_9; clear HO_22; clear HL226_0; clear BK221; clear HR226_0; clear HB; have HO_9 := n0_; have HO_22 := n1_; have HL226_0 := n2_; have BK221 := n3_; have HR226_0 := n4_; have HB := n5_; have BK227 := n6_; have GW227 := n7_; have GE227 := n8_; have NB221_227 := n9_; have NB227_221 := n10_; clear n0_ n1_ n2_ n3_ n4_ n5_ n6_ n7_ n8_ n9_ n10_; clear hb hbox hg; have hnb16 := NB227_221.out; have hnc16 := NB221_227.out; have hcz17_0 : w15.cell? ⟨gb227, 0, none⟩ = some (.slice none 0 0) := (blk_cell BK227.out 0).trans rfl; have hcz17_1 : w15.cell? ⟨gb227, 1, none⟩ = some (.int .i64 0) := (blk_cell BK227.out 1).trans rfl; have hcz17_2 : w15.cell? ⟨gb227, 2, none⟩ = some (.int .i64 0) := (blk_cell BK227.out 2).trans rfl; have hfz17_0 := blk_frozen BK227.out 0; have hfz17_1 := blk_frozen BK227.out 1; have hfz17_2 := blk_frozen BK227.out 2) | ((with_reducible refine gate_builtin (b := .append) (xs := #[.tmp 33, .tmp 35]) rfl ?_); at_builtin; refine Kd.R_append_rows (Kd.int .u8) (w0 := w) w.heap.size rfl (.tmp 33) (.tmp 35) 26 5 (.int .u8 0) 1 rfl Try.underlying26 info5 rfl (by decide) (by omega) u9 x9_1 ((rd_T39 t222 x24_1).f0) _ _ _ (fun _ => True) (fun _ => False) rfl rfl ?aO ?aR (fun _ _ h => h) (fun _ h => h.elim) ?aF ?aB ?aS ?aL ?_; (case aR => repeat (first | exact ((Kd.R_reads' (by (with_reducible repeat (first | apply Kd.R_alloc | apply Kd.R_drewN | apply Kd.R_drew)); exact (Kd.R_mono (Kd.R_far (p := ⟨gb227, 2, none⟩) (Kd.R_far (p := ⟨gb227, 1, none⟩) (Kd.R_far (p := ⟨gb227, 0, none⟩) (Kd.R_types HL226_0.out BK227.out (by decide)) (fun _ hk => hk.2) (.slice A226_0 ((rd_T39 t222 x24_1).f0).length c226_0)) (fun _ hk => hk.2) (.int .i64 ((rd_T39 t222 x24_1).f1))) (fun _ hk => hk.2) (.int .i64 ((rd_T39 t222 x24_1).f2))) (fun _ h_ => h_.1)))).2.2) | (with_reducible refine Kd.C_alloc ?_ _) | (with_reducible refine Kd.C_drewN ?_ _) | (with_reducible refine Kd.C_drew ?_))); (case aB => exact (by repeat (first | (with_reducible first | exact HB.out | apply below_alloc | apply pw_below_drewN | apply below_drew1 | refine below_set ?_ GE221.out | refine below_set ?_ GE227.out) | exact HB.out))); (case aF => exact (fun _ _ => trivial)); (case aO => exact (by (with_reducible repeat (first | apply Kd.R_alloc | apply Kd.R_drewN | apply Kd.R_drew)); exact Kd.R_mono (Kd.R_far (p := ⟨gb227, 2, none⟩) (Kd.R_far (p := ⟨gb227, 1, none⟩) (Kd.R_far (p := ⟨gb227, 0, none⟩) (Kd.R_types HO_9.out BK227.out (by decide)) (fun _ hk => hk.2) (.slice A226_0 ((rd_T39 t222 x24_1).f0).length c226_0)) (fun _ hk => hk.2) (.int .i64 ((rd_T39 t222 x24_1).f1))) (fun _ hk => hk.2) (.int .i64 ((rd_T39 t222 x24_1).f2))) (fun _ hk => trivial))); (case aS => exact (below_size (by repeat (first | (with_reducible first | exact HB.out | apply below_alloc | apply pw_below_drewN | apply below_drew1 | refine below_set ?_ GE221.out | refine below_set ?_ GE227.out) | exact HB.out)))); (case aL => have := LMc13.out; omega); intro v229 w18 ho hb hg hat; rw [← Ny228.out] at ho; have n0_ := Aside0.mk (Kd.S_after (ok := (fun k_ => k_ ≠ gb227)) (by (with_reducible repeat (first | apply Kd.S_alloc | apply Kd.S_drewN | apply Kd.S_drew)); exact Kd.S_mono (Kd.S_far (p := ⟨gb227, 2, none⟩) (Kd.S_far (p := ⟨gb227, 1, none⟩) (Kd.S_far (p := ⟨gb227, 0, none⟩) (Kd.S_mono HO_22.out (fun k_ hk => (⟨hk, hk.2⟩ : _ ∧ k_ ≠ gb227))) (fun _ hk => hk.2) (.slice A226_0 ((rd_T39 t222 x24_1).f0).length c226_0)) (fun _ hk => hk.2) (.int .i64 ((rd_T39 t222 x24_1).f1))) (fun _ hk => hk.2) (.int .i64 ((rd_T39 t222 x24_1).f2))) (fun _ hk => ⟨hk.1.2, hk.1.1⟩)) hg hat); have n1_ := Aside0.mk (blk_grown (g := gb221) (o := .cells #[.int .i64 a0_0, .int .i64 a0_1, .int .i64 a0_2, .int .i64 a0_3, .int .i64 a0_4] 23 (0, 0)) (by (with_reducible repeat (first | refine blk_drewN ?_ _ | refine blk_drew ?_ | refine blk_alloc ?_ _)); refine blk_far ?_ NB221_227.out _; (with_reducible repeat (first | refine blk_drewN ?_ _ | refine blk_drew ?_ | refine blk_alloc ?_ _)); refine blk_far ?_ NB221_227.out _; (with_reducible repeat (first | refine blk_drewN ?_ _ | refine blk_drew ?_ | refine blk_alloc ?_ _)); refine blk_far ?_ NB221_227.out _; (with_reducible repeat (first | refine blk_drewN ?_ _ | refine blk_drew ?_ | refine blk_alloc ?_ _)); exact BK221.out) hg (Kd.R_ne HO_9.out BK221.out (by decide))); have n2_ := Aside0.mk (Kd.R_after (ok := (fun k_ => some k_ ≠ (.slice (some ad226) t222.length co8 : Value).ownBlock)) (by (with_reducible repeat (first | apply Kd.R_alloc | apply Kd.R_drewN | apply Kd.R_drew)); exact Kd.R_mono (Kd.R_far (p := ⟨gb227, 2, none⟩) (Kd.R_far (p := ⟨gb227, 1, none⟩) (Kd.R_far (p := ⟨gb227, 0, none⟩) (Kd.R_types HL226_0.out BK227.out (by decide)) (fun _ hk => hk.2) (.slice A226_0 ((rd_T39 t222 x24_1).f0).length c226_0)) (fun _ hk => hk.2) (.int .i64 ((rd_T39 t222 x24_1).f1))) (fun _ hk => hk.2) (.int .i64 ((rd_T39 t222 x24_1).f2))) (fun _ hk => ⟨hk.1.2, hk.1.1⟩)) hg hat); have n3_ := Aside0.mk (blk_grown (g := gb227) (o := .cells #[.slice A226_0 ((rd_T39 t222 x24_1).f0).length c226_0, .int .i64 ((rd_T39 t222 x24_1).f1), .int .i64 ((rd_T39 t222 x24_1).f2)] 39 (0, 0)) (by (with_reducible repeat (first | refine blk_drewN ?_ _ | refine blk_drew ?_ | refine blk_alloc ?_ _)); refine blk_put (cs := #[.slice A226_0 ((rd_T39 t222 x24_1).f0).length c226_0, .int .i64 ((rd_T39 t222 x24_1).f1), .int .i64 0]) ?_ 2 _ rfl; (with_reducible repeat (first | refine blk_drewN ?_ _ | refine blk_drew ?_ | refine blk_alloc ?_ _)); refine blk_put (cs := #[.slice A226_0 ((rd_T39 t222 x24_1).f0).length c226_0, .int .i64 0, .int .i64 0]) ?_ 1 _ rfl; (with_reducible repeat (first | refine blk_drewN ?_ _ | refine blk_drew ?_ | refine blk_alloc ?_ _)); refine blk_put (cs := #[.slice none 0 0, .int .i64 0, .int .i64 0]) ?_ 0 _ rfl; (with_reducible repeat (first | refine blk_drewN ?_ _ | refine blk_drew ?_ | refine blk_alloc ?_ _)); exact BK227.out) hg (Kd.R_ne HO_9.out BK227.out (by decide))); have n4_ := Aside0.mk (hb); have n5_ := Aside0.mk (ho); clear HO_22; clear BK221; clear HL226_0; clear BK227; clear HB; clear HO_9; have HO_22 := n0_; have BK221 := n1_; have HL226_0 := n2_; have BK227 := n3_; have HB := n4_; have HO230 := n5_; clear n0_ n1_ n2_ n3_ n4_ n5_; clear ho hb hg hat; have hcz19_0 : w18.cell? ⟨gb227, 0, none⟩ = some (.slice A226_0 ((rd_T39 t222 x24_1).f0).length c226_0) := (blk_cell BK227.out 0).trans rfl; have hcz19_1 : w18.cell? ⟨gb227, 1, none⟩ = some (.int .i64 ((rd_T39 t222 x24_1).f1)) := (blk_cell BK227.out 1).trans rfl; have hcz19_2 : w18.cell? ⟨gb227, 2, none⟩ = some (.int .i64 ((rd_T39 t222 x24_1).f2)) := (blk_cell BK227.out 2).trans rfl; have hfz19_0 := blk_frozen BK227.out 0; have hfz19_1 := blk_frozen BK227.out 1; have hfz19_2 := blk_frozen BK227.out 2))
         repeat (go_quiet (first | ((with_reducible refine gate_dst (N := 12) rfl ?_); refine box_event ?hg (N := 12) ?hd (cs := #[.slice none 0 0, .int .i64 0, .int .i64 0]) (t := 39) ?hr ?_; (case hd => rfl); (case hg => rfl); (case hr => first | (go_simp; done) | (go_simp; rfl)); intro gb227 hg w15 hbox hb; have n0_ := Aside0.mk (Kd.R_below (by (with_reducible repeat (first | apply Kd.R_alloc | apply Kd.R_drewN | apply Kd.R_drew)); exact HO_9.out) hb); have n1_ := Aside0.mk (Kd.S_below (Kd.S_elderB (by (with_reducible repeat (first | apply Kd.S_alloc | apply Kd.S_drewN | apply Kd.S_drew)); exact HO_22.out) gb227 (Nat.le_of_eq hg.symm)) hb); have n2_ := Aside0.mk (Kd.R_below (by (with_reducible repeat (first | apply Kd.R_alloc | apply Kd.R_drewN | apply Kd.R_drew)); exact HL226_0.out) hb); have n3_ := Aside0.mk (blk_below (g := gb221) (o := .cells #[.int .i64 a0_0, .int .i64 a0_1, .int .i64 a0_2, .int .i64 a0_3, .int .i64 a0_4] 23 (0, 0)) (by (with_reducible repeat (first | refine blk_drewN ?_ _ | refine blk_drew ?_ | refine blk_alloc ?_ _)); exact BK221.out) hb); have n4_ := Aside0.mk (Kd.C_below (by repeat (first | (with_reducible exact HR226_0.out) | (with_reducible refine Kd.C_alloc ?_ _) | (with_reducible refine Kd.C_drewN ?_ _) | (with_reducible refine Kd.C_drew ?_) | exact HR226_0.out)) hb); have n5_ := Aside0.mk (below_step (by repeat (first | (with_reducible first | exact HB.out | apply below_alloc | apply pw_below_drewN | apply below_drew1 | refine below_set ?_ GE221.out) | exact HB.out)) hb); have n6_ := Aside0.mk (hbox); have n7_ := Aside0.mk ((by rw [hg]; exact (below_size (by repeat (first | (with_reducible first | exact HB.out | apply below_alloc | apply pw_below_drewN | apply below_drew1 | refine below_set ?_ GE221.out) | exact HB.out))) : w.heap.size ≤ gb227)); have n8_ := Aside0.mk ((by rw [hg]; exact (below_size (by repeat (first | (with_reducible first | exact HB.out | apply below_alloc | apply pw_below_drewN | apply below_drew1 | refine below_set ?_ GE221.out) | exact HB.out))) : w.heap.size ≤ gb227)); have n9_ := Aside0.mk ((by rw [hg]; exact Nat.ne_of_lt (blk_lt (g := gb221) (o := .cells #[.int .i64 a0_0, .int .i64 a0_1, .int .i64 a0_2, .int .i64 a0_3, .int .i64 a0_4] 23 (0, 0)) (by (with_reducible repeat (first | refine blk_drewN ?_ _ | refine blk_drew ?_ | refine blk_alloc ?_ _)); exact BK221.out)) : gb221 ≠ gb227)); have n10_ := Aside0.mk ((by rw [hg]; exact Nat.ne_of_gt (blk_lt (g := gb221) (o := .cells #[.int .i64 a0_0, .int .i64 a0_1, .int .i64 a0_2, .int .i64 a0_3, .int .i64 a0_4] 23 (0, 0)) (by (with_reducible repeat (first | refine blk_drewN ?_ _ | refine blk_drew ?_ | refine blk_alloc ?_ _)); exact BK221.out)) : gb227 ≠ gb221)); clear HO_9; clear HO_22; clear HL226_0; clear BK221; clear HR226_0; clear HB; have HO_9 := n0_; have HO_22 := n1_; have HL226_0 := n2_; have BK221 := n3_; have HR226_0 := n4_; have HB := n5_; have BK227 := n6_; have GW227 := n7_; have GE227 := n8_; have NB221_227 := n9_; have NB227_221 := n10_; clear n0_ n1_ n2_ n3_ n4_ n5_ n6_ n7_ n8_ n9_ n10_; clear hb hbox hg; have hnb16 := NB227_221.out; have hnc16 := NB221_227.out; have hcz17_0 : w15.cell? ⟨gb227, 0, none⟩ = some (.slice none 0 0) := (blk_cell BK227.out 0).trans rfl; have hcz17_1 : w15.cell? ⟨gb227, 1, none⟩ = some (.int .i64 0) := (blk_cell BK227.out 1).trans rfl; have hcz17_2 : w15.cell? ⟨gb227, 2, none⟩ = some (.int .i64 0) := (blk_cell BK227.out 2).trans rfl; have hfz17_0 := blk_frozen BK227.out 0; have hfz17_1 := blk_frozen BK227.out 1; have hfz17_2 := blk_frozen BK227.out 2) | ((with_reducible refine gate_builtin (b := .append) (xs := #[.tmp 33, .tmp 35]) rfl ?_); at_builtin; refine Kd.R_append_rows (Kd.int .u8) (w0 := w) w.heap.size rfl (.tmp 33) (.tmp 35) 26 5 (.int .u8 0) 1 rfl Try.underlying26 info5 rfl (by decide) (by omega) u9 x9_1 ((rd_T39 t222 x24_1).f0) _ _ _ (fun _ => True) (fun _ => False) rfl rfl ?aO ?aR (fun _ _ h => h) (fun _ h => h.elim) ?aF ?aB ?aS ?aL ?_; (case aR => repeat (first | exact ((Kd.R_reads' (by (with_reducible repeat (first | apply Kd.R_alloc | apply Kd.R_drewN | apply Kd.R_drew)); exact (Kd.R_mono (Kd.R_far (p := ⟨gb227, 2, none⟩) (Kd.R_far (p := ⟨gb227, 1, none⟩) (Kd.R_far (p := ⟨gb227, 0, none⟩) (Kd.R_types HL226_0.out BK227.out (by decide)) (fun _ hk => hk.2) (.slice A226_0 ((rd_T39 t222 x24_1).f0).length c226_0)) (fun _ hk => hk.2) (.int .i64 ((rd_T39 t222 x24_1).f1))) (fun _ hk => hk.2) (.int .i64 ((rd_T39 t222 x24_1).f2))) (fun _ h_ => h_.1)))).2.2) | (with_reducible refine Kd.C_alloc ?_ _) | (with_reducible refine Kd.C_drewN ?_ _) | (with_reducible refine Kd.C_drew ?_))); (case aB => exact (by repeat (first | (with_reducible first | exact HB.out | apply below_alloc | apply pw_below_drewN | apply below_drew1 | refine below_set ?_ GE221.out | refine below_set ?_ GE227.out) | exact HB.out))); (case aF => exact (fun _ _ => trivial)); (case aO => exact (by (with_reducible repeat (first | apply Kd.R_alloc | apply Kd.R_drewN | apply Kd.R_drew)); exact Kd.R_mono (Kd.R_far (p := ⟨gb227, 2, none⟩) (Kd.R_far (p := ⟨gb227, 1, none⟩) (Kd.R_far (p := ⟨gb227, 0, none⟩) (Kd.R_types HO_9.out BK227.out (by decide)) (fun _ hk => hk.2) (.slice A226_0 ((rd_T39 t222 x24_1).f0).length c226_0)) (fun _ hk => hk.2) (.int .i64 ((rd_T39 t222 x24_1).f1))) (fun _ hk => hk.2) (.int .i64 ((rd_T39 t222 x24_1).f2))) (fun _ hk => trivial))); (case aS => exact (below_size (by repeat (first | (with_reducible first | exact HB.out | apply below_alloc | apply pw_below_drewN | apply below_drew1 | refine below_set ?_ GE221.out | refine below_set ?_ GE227.out) | exact HB.out)))); (case aL => have := LMc13.out; omega); intro v229 w18 ho hb hg hat; rw [← Ny228.out] at ho; have n0_ := Aside0.mk (Kd.S_after (ok := (fun k_ => k_ ≠ gb227)) (by (with_reducible repeat (first | apply Kd.S_alloc | apply Kd.S_drewN | apply Kd.S_drew)); exact Kd.S_mono (Kd.S_far (p := ⟨gb227, 2, none⟩) (Kd.S_far (p := ⟨gb227, 1, none⟩) (Kd.S_far (p := ⟨gb227, 0, none⟩) (Kd.S_mono HO_22.out (fun k_ hk => (⟨hk, hk.2⟩ : _ ∧ k_ ≠ gb227))) (fun _ hk => hk.2) (.slice A226_0 ((rd_T39 t222 x24_1).f0).length c226_0)) (fun _ hk => hk.2) (.int .i64 ((rd_T39 t222 x24_1).f1))) (fun _ hk => hk.2) (.int .i64 ((rd_T39 t222 x24_1).f2))) (fun _ hk => ⟨hk.1.2, hk.1.1⟩)) hg hat); have n1_ := Aside0.mk (blk_grown (g := gb221) (o := .cells #[.int .i64 a0_0, .int .i64 a0_1, .int .i64 a0_2, .int .i64 a0_3, .int .i64 a0_4] 23 (0, 0)) (by (with_reducible repeat (first | refine blk_drewN ?_ _ | refine blk_drew ?_ | refine blk_alloc ?_ _)); refine blk_far ?_ NB221_227.out _; (with_reducible repeat (first | refine blk_drewN ?_ _ | refine blk_drew ?_ | refine blk_alloc ?_ _)); refine blk_far ?_ NB221_227.out _; (with_reducible repeat (first | refine blk_drewN ?_ _ | refine blk_drew ?_ | refine blk_alloc ?_ _)); refine blk_far ?_ NB221_227.out _; (with_reducible repeat (first | refine blk_drewN ?_ _ | refine blk_drew ?_ | refine blk_alloc ?_ _)); exact BK221.out) hg (Kd.R_ne HO_9.out BK221.out (by decide))); have n2_ := Aside0.mk (Kd.R_after (ok := (fun k_ => some k_ ≠ (.slice (some ad226) t222.length co8 : Value).ownBlock)) (by (with_reducible repeat (first | apply Kd.R_alloc | apply Kd.R_drewN | apply Kd.R_drew)); exact Kd.R_mono (Kd.R_far (p := ⟨gb227, 2, none⟩) (Kd.R_far (p := ⟨gb227, 1, none⟩) (Kd.R_far (p := ⟨gb227, 0, none⟩) (Kd.R_types HL226_0.out BK227.out (by decide)) (fun _ hk => hk.2) (.slice A226_0 ((rd_T39 t222 x24_1).f0).length c226_0)) (fun _ hk => hk.2) (.int .i64 ((rd_T39 t222 x24_1).f1))) (fun _ hk => hk.2) (.int .i64 ((rd_T39 t222 x24_1).f2))) (fun _ hk => ⟨hk.1.2, hk.1.1⟩)) hg hat); have n3_ := Aside0.mk (blk_grown (g := gb227) (o := .cells #[.slice A226_0 ((rd_T39 t222 x24_1).f0).length c226_0, .int .i64 ((rd_T39 t222 x24_1).f1), .int .i64 ((rd_T39 t222 x24_1).f2)] 39 (0, 0)) (by (with_reducible repeat (first | refine blk_drewN ?_ _ | refine blk_drew ?_ | refine blk_alloc ?_ _)); refine blk_put (cs := #[.slice A226_0 ((rd_T39 t222 x24_1).f0).length c226_0, .int .i64 ((rd_T39 t222 x24_1).f1), .int .i64 0]) ?_ 2 _ rfl; (with_reducible repeat (first | refine blk_drewN ?_ _ | refine blk_drew ?_ | refine blk_alloc ?_ _)); refine blk_put (cs := #[.slice A226_0 ((rd_T39 t222 x24_1).f0).length c226_0, .int .i64 0, .int .i64 0]) ?_ 1 _ rfl; (with_reducible repeat (first | refine blk_drewN ?_ _ | refine blk_drew ?_ | refine blk_alloc ?_ _)); refine blk_put (cs := #[.slice none 0 0, .int .i64 0, .int .i64 0]) ?_ 0 _ rfl; (with_reducible repeat (first | refine blk_drewN ?_ _ | refine blk_drew ?_ | refine blk_alloc ?_ _)); exact BK227.out) hg (Kd.R_ne HO_9.out BK227.out (by decide))); have n4_ := Aside0.mk (hb); have n5_ := Aside0.mk (ho); clear HO_22; clear BK221; clear HL226_0; clear BK227; clear HB; clear HO_9; have HO_22 := n0_; have BK221 := n1_; have HL226_0 := n2_; have BK227 := n3_; have HB := n4_; have HO230 := n5_; clear n0_ n1_ n2_ n3_ n4_ n5_; clear ho hb hg hat; have hcz19_0 : w18.cell? ⟨gb227, 0, none⟩ = some (.slice A226_0 ((rd_T39 t222 x24_1).f0).length c226_0) := (blk_cell BK227.out 0).trans rfl; have hcz19_1 : w18.cell? ⟨gb227, 1, none⟩ = some (.int .i64 ((rd_T39 t222 x24_1).f1)) := (blk_cell BK227.out 1).trans rfl; have hcz19_2 : w18.cell? ⟨gb227, 2, none⟩ = some (.int .i64 ((rd_T39 t222 x24_1).f2)) := (blk_cell BK227.out 2).trans rfl; have hfz19_0 := blk_frozen BK227.out 0; have hfz19_1 := blk_frozen BK227.out 1; have hfz19_2 := blk_frozen BK227.out 2)); try go_wp2_with (first | ((with_reducible refine gate_dst (N := 12) rfl ?_); refine box_event ?hg (N := 12) ?hd (cs := #[.slice none 0 0, .int .i64 0, .int .i64 0]) (t := 39) ?hr ?_; (case hd => rfl); (case hg => rfl); (case hr => first | (go_simp; done) | (go_simp; rfl)); intro gb227 hg w15 hbox hb; have n0_ := Aside0.mk (Kd.R_below (by (with_reducible repeat (first | apply Kd.R_alloc | apply Kd.R_drewN | apply Kd.R_drew)); exact HO_9.out) hb); have n1_ := Aside0.mk (Kd.S_below (Kd.S_elderB (by (with_reducible repeat (first | apply Kd.S_alloc | apply Kd.S_drewN | apply Kd.S_drew)); exact HO_22.out) gb227 (Nat.le_of_eq hg.symm)) hb); have n2_ := Aside0.mk (Kd.R_below (by (with_reducible repeat (first | apply Kd.R_alloc | apply Kd.R_drewN | apply Kd.R_drew)); exact HL226_0.out) hb); have n3_ := Aside0.mk (blk_below (g := gb221) (o := .cells #[.int .i64 a0_0, .int .i64 a0_1, .int .i64 a0_2, .int .i64 a0_3, .int .i64 a0_4] 23 (0, 0)) (by (with_reducible repeat (first | refine blk_drewN ?_ _ | refine blk_drew ?_ | refine blk_alloc ?_ _)); exact BK221.out) hb); have n4_ := Aside0.mk (Kd.C_below (by repeat (first | (with_reducible exact HR226_0.out) | (with_reducible refine Kd.C_alloc ?_ _) | (with_reducible refine Kd.C_drewN ?_ _) | (with_reducible refine Kd.C_drew ?_) | exact HR226_0.out)) hb); have n5_ := Aside0.mk (below_step (by repeat (first | (with_reducible first | exact HB.out | apply below_alloc | apply pw_below_drewN | apply below_drew1 | refine below_set ?_ GE221.out) | exact HB.out)) hb); have n6_ := Aside0.mk (hbox); have n7_ := Aside0.mk ((by rw [hg]; exact (below_size (by repeat (first | (with_reducible first | exact HB.out | apply below_alloc | apply pw_below_drewN | apply below_drew1 | refine below_set ?_ GE221.out) | exact HB.out))) : w.heap.size ≤ gb227)); have n8_ := Aside0.mk ((by rw [hg]; exact (below_size (by repeat (first | (with_reducible first | exact HB.out | apply below_alloc | apply pw_below_drewN | apply below_drew1 | refine below_set ?_ GE221.out) | exact HB.out))) : w.heap.size ≤ gb227)); have n9_ := Aside0.mk ((by rw [hg]; exact Nat.ne_of_lt (blk_lt (g := gb221) (o := .cells #[.int .i64 a0_0, .int .i64 a0_1, .int .i64 a0_2, .int .i64 a0_3, .int .i64 a0_4] 23 (0, 0)) (by (with_reducible repeat (first | refine blk_drewN ?_ _ | refine blk_drew ?_ | refine blk_alloc ?_ _)); exact BK221.out)) : gb221 ≠ gb227)); have n10_ := Aside0.mk ((by rw [hg]; exact Nat.ne_of_gt (blk_lt (g := gb221) (o := .cells #[.int .i64 a0_0, .int .i64 a0_1, .int .i64 a0_2, .int .i64 a0_3, .int .i64 a0_4] 23 (0, 0)) (by (with_reducible repeat (first | refine blk_drewN ?_ _ | refine blk_drew ?_ | refine blk_alloc ?_ _)); exact BK221.out)) : gb227 ≠ gb221)); clear HO_9; clear HO_22; clear HL226_0; clear BK221; clear HR226_0; clear HB; have HO_9 := n0_; have HO_22 := n1_; have HL226_0 := n2_; have BK221 := n3_; have HR226_0 := n4_; have HB := n5_; have BK227 := n6_; have GW227 := n7_; have GE227 := n8_; have NB221_227 := n9_; have NB227_221 := n10_; clear n0_ n1_ n2_ n3_ n4_ n5_ n6_ n7_ n8_ n9_ n10_; clear hb hbox hg; have hnb16 := NB227_221.out; have hnc16 := NB221_227.out; have hcz17_0 : w15.cell? ⟨gb227, 0, none⟩ = some (.slice none 0 0) := (blk_cell BK227.out 0).trans rfl; have hcz17_1 : w15.cell? ⟨gb227, 1, none⟩ = some (.int .i64 0) := (blk_cell BK227.out 1).trans rfl; have hcz17_2 : w15.cell? ⟨gb227, 2, none⟩ = some (.int .i64 0) := (blk_cell BK227.out 2).trans rfl; have hfz17_0 := blk_frozen BK227.out 0; have hfz17_1 := blk_frozen BK227.out 1; have hfz17_2 := blk_frozen BK227.out 2) | ((with_reducible refine gate_builtin (b := .append) (xs := #[.tmp 33, .tmp 35]) rfl ?_); at_builtin; refine Kd.R_append_rows (Kd.int .u8) (w0 := w) w.heap.size rfl (.tmp 33) (.tmp 35) 26 5 (.int .u8 0) 1 rfl Try.underlying26 info5 rfl (by decide) (by omega) u9 x9_1 ((rd_T39 t222 x24_1).f0) _ _ _ (fun _ => True) (fun _ => False) rfl rfl ?aO ?aR (fun _ _ h => h) (fun _ h => h.elim) ?aF ?aB ?aS ?aL ?_; (case aR => repeat (first | exact ((Kd.R_reads' (by (with_reducible repeat (first | apply Kd.R_alloc | apply Kd.R_drewN | apply Kd.R_drew)); exact (Kd.R_mono (Kd.R_far (p := ⟨gb227, 2, none⟩) (Kd.R_far (p := ⟨gb227, 1, none⟩) (Kd.R_far (p := ⟨gb227, 0, none⟩) (Kd.R_types HL226_0.out BK227.out (by decide)) (fun _ hk => hk.2) (.slice A226_0 ((rd_T39 t222 x24_1).f0).length c226_0)) (fun _ hk => hk.2) (.int .i64 ((rd_T39 t222 x24_1).f1))) (fun _ hk => hk.2) (.int .i64 ((rd_T39 t222 x24_1).f2))) (fun _ h_ => h_.1)))).2.2) | (with_reducible refine Kd.C_alloc ?_ _) | (with_reducible refine Kd.C_drewN ?_ _) | (with_reducible refine Kd.C_drew ?_))); (case aB => exact (by repeat (first | (with_reducible first | exact HB.out | apply below_alloc | apply pw_below_drewN | apply below_drew1 | refine below_set ?_ GE221.out | refine below_set ?_ GE227.out) | exact HB.out))); (case aF => exact (fun _ _ => trivial)); (case aO => exact (by (with_reducible repeat (first | apply Kd.R_alloc | apply Kd.R_drewN | apply Kd.R_drew)); exact Kd.R_mono (Kd.R_far (p := ⟨gb227, 2, none⟩) (Kd.R_far (p := ⟨gb227, 1, none⟩) (Kd.R_far (p := ⟨gb227, 0, none⟩) (Kd.R_types HO_9.out BK227.out (by decide)) (fun _ hk => hk.2) (.slice A226_0 ((rd_T39 t222 x24_1).f0).length c226_0)) (fun _ hk => hk.2) (.int .i64 ((rd_T39 t222 x24_1).f1))) (fun _ hk => hk.2) (.int .i64 ((rd_T39 t222 x24_1).f2))) (fun _ hk => trivial))); (case aS => exact (below_size (by repeat (first | (with_reducible first | exact HB.out | apply below_alloc | apply pw_below_drewN | apply below_drew1 | refine below_set ?_ GE221.out | refine below_set ?_ GE227.out) | exact HB.out)))); (case aL => have := LMc13.out; omega); intro v229 w18 ho hb hg hat; rw [← Ny228.out] at ho; have n0_ := Aside0.mk (Kd.S_after (ok := (fun k_ => k_ ≠ gb227)) (by (with_reducible repeat (first | apply Kd.S_alloc | apply Kd.S_drewN | apply Kd.S_drew)); exact Kd.S_mono (Kd.S_far (p := ⟨gb227, 2, none⟩) (Kd.S_far (p := ⟨gb227, 1, none⟩) (Kd.S_far (p := ⟨gb227, 0, none⟩) (Kd.S_mono HO_22.out (fun k_ hk => (⟨hk, hk.2⟩ : _ ∧ k_ ≠ gb227))) (fun _ hk => hk.2) (.slice A226_0 ((rd_T39 t222 x24_1).f0).length c226_0)) (fun _ hk => hk.2) (.int .i64 ((rd_T39 t222 x24_1).f1))) (fun _ hk => hk.2) (.int .i64 ((rd_T39 t222 x24_1).f2))) (fun _ hk => ⟨hk.1.2, hk.1.1⟩)) hg hat); have n1_ := Aside0.mk (blk_grown (g := gb221) (o := .cells #[.int .i64 a0_0, .int .i64 a0_1, .int .i64 a0_2, .int .i64 a0_3, .int .i64 a0_4] 23 (0, 0)) (by (with_reducible repeat (first | refine blk_drewN ?_ _ | refine blk_drew ?_ | refine blk_alloc ?_ _)); refine blk_far ?_ NB221_227.out _; (with_reducible repeat (first | refine blk_drewN ?_ _ | refine blk_drew ?_ | refine blk_alloc ?_ _)); refine blk_far ?_ NB221_227.out _; (with_reducible repeat (first | refine blk_drewN ?_ _ | refine blk_drew ?_ | refine blk_alloc ?_ _)); refine blk_far ?_ NB221_227.out _; (with_reducible repeat (first | refine blk_drewN ?_ _ | refine blk_drew ?_ | refine blk_alloc ?_ _)); exact BK221.out) hg (Kd.R_ne HO_9.out BK221.out (by decide))); have n2_ := Aside0.mk (Kd.R_after (ok := (fun k_ => some k_ ≠ (.slice (some ad226) t222.length co8 : Value).ownBlock)) (by (with_reducible repeat (first | apply Kd.R_alloc | apply Kd.R_drewN | apply Kd.R_drew)); exact Kd.R_mono (Kd.R_far (p := ⟨gb227, 2, none⟩) (Kd.R_far (p := ⟨gb227, 1, none⟩) (Kd.R_far (p := ⟨gb227, 0, none⟩) (Kd.R_types HL226_0.out BK227.out (by decide)) (fun _ hk => hk.2) (.slice A226_0 ((rd_T39 t222 x24_1).f0).length c226_0)) (fun _ hk => hk.2) (.int .i64 ((rd_T39 t222 x24_1).f1))) (fun _ hk => hk.2) (.int .i64 ((rd_T39 t222 x24_1).f2))) (fun _ hk => ⟨hk.1.2, hk.1.1⟩)) hg hat); have n3_ := Aside0.mk (blk_grown (g := gb227) (o := .cells #[.slice A226_0 ((rd_T39 t222 x24_1).f0).length c226_0, .int .i64 ((rd_T39 t222 x24_1).f1), .int .i64 ((rd_T39 t222 x24_1).f2)] 39 (0, 0)) (by (with_reducible repeat (first | refine blk_drewN ?_ _ | refine blk_drew ?_ | refine blk_alloc ?_ _)); refine blk_put (cs := #[.slice A226_0 ((rd_T39 t222 x24_1).f0).length c226_0, .int .i64 ((rd_T39 t222 x24_1).f1), .int .i64 0]) ?_ 2 _ rfl; (with_reducible repeat (first | refine blk_drewN ?_ _ | refine blk_drew ?_ | refine blk_alloc ?_ _)); refine blk_put (cs := #[.slice A226_0 ((rd_T39 t222 x24_1).f0).length c226_0, .int .i64 0, .int .i64 0]) ?_ 1 _ rfl; (with_reducible repeat (first | refine blk_drewN ?_ _ | refine blk_drew ?_ | refine blk_alloc ?_ _)); refine blk_put (cs := #[.slice none 0 0, .int .i64 0, .int .i64 0]) ?_ 0 _ rfl; (with_reducible repeat (first | refine blk_drewN ?_ _ | refine blk_drew ?_ | refine blk_alloc ?_ _)); exact BK227.out) hg (Kd.R_ne HO_9.out BK227.out (by decide))); have n4_ := Aside0.mk (hb); have n5_ := Aside0.mk (ho); clear HO_22; clear BK221; clear HL226_0; clear BK227; clear HB; clear HO_9; have HO_22 := n0_; have BK221 := n1_; have HL226_0 := n2_; have BK227 := n3_; have HB := n4_; have HO230 := n5_; clear n0_ n1_ n2_ n3_ n4_ n5_; clear ho hb hg hat; have hcz19_0 : w18.cell? ⟨gb227, 0, none⟩ = some (.slice A226_0 ((rd_T39 t222 x24_1).f0).length c226_0) := (blk_cell BK227.out 0).trans rfl; have hcz19_1 : w18.cell? ⟨gb227, 1, none⟩ = some (.int .i64 ((rd_T39 t222 x24_1).f1)) := (blk_cell BK227.out 1).trans rfl; have hcz19_2 : w18.cell? ⟨gb227, 2, none⟩ = some (.int .i64 ((rd_T39 t222 x24_1).f2)) := (blk_cell BK227.out 2).trans rfl; have hfz19_0 := blk_frozen BK227.out 0; have hfz19_1 := blk_frozen BK227.out 1; have hfz19_2 := blk_frozen BK227.out 2)))
         go_roundg k1
         case measure => have := HK1.out; omega
         case rel => exact ⟨(y228), (ji14), (wrap64 (x24_1 + 1)), (by first | rfl | (simp; done) | (simp only [← hji14] <;> (first | rfl | simp)) | (simp [*]; done)), rfl, H', ⟨by have := HK1.out; omega⟩, ⟨uR HO230.out⟩, ⟨by (with_reducible repeat (first | apply Kd.S_alloc | apply Kd.S_drewN | apply Kd.S_drew)); exact Kd.S_mono HO_22.out (fun _ hk => hk.2)⟩, ⟨uK BK221.out⟩, ⟨uB HB.out⟩⟩
        ·rw [if_neg c13] at H
         cases H
       ·rw [if_neg c12] at H
        have c12b0 : (((rd_T39 t222 x24_1).f2) == 0) = false := beq_eq_false_iff_ne.mpr c12
        have c12b1 : (((rd_T39 t222 x24_1).f2) != 0) = true := bne_iff_ne.mpr c12
        simp only [Option.some.injEq, Prod.mk.injEq] at H
        obtain ⟨rfl, rfl, rfl⟩ := H
        have p226 : 0 ≤ (x24_1 : Int) := of_decide_eq_true (by first | (with_reducible assumption) | assumption)
        have q226 : x24_1 < (t222.length : Int) := of_decide_eq_true (by first | (with_reducible assumption) | assumption)
        obtain ⟨ad226, A226_0, c226_0, e226, hx226_0, hx226_1, hx226_2, hl226_0, hi226_0⟩ := at_T39 (Kd.S_reads' HO_22.out).2.2 x24_1 p226 q226
        cases e226
        obtain ⟨ce226, hce226, hMe226, hcc226⟩ := Kd.S_get HO_22.out z39 x24_1 p226 (by first | exact q226 | exact of_decide_eq_true (by first | (with_reducible assumption) | assumption) | (have e_ := (Kd.S_reads' HO_22.out).1; omega))
        obtain ⟨ve226_0, rfl, ge226_0⟩ := k39_openM hMe226
        have hv226_0 := hcc226 0 _ rfl
        rw [Nat.add_zero] at hv226_0
        replace hv226_0 := Option.some.inj (hv226_0.symm.trans hx226_0)
        rw [hv226_0] at ge226_0
        have HL226_0 := Aside0.mk (show Kd.R (Kd.int .u8) 5 _ _ _ _ ((rd_T39 t222 x24_1).f0) from ge226_0)
        clear hv226_0 ge226_0
        clear hcc226 hce226
        have HR226_0 := Aside0.mk hi226_0
        have HC226_0 := Aside0.mk hl226_0
        clear hi226_0 hl226_0
        replace p226 := eq_true p226
        replace q226 := eq_true q226
        go_wp2_with (first | ((with_reducible refine gate_dst (N := 12) rfl ?_); refine uX 12 #[.slice none 0 0, .int .i64 0, .int .i64 0] 39 ?_; intro gb227 hg w20 hbox hb; replace HO_9 := uRb HO_9 hb; replace HO_22 := uA (Kd.S_below (Kd.S_elderB (uS HO_22.out) gb227 (Nat.le_of_eq hg.symm)) hb); replace HL226_0 := uRb HL226_0 hb; replace HR226_0 := uA (Kd.C_below (by repeat (first | (with_reducible exact HR226_0.out) | (with_reducible refine Kd.C_alloc ?_ _) | (with_reducible refine Kd.C_drewN ?_ _) | (with_reducible refine Kd.C_drew ?_) | exact HR226_0.out)) hb); have BK227 := uA hbox; have GW227 := uGe HB hg; have GE227 := uGe HB hg; replace HB := uBb HB hb; have NB221_227 := uA (by rw [hg]; exact Nat.ne_of_lt (blk_lt (g := gb221) (o := .cells #[.int .i64 a0_0, .int .i64 a0_1, .int .i64 a0_2, .int .i64 a0_3, .int .i64 a0_4] 23 (0, 0)) (uK BK221.out)) : gb221 ≠ gb227); have NB227_221 := uA (by rw [hg]; exact Nat.ne_of_gt (blk_lt (g := gb221) (o := .cells #[.int .i64 a0_0, .int .i64 a0_1, .int .i64 a0_2, .int .i64 a0_3, .int .i64 a0_4] 23 (0, 0)) (uK BK221.out)) : gb227 ≠ gb221); replace BK221 := uKb BK221 hb; clear hg; have hnb21 := NB227_221.out; have hnc21 := NB221_227.out; have hcz22_0 : w20.cell? ⟨gb227, 0, none⟩ = some (.slice none 0 0) := (blk_cell BK227.out 0).trans rfl; have hcz22_1 : w20.cell? ⟨gb227, 1, none⟩ = some (.int .i64 0) := (blk_cell BK227.out 1).trans rfl; have hcz22_2 : w20.cell? ⟨gb227, 2, none⟩ = some (.int .i64 0) := (blk_cell BK227.out 2).trans rfl; have hfz22_0 := blk_frozen BK227.out 0; have hfz22_1 := blk_frozen BK227.out 1; have hfz22_2 := blk_frozen BK227.out 2))
        repeat (go_quiet (first | ((with_reducible refine gate_dst (N := 12) rfl ?_); refine uX 12 #[.slice none 0 0, .int .i64 0, .int .i64 0] 39 ?_; intro gb227 hg w20 hbox hb; replace HO_9 := uRb HO_9 hb; replace HO_22 := uA (Kd.S_below (Kd.S_elderB (uS HO_22.out) gb227 (Nat.le_of_eq hg.symm)) hb); replace HL226_0 := uRb HL226_0 hb; replace HR226_0 := uA (Kd.C_below (by repeat (first | (with_reducible exact HR226_0.out) | (with_reducible refine Kd.C_alloc ?_ _) | (with_reducible refine Kd.C_drewN ?_ _) | (with_reducible refine Kd.C_drew ?_) | exact HR226_0.out)) hb); have BK227 := uA hbox; have GW227 := uGe HB hg; have GE227 := uGe HB hg; replace HB := uBb HB hb; have NB221_227 := uA (by rw [hg]; exact Nat.ne_of_lt (blk_lt (g := gb221) (o := .cells #[.int .i64 a0_0, .int .i64 a0_1, .int .i64 a0_2, .int .i64 a0_3, .int .i64 a0_4] 23 (0, 0)) (uK BK221.out)) : gb221 ≠ gb227); have NB227_221 := uA (by rw [hg]; exact Nat.ne_of_gt (blk_lt (g := gb221) (o := .cells #[.int .i64 a0_0, .int .i64 a0_1, .int .i64 a0_2, .int .i64 a0_3, .int .i64 a0_4] 23 (0, 0)) (uK BK221.out)) : gb227 ≠ gb221); replace BK221 := uKb BK221 hb; clear hg; have hnb21 := NB227_221.out; have hnc21 := NB221_227.out; have hcz22_0 : w20.cell? ⟨gb227, 0, none⟩ = some (.slice none 0 0) := (blk_cell BK227.out 0).trans rfl; have hcz22_1 : w20.cell? ⟨gb227, 1, none⟩ = some (.int .i64 0) := (blk_cell BK227.out 1).trans rfl; have hcz22_2 : w20.cell? ⟨gb227, 2, none⟩ = some (.int .i64 0) := (blk_cell BK227.out 2).trans rfl; have hfz22_0 := blk_frozen BK227.out 0; have hfz22_1 := blk_frozen BK227.out 1; have hfz22_2 := blk_frozen BK227.out 2)); try go_wp2_with (first | ((with_reducible refine gate_dst (N := 12) rfl ?_); refine uX 12 #[.slice none 0 0, .int .i64 0, .int .i64 0] 39 ?_; intro gb227 hg w20 hbox hb; replace HO_9 := uRb HO_9 hb; replace HO_22 := uA (Kd.S_below (Kd.S_elderB (uS HO_22.out) gb227 (Nat.le_of_eq hg.symm)) hb); replace HL226_0 := uRb HL226_0 hb; replace HR226_0 := uA (Kd.C_below (by repeat (first | (with_reducible exact HR226_0.out) | (with_reducible refine Kd.C_alloc ?_ _) | (with_reducible refine Kd.C_drewN ?_ _) | (with_reducible refine Kd.C_drew ?_) | exact HR226_0.out)) hb); have BK227 := uA hbox; have GW227 := uGe HB hg; have GE227 := uGe HB hg; replace HB := uBb HB hb; have NB221_227 := uA (by rw [hg]; exact Nat.ne_of_lt (blk_lt (g := gb221) (o := .cells #[.int .i64 a0_0, .int .i64 a0_1, .int .i64 a0_2, .int .i64 a0_3, .int .i64 a0_4] 23 (0, 0)) (uK BK221.out)) : gb221 ≠ gb227); have NB227_221 := uA (by rw [hg]; exact Nat.ne_of_gt (blk_lt (g := gb221) (o := .cells #[.int .i64 a0_0, .int .i64 a0_1, .int .i64 a0_2, .int .i64 a0_3, .int .i64 a0_4] 23 (0, 0)) (uK BK221.out)) : gb227 ≠ gb221); replace BK221 := uKb BK221 hb; clear hg; have hnb21 := NB227_221.out; have hnc21 := NB221_227.out; have hcz22_0 : w20.cell? ⟨gb227, 0, none⟩ = some (.slice none 0 0) := (blk_cell BK227.out 0).trans rfl; have hcz22_1 : w20.cell? ⟨gb227, 1, none⟩ = some (.int .i64 0) := (blk_cell BK227.out 1).trans rfl; have hcz22_2 : w20.cell? ⟨gb227, 2, none⟩ = some (.int .i64 0) := (blk_cell BK227.out 2).trans rfl; have hfz22_0 := blk_frozen BK227.out 0; have hfz22_1 := blk_frozen BK227.out 1; have hfz22_2 := blk_frozen BK227.out 2)))
        go_ret3
        exact ⟨_, by first | rfl | (simp [errW_none, errW_some] <;> rfl) | (simp [*, errW_none, errW_some] <;> rfl), by first | exact Kd.R_nil _ _ _ _ _ | exact Kd.N_nil _ _ _ _ _ | exact Kd.V_nil _ _ _ _ _ | exact Kd.Q_nil _ _ _ _ _ | exact Kd.S_nil _ _ _ _ _, by repeat (first | (with_reducible first | exact HB.out | apply below_alloc | apply pw_below_drewN | apply below_drew1 | refine below_set ?_ GE221.out | refine below_set ?_ GE227.out) | exact HB.out)⟩
      ·rw [if_neg c11] at H
       cases H
     ·rw [if_neg c10] at H
      cases H
    ·rw [if_neg c9] at H
     have c9b0 : decide (x24_1 < (t222.length : Int)) = false := decide_eq_false c9
     clear c9
     simp only [Option.some.injEq, Prod.mk.injEq] at H
     obtain ⟨rfl, rfl, rfl⟩ := H
     go_wp2
     go_ret3
     exact ⟨_, by first | rfl | (simp [errW_none, errW_some] <;> rfl) | (simp [*, errW_none, errW_some] <;> rfl), by (with_reducible repeat (first | apply Kd.R_alloc | apply Kd.R_drewN | apply Kd.R_drew)); exact HO_9.out, uB HB.out⟩
 ·rw [if_neg c4] at H
  have c4b0 : (t225 == 0) = false := beq_eq_false_iff_ne.mpr c4
  have c4b1 : (t225 != 0) = true := bne_iff_ne.mpr c4
  simp only [Option.some.injEq, Prod.mk.injEq] at H
  obtain ⟨rfl, rfl, rfl⟩ := H
  go_enter Try.func15, Try.ntmps15
  go_wp2_with (first | ((with_reducible refine gate_dst (N := 2) rfl ?_); refine uX 2 #[.int .i64 a0_0, .int .i64 a0_1, .int .i64 a0_2, .int .i64 a0_3, .int .i64 a0_4] 23 ?_; intro gb221 hg w23 hbox hb; have BK221 := uA hbox; have GW221 := uGe HB hg; have GE221 := uGe HB hg; replace HB := uBb HB hb; clear hg; obtain ⟨_, _, _, _, _, _, _, _, _, _⟩ := uZ BK221) | (go_at_call 13; (with_reducible refine (ecc_Unpack.calls k a0_0 a0_1 a0_2 a0_3 a0_4 (fun k_ => k_ < w.heap.size) _ _ l1 t222 t225 _ ?side1 A3.out).mono ?_); (case side1 => exact Kd.V_mk HC1.out (Kd.F_below (Kd.C_F (Kd.heap_int .u8) HR1.out) (uB HB.out))); rintro e w25 ⟨v223, rfl, ho0, hb⟩; have HO224 := uA (Kd.S_lower (Kd.S_mono (ok' := fun k_ => True) ho0 (fun _ hk_ => trivial)) (below_size (uB HB.out))); replace BK221 := uKb BK221 hb; replace HB := uBb HB hb))
  go_ret3
  exact ⟨_, by first | rfl | (simp [errW_none, errW_some] <;> rfl) | (simp [*, errW_none, errW_some] <;> rfl), by first | exact Kd.R_nil _ _ _ _ _ | exact Kd.N_nil _ _ _ _ _ | exact Kd.V_nil _ _ _ _ _ | exact Kd.Q_nil _ _ _ _ _ | exact Kd.S_nil _ _ _ _ _, uB HB.out⟩
def ecc_Room.f (a0_0 : Int) (a0_1 : Int) (a0_2 : Int) (a0_3 : Int) (a0_4 : Int) : Option (Int × Int) := (ecc_Check.f a0_0 a0_1 a0_2 a0_3 a0_4).bind fun t232 => (if t232 = 0 then (some (wrap64 (a0_2 * a0_3), 0)) else (some (0, t232)))
set_option maxHeartbeats 8000000 in
set_option maxRecDepth 100000 in
theorem ecc_Room.calls (a0_0 : Int) (a0_1 : Int) (a0_2 : Int) (a0_3 : Int) (a0_4 : Int) (r1 : Int) (r2 : Int) (w : World) (h : ecc_Room.f a0_0 a0_1 a0_2 a0_3 a0_4 = some (r1, r2)) :
  Calls Try.prog 20 #[.agg #[.int .i64 a0_0, .int .i64 a0_1, .int .i64 a0_2, .int .i64 a0_3, .int .i64 a0_4]] w fun e w' => e = .returned (.tuple #[.int .i64 r1, .int .i64 r2]) ∧ Below w.heap.size w w' := by
 have hu23 := Try.underlying23
 have HB := Aside0.mk (Below.refl w.heap.size w)
 have H := h
 unfold ecc_Room.f at H
 clear h
 obtain ⟨t232, A2, H⟩ := uO H
 by_cases c3 : t232 = 0
 ·rw [if_pos c3] at H
  have c3b0 : (t232 == 0) = true := beq_iff_eq.mpr c3
  have c3b1 : (t232 != 0) = false := bne_eq_false_iff_eq.mpr c3
  clear c3
  simp only [Option.some.injEq, Prod.mk.injEq] at H
  obtain ⟨rfl, rfl⟩ := H
  go_enter Try.func20, Try.ntmps20
  go_wp2_with (first | ((with_reducible refine gate_dst (N := 1) rfl ?_); refine uX 1 #[.int .i64 a0_0, .int .i64 a0_1, .int .i64 a0_2, .int .i64 a0_3, .int .i64 a0_4] 23 ?_; intro gb231 hg w4 hbox hb; have BK231 := uA hbox; have GW231 := uGe HB hg; have GE231 := uGe HB hg; replace HB := uBb HB hb; clear hg; obtain ⟨_, _, _, _, _, _, _, _, _, _⟩ := uZ BK231) | ((with_reducible refine gate_callee (f := 19) rfl ?_); refine uG (some 6) Try.func19 #[.agg #[.int .i64 a0_0, .int .i64 a0_1, .int .i64 a0_2, .int .i64 a0_3, .int .i64 a0_4]] ?_; (with_reducible refine (ecc_Check.calls a0_0 a0_1 a0_2 a0_3 a0_4 t232 _ A2.out).mono ?_); rintro e w6 ⟨rfl, hb⟩; refine ⟨_, rfl, ?_⟩; replace BK231 := uKb BK231 hb; replace HB := uBb HB hb; obtain ⟨_, _, _, _, _, _, _, _, _, _⟩ := uZ BK231))
  go_ret2
  exact ⟨rfl, uB HB.out⟩
 ·rw [if_neg c3] at H
  have c3b0 : (t232 == 0) = false := beq_eq_false_iff_ne.mpr c3
  have c3b1 : (t232 != 0) = true := bne_iff_ne.mpr c3
  simp only [Option.some.injEq, Prod.mk.injEq] at H
  obtain ⟨rfl, rfl⟩ := H
  go_enter Try.func20, Try.ntmps20
  go_wp2_with (first | ((with_reducible refine gate_dst (N := 1) rfl ?_); refine uX 1 #[.int .i64 a0_0, .int .i64 a0_1, .int .i64 a0_2, .int .i64 a0_3, .int .i64 a0_4] 23 ?_; intro gb231 hg w8 hbox hb; have BK231 := uA hbox; have GW231 := uGe HB hg; have GE231 := uGe HB hg; replace HB := uBb HB hb; clear hg; obtain ⟨_, _, _, _, _, _, _, _, _, _⟩ := uZ BK231) | ((with_reducible refine gate_callee (f := 19) rfl ?_); refine uG (some 6) Try.func19 #[.agg #[.int .i64 a0_0, .int .i64 a0_1, .int .i64 a0_2, .int .i64 a0_3, .int .i64 a0_4]] ?_; (with_reducible refine (ecc_Check.calls a0_0 a0_1 a0_2 a0_3 a0_4 t232 _ A2.out).mono ?_); rintro e w10 ⟨rfl, hb⟩; refine ⟨_, rfl, ?_⟩; replace BK231 := uKb BK231 hb; replace HB := uBb HB hb))
  go_ret2
  exact ⟨rfl, uB HB.out⟩
def bpoly_norm.l0 : Nat → List Int → Option (List Int)
 | 0, _ => none
 | k + 1, x0 => if (x0.length : Int) > 0 then (if 0 ≤ (wrap64 ((x0.length : Int) - 1)) then (if (wrap64 ((x0.length : Int) - 1)) < (x0.length : Int) then (if (rd x0 (wrap64 ((x0.length : Int) - 1))) = 0 then (if (wrap64 ((x0.length : Int) - 1)) ≤ (x0.length : Int) then (bpoly_norm.l0 k (x0.take ((wrap64 ((x0.length : Int) - 1)) : Int).toNat)) else (none)) else (some x0)) else (none)) else (none)) else (some x0)
def bpoly_norm.f (k : Nat) (l0 : List Int) : Option (List Int) := bpoly_norm.l0 k l0
theorem bpoly_norm.mono_l : ∀ k, (∀ y0, LeO (bpoly_norm.l0 k y0) (bpoly_norm.l0 (k + 1) y0))
 | 0 => fun _ r h => by simp [bpoly_norm.l0] at h
 | k + 1 => by
  have ih0 := bpoly_norm.mono_l k
  ·intro y0
   unfold bpoly_norm.l0
   repeat' first
   | (with_reducible exact ih0 _)
   | (with_reducible exact LeO.refl _)
   | (with_reducible exact LeO.none _)
   | (with_reducible refine LeO.ite ?_ ?_)
   | (with_reducible refine LeO.bind ?_ (fun _ => ?_))
   | exact ih0 _
   | exact LeO.none _
   | refine LeO.ite ?_ ?_
   | refine LeO.bind ?_ (fun _ => ?_)
theorem bpoly_norm.mono : ∀ a0 k, LeO (bpoly_norm.f k a0) (bpoly_norm.f (k + 1) a0) := by
 intro a0 k
 have ih0 := bpoly_norm.mono_l k
 unfold bpoly_norm.f
 repeat' first
   | (with_reducible exact ih0 _)
   | (with_reducible exact LeO.refl _)
   | (with_reducible exact LeO.none _)
   | (with_reducible refine LeO.ite ?_ ?_)
   | (with_reducible refine LeO.bind ?_ (fun _ => ?_))
   | exact ih0 _
   | exact LeO.none _
   | refine LeO.ite ?_ ?_
   | refine LeO.bind ?_ (fun _ => ?_)
set_option maxHeartbeats 8000000 in
set_option maxRecDepth 100000 in
theorem bpoly_norm.calls (k : Nat) (P0_ : Nat → Prop) (A0 : Option Addr) (c0 : Nat) (l0 : List Int) (r : List Int) (w : World) (hs0 : Kd.V (Kd.int .u8) 5 w w.heap.size (fun k_ => P0_ k_) (.slice A0 l0.length c0) l0) (h : bpoly_norm.f k l0 = some r) :
  Calls Try.prog 64 #[.slice A0 l0.length c0] w fun e w' => ∃ v0_ : Value, e = .returned (v0_) ∧ Kd.V (Kd.int .u8) 5 w' w.heap.size (fun k_ => (P0_ k_ ∨ w.heap.size ≤ k_)) v0_ r ∧ Below w.heap.size w w' := by
 have HO0 := Aside0.mk (show Kd.V (Kd.int .u8) 5 w w.heap.size (fun k_ => (P0_ k_ ∨ w.heap.size ≤ k_)) (.slice A0 l0.length c0) l0 from Kd.V_mono hs0 (fun k_ hk => .inl hk))
 have HB := Aside0.mk (Below.refl w.heap.size w)
 have H : (bpoly_norm.l0 k l0) = some r := h
 clear h
 have H' := Aside0.mk H
 clear H
 go_enter Try.func64, Try.ntmps64
 go_wp2
 go_loopg [0] k (fun kq v0 w' => ∃ (x0_1 : List Int), Aside0 (bpoly_norm.l0 kq x0_1 = some r) ∧ Aside0 (kq ≤ k) ∧ Aside0 (Kd.V (Kd.int .u8) 5 w' w.heap.size (fun k_ => (P0_ k_ ∨ w.heap.size ≤ k_)) v0 x0_1) ∧ Aside0 (Below w.heap.size w w'))
 case atStart => exact ⟨(l0), H', ⟨Nat.le_refl _⟩, ⟨uV HO0.out⟩, ⟨uB HB.out⟩⟩
 case round =>
  clear H'
  obtain ⟨x0_1, HA, HK1, HO_0, HB⟩ := hrel
  cases gk with
  | zero => exact absurd HA.out (by simp [bpoly_norm.l0])
  | succ k1 =>
   have H := HA.out
   clear HA
   simp only [bpoly_norm.l0] at H
   by_cases c2 : (x0_1.length : Int) > 0
   ·rw [if_pos c2] at H
    have c2b0 : decide (0 < (x0_1.length : Int)) = true := decide_eq_true c2
    have c2b1 : decide (0 < x0_1.length) = true := decide_eq_true (by omega)
    clear c2
    obtain ⟨ji3, hji3⟩ : ∃ j_ : Int, (wrap64 ((x0_1.length : Int) - 1)) = j_ := ⟨_, rfl⟩
    first | rw [hji3] at H | simp only [hji3] at H
    have hji3w : (IntKind.i64.wrap ((x0_1.length : Int) - 1)) = ji3 := (i64_w _).trans hji3
    by_cases c4 : 0 ≤ (ji3)
    ·rw [if_pos c4] at H
     have c4b0 : decide (0 ≤ (ji3)) = true := decide_eq_true c4
     clear c4
     by_cases c5 : (ji3) < (x0_1.length : Int)
     ·rw [if_pos c5] at H
      have c5b0 : decide ((ji3) < (x0_1.length : Int)) = true := decide_eq_true c5
      clear c5
      by_cases c6 : (rd x0_1 (ji3)) = 0
      ·rw [if_pos c6] at H
       have c6b0 : ((rd x0_1 (ji3)) == 0) = true := beq_iff_eq.mpr c6
       have c6b1 : ((rd x0_1 (ji3)) != 0) = false := bne_eq_false_iff_eq.mpr c6
       clear c6
       have c7b0 := eq_true (of_decide_eq_true (by first | (with_reducible assumption) | assumption) : 0 ≤ (ji3))
       by_cases c8 : (ji3) ≤ (x0_1.length : Int)
       ·rw [if_pos c8] at H
        have c8b0 := eq_true c8
        have c8b1 : decide ((ji3) ≤ (x0_1.length : Int)) = true := decide_eq_true c8
        clear c8
        obtain ⟨y234, Ny234⟩ := uEA ((x0_1.take ((ji3) : Int).toNat) : List Int)
        rw [← Ny234.out] at H
        have H' := Aside0.mk H
        clear H
        obtain ⟨Ao9, co9, eo9⟩ := Kd.V_slice HO_0.out
        subst eo9
        have p233 : 0 ≤ ((ji3) : Int) := of_decide_eq_true (by first | (with_reducible assumption) | assumption)
        have q233 : (ji3) < (x0_1.length : Int) := of_decide_eq_true (by first | (with_reducible assumption) | assumption)
        obtain ⟨ad233, e233, hx233_0⟩ := Kd.at_int (Kd.V_reads' HO_0.out).2.2 (ji3) p233 q233
        cases e233
        replace p233 := eq_true p233
        replace q233 := eq_true q233
        have q10 : ((ji3) : Int) ≤ ((x0_1.length : Int) : Int) := of_decide_eq_true (by first | (with_reducible assumption) | assumption)
        obtain ⟨i010, hi010, _, hsz10, _⟩ := info_parts info5
        have hroom10 : x0_1.length ≤ co9 := (Kd.V_reads' HO_0.out).2.1
        have hC10 : Kd.F (Kd.int .u8) _ _ (some ad233) x0_1.length x0_1 := (Kd.V_at (base := w.heap.size) HO_0.out).2.2
        have hcut10 := cut_to (P := Try.prog) 26 5 .i64 Try.underlying26 hi010 (some ad233) x0_1.length co9 (ji3) (of_decide_eq_true (by first | (with_reducible assumption) | assumption)) q10 hroom10
        have hr10 := Kd.F_take (m := ((ji3) : Int).toNat) hC10 (by omega)
        have hy10 : y234.length = ((ji3) : Int).toNat := (by rw [Ny234.out, List.length_take]; omega)
        rw [← Ny234.out] at hr10
        rw [← hy10] at hcut10
        have HO238 := Aside0.mk (show Kd.V (Kd.int .u8) 5 _ w.heap.size _ (.slice (some ad233) y234.length co9) y234 from Kd.V_mk (by omega) hr10)
        have HC238 := Aside0.mk (show y234.length ≤ co9 from by omega)
        clear hr10 hC10 hroom10 hi010 hsz10
        have KY10 := Aside0.mk hy10
        clear hy10
        replace q10 := eq_true q10
        go_wp2
        go_roundg k1
        case measure => have := HK1.out; omega
        case rel => exact ⟨(y234), H', ⟨by have := HK1.out; omega⟩, ⟨uV HO238.out⟩, ⟨uB HB.out⟩⟩
       ·rw [if_neg c8] at H
        cases H
      ·rw [if_neg c6] at H
       have c6b0 : ((rd x0_1 (ji3)) == 0) = false := beq_eq_false_iff_ne.mpr c6
       have c6b1 : ((rd x0_1 (ji3)) != 0) = true := bne_iff_ne.mpr c6
       obtain rfl := Option.some.inj H
       obtain ⟨Ao11, co11, eo11⟩ := Kd.V_slice HO_0.out
       subst eo11
       have p233 : 0 ≤ ((ji3) : Int) := of_decide_eq_true (by first | (with_reducible assumption) | assumption)
       have q233 : (ji3) < (x0_1.length : Int) := of_decide_eq_true (by first | (with_reducible assumption) | assumption)
       obtain ⟨ad233, e233, hx233_0⟩ := Kd.at_int (Kd.V_reads' HO_0.out).2.2 (ji3) p233 q233
       cases e233
       replace p233 := eq_true p233
       replace q233 := eq_true q233
       go_wp2
       go_ret
       exact ⟨_, by first | rfl | (simp [errW_none, errW_some] <;> rfl) | (simp only [← hji3]; first | rfl | (simp [errW_none, errW_some] <;> rfl)) | (simp [*, errW_none, errW_some] <;> rfl), by (with_reducible repeat (first | apply Kd.V_alloc | apply Kd.V_drewN | apply Kd.V_drew)); exact HO_0.out, uB HB.out⟩
     ·rw [if_neg c5] at H
      cases H
    ·rw [if_neg c4] at H
     cases H
   ·rw [if_neg c2] at H
    have c2b0 : decide (0 < (x0_1.length : Int)) = false := decide_eq_false c2
    have c2b1 : decide (0 < x0_1.length) = false := decide_eq_false (by omega)
    clear c2
    obtain rfl := Option.some.inj H
    obtain ⟨Ao12, co12, eo12⟩ := Kd.V_slice HO_0.out
    subst eo12
    go_wp2
    go_ret
    exact ⟨_, by first | rfl | (simp [errW_none, errW_some] <;> rfl) | (simp [*, errW_none, errW_some] <;> rfl), by (with_reducible repeat (first | apply Kd.V_alloc | apply Kd.V_drewN | apply Kd.V_drew)); exact HO_0.out, uB HB.out⟩
def bpoly_one.f (l0 : List Int) (a1 : Int) : Option (Bool) := if 0 ≤ (wrap64 (Int.tdiv a1 8)) then (if (wrap64 (Int.tdiv a1 8)) < (l0.length : Int) then (if 0 ≤ (Int.tmod a1 8) then (some ((Go.bits .and .u8 (shr .u8 (rd l0 (wrap64 (Int.tdiv a1 8))) (Int.tmod a1 8)) 1) == 1)) else (none)) else (none)) else (none)
set_option maxHeartbeats 8000000 in
set_option maxRecDepth 100000 in
theorem bpoly_one.calls (A0 : Option Addr) (c0 : Nat) (l0 : List Int) (a1 : Int) (r : Bool) (w : World) (hr0 : Kd.C (Kd.int .u8) w A0 l0.length l0) (hc0 : l0.length ≤ c0) (h : bpoly_one.f l0 a1 = some r) :
  Calls Try.prog 66 #[.slice A0 l0.length c0, .int .i64 a1] w fun e w' => e = .returned (.bool r) ∧ Drawn0 w w' := by
 have HR0 := Aside0.mk hr0
 have HC0 := Aside0.mk hc0
 clear hr0 hc0
 have H := h
 unfold bpoly_one.f at H
 clear h
 obtain ⟨ji3, hji3⟩ : ∃ j_ : Int, (wrap64 (Int.tdiv a1 8)) = j_ := ⟨_, rfl⟩
 first | rw [hji3] at H | simp only [hji3] at H
 have hji3w : (IntKind.i64.wrap (Int.tdiv a1 8)) = ji3 := (i64_w _).trans hji3
 by_cases c4 : 0 ≤ (ji3)
 ·rw [if_pos c4] at H
  have c4b0 : decide (0 ≤ (ji3)) = true := decide_eq_true c4
  clear c4
  by_cases c5 : (ji3) < (l0.length : Int)
  ·rw [if_pos c5] at H
   have c5b0 : decide ((ji3) < (l0.length : Int)) = true := decide_eq_true c5
   clear c5
   obtain ⟨ji6, hji6⟩ : ∃ j_ : Int, (Int.tmod a1 8) = j_ := ⟨_, rfl⟩
   first | rw [hji6] at H | simp only [hji6] at H
   by_cases c7 : 0 ≤ (ji6)
   ·rw [if_pos c7] at H
    have c7b0 := eq_true c7
    have c7b1 : decide (0 ≤ (ji6)) = true := decide_eq_true c7
    clear c7
    obtain ⟨ji8, hji8⟩ : ∃ j_ : Int, (shr .u8 (rd l0 (ji3)) (ji6)) = j_ := ⟨_, rfl⟩
    first | rw [hji8] at H | simp only [hji8] at H
    have hji8_ : ((rd l0 (ji3)) / 2 ^ min (ji6).toNat 8) = ji8 := hji8
    have hji8z : (ji6) ≤ 8 → ((rd l0 (ji3)) / 2 ^ (ji6).toNat) = ji8 := shr_small hji8
    obtain rfl := Option.some.inj H
    have p239 : 0 ≤ ((ji3) : Int) := of_decide_eq_true (by first | (with_reducible assumption) | assumption)
    have q239 : (ji3) < (l0.length : Int) := of_decide_eq_true (by first | (with_reducible assumption) | assumption)
    obtain ⟨ad239, e239, hx239_0⟩ := Kd.at_int HR0.out (ji3) p239 q239
    cases e239
    replace p239 := eq_true p239
    replace q239 := eq_true q239
    go_enter Try.func66, Try.ntmps66
    go_wp2
    go_ret
    exact ⟨by first | rfl | (simp; done) | (simp only [← hji3, ← hji6, ← hji8] <;> (first | rfl | simp)) | (simp [*]; done), by repeat (first | exact Drawn0.refl _ | apply Drawn0.step)⟩
   ·rw [if_neg c7] at H
    cases H
  ·rw [if_neg c5] at H
   cases H
 ·rw [if_neg c4] at H
  cases H
def bpoly_add.l0 : Nat → List Int → Int → List Int → Int → Int → Option (List Int)
 | 0, _, _, _, _, _ => none
 | k + 1, x0, x2, x9, x10, x11 => if x11 < x10 then (if 0 ≤ x11 then (if x11 < (x9.length : Int) then (if 0 ≤ (Int.tmod x2 8) then (if 0 ≤ (wrap64 (x11 + (wrap64 (Int.tdiv x2 8)))) then (if (wrap64 (x11 + (wrap64 (Int.tdiv x2 8)))) < (x0.length : Int) then ((some (x0.set ((wrap64 (x11 + (wrap64 (Int.tdiv x2 8)))) : Int).toNat (Go.bits .xor .u8 (rd x0 (wrap64 (x11 + (wrap64 (Int.tdiv x2 8))))) ((shl .u16 (IntKind.u16.wrap (rd x9 x11)) (Int.tmod x2 8)) % 256)) : List Int)).bind fun y242 => (if (shl .u16 (IntKind.u16.wrap (rd x9 x11)) (Int.tmod x2 8)) > 255 then (if 0 ≤ (wrap64 ((wrap64 (x11 + (wrap64 (Int.tdiv x2 8)))) + 1)) then (if (wrap64 ((wrap64 (x11 + (wrap64 (Int.tdiv x2 8)))) + 1)) < (x0.length : Int) then (bpoly_add.l0 k (y242.set ((wrap64 ((wrap64 (x11 + (wrap64 (Int.tdiv x2 8)))) + 1)) : Int).toNat (Go.bits .xor .u8 (rd y242 (wrap64 ((wrap64 (x11 + (wrap64 (Int.tdiv x2 8)))) + 1))) (((shl .u16 (IntKind.u16.wrap (rd x9 x11)) (Int.tmod x2 8)) / 256) % 256))) x2 x9 x10 (wrap64 (x11 + 1))) else (none)) else (none)) else (bpoly_add.l0 k y242 x2 x9 x10 (wrap64 (x11 + 1))))) else (none)) else (none)) else (none)) else (none)) else (none)) else (some x0)
def bpoly_add.f (k : Nat) (l0 : List Int) (l1 : List Int) (a2 : Int) : Option (List Int) := bpoly_add.l0 k l0 a2 l1 (l1.length : Int) 0
theorem bpoly_add.mono_l : ∀ k, (∀ y0 y1 y2 y3 y4, LeO (bpoly_add.l0 k y0 y1 y2 y3 y4) (bpoly_add.l0 (k + 1) y0 y1 y2 y3 y4))
 | 0 => fun _ _ _ _ _ r h => by simp [bpoly_add.l0] at h
 | k + 1 => by
  have ih0 := bpoly_add.mono_l k
  ·intro y0 y1 y2 y3 y4
   unfold bpoly_add.l0
   repeat' first
   | (with_reducible exact ih0 _ _ _ _ _)
   | (with_reducible exact LeO.refl _)
   | (with_reducible exact LeO.none _)
   | (with_reducible refine LeO.ite ?_ ?_)
   | (with_reducible refine LeO.bind ?_ (fun _ => ?_))
   | exact ih0 _ _ _ _ _
   | exact LeO.none _
   | refine LeO.ite ?_ ?_
   | refine LeO.bind ?_ (fun _ => ?_)
theorem bpoly_add.mono : ∀ a0 a1 a2 k, LeO (bpoly_add.f k a0 a1 a2) (bpoly_add.f (k + 1) a0 a1 a2) := by
 intro a0 a1 a2 k
 have ih0 := bpoly_add.mono_l k
 unfold bpoly_add.f
 repeat' first
   | (with_reducible exact ih0 _ _ _ _ _)
   | (with_reducible exact LeO.refl _)
   | (with_reducible exact LeO.none _)
   | (with_reducible refine LeO.ite ?_ ?_)
   | (with_reducible refine LeO.bind ?_ (fun _ => ?_))
   | exact ih0 _ _ _ _ _
   | exact LeO.none _
   | refine LeO.ite ?_ ?_
   | refine LeO.bind ?_ (fun _ => ?_)
set_option maxHeartbeats 8000000 in
set_option maxRecDepth 100000 in
theorem bpoly_add.calls (k : Nat) (P0_ : Nat → Prop) (u9000_ : Value) (l0 : List Int) (A1 : Option Addr) (c1 : Nat) (l1 : List Int) (a2 : Int) (r : List Int) (w0 w : World) (hB : Below w0.heap.size w0 w) (ho0 : Kd.R (Kd.int .u8) 5 w w0.heap.size P0_ u9000_ l0) (hr1 : ∀ W_, Kept w W_ (fun k_ => P0_ k_) → Kd.C (Kd.int .u8) W_ A1 l1.length l1) (hc1 : l1.length ≤ c1) (h : bpoly_add.f k l0 l1 a2 = some r) :
  Calls Try.prog 67 #[u9000_, .slice A1 l1.length c1, .int .i64 a2] w fun e w' => e = .returned (.tuple #[]) ∧ Kd.R (Kd.int .u8) 5 w' w0.heap.size (fun k_ => (P0_ k_ ∨ w.heap.size ≤ k_)) u9000_ r ∧ Below w0.heap.size w0 w' ∧ Kept w w' (fun k_ => P0_ k_) := by
 have HO0 := Aside0.mk (show Kd.R (Kd.int .u8) 5 w w0.heap.size (fun k_ => (P0_ k_ ∨ w.heap.size ≤ k_)) u9000_ l0 from Kd.R_mono ho0 (fun k_ hk => (.inl hk)))
 have HR1 := Aside0.mk hr1
 have HC1 := Aside0.mk hc1
 clear hr1 hc1
 have HK := Aside0.mk (Kept.refl w (fun k_ => P0_ k_))
 have HW0 := Aside0.mk hB.size
 have HB := Aside0.mk hB
 clear hB
 have H : (bpoly_add.l0 k l0 a2 l1 (l1.length : Int) 0) = some r := h
 clear h
 have H' := Aside0.mk H
 clear H
 go_enter Try.func67, Try.ntmps67
 go_wp2
 go_loopg [11] k (fun kq v11 w' => ∃ (x0_1 : List Int) (x11_1 : Int), v11 = .int .i64 x11_1 ∧ Aside0 (bpoly_add.l0 kq x0_1 a2 l1 (l1.length : Int) x11_1 = some r) ∧ Aside0 (kq ≤ k) ∧ Aside0 (Kd.R (Kd.int .u8) 5 w' w0.heap.size (fun k_ => (P0_ k_ ∨ w.heap.size ≤ k_)) u9000_ x0_1) ∧ Aside0 (Kept w w' (fun k_ => P0_ k_)) ∧ Aside0 (Below w0.heap.size w0 w'))
 case atStart => exact ⟨(l0), (0), rfl, H', ⟨Nat.le_refl _⟩, ⟨uR HO0.out⟩, ⟨by repeat (first | (with_reducible first | exact HK.out | apply Kept.alloc | apply Kept.drewN | apply Kept.drew) | exact HK.out)⟩, ⟨uB HB.out⟩⟩
 case round =>
  clear H'
  obtain ⟨x0_1, x11_1, rfl, HA, HK1, HO_0, HK, HB⟩ := hrel
  cases gk with
  | zero => exact absurd HA.out (by simp [bpoly_add.l0])
  | succ k1 =>
   have H := HA.out
   clear HA
   simp only [bpoly_add.l0] at H
   by_cases c4 : x11_1 < (l1.length : Int)
   ·rw [if_pos c4] at H
    have c4b0 : decide (x11_1 < (l1.length : Int)) = true := decide_eq_true c4
    clear c4
    by_cases c5 : 0 ≤ x11_1
    ·rw [if_pos c5] at H
     have c5b0 : decide (0 ≤ x11_1) = true := decide_eq_true c5
     clear c5
     by_cases c6 : x11_1 < (l1.length : Int)
     ·rw [if_pos c6] at H
      have c6b0 : decide (x11_1 < (l1.length : Int)) = true := decide_eq_true c6
      clear c6
      obtain ⟨ji7, hji7⟩ : ∃ j_ : Int, (Int.tmod a2 8) = j_ := ⟨_, rfl⟩
      first | rw [hji7] at H | simp only [hji7] at H
      by_cases c8 : 0 ≤ (ji7)
      ·rw [if_pos c8] at H
       have c8b0 := eq_true c8
       have c8b1 : decide (0 ≤ (ji7)) = true := decide_eq_true c8
       clear c8
       obtain ⟨ji9, hji9⟩ : ∃ j_ : Int, (shl .u16 (IntKind.u16.wrap (rd l1 x11_1)) (ji7)) = j_ := ⟨_, rfl⟩
       first | rw [hji9] at H | simp only [hji9] at H
       have hji9_ : (IntKind.u16.wrap ((IntKind.u16.wrap (rd l1 x11_1)) * 2 ^ min (ji7).toNat 16)) = ji9 := hji9
       have hji9z : (ji7) ≤ 16 → (IntKind.u16.wrap ((IntKind.u16.wrap (rd l1 x11_1)) * 2 ^ (ji7).toNat)) = ji9 := shl_small hji9
       obtain ⟨ji10, hji10⟩ : ∃ j_ : Int, (wrap64 (x11_1 + (wrap64 (Int.tdiv a2 8)))) = j_ := ⟨_, rfl⟩
       first | rw [hji10] at H | simp only [hji10] at H
       have hji10w : (IntKind.i64.wrap (x11_1 + (wrap64 (Int.tdiv a2 8)))) = ji10 := (i64_w _).trans hji10
       by_cases c11 : 0 ≤ (ji10)
       ·rw [if_pos c11] at H
        have c11b0 : decide (0 ≤ (ji10)) = true := decide_eq_true c11
        clear c11
        by_cases c12 : (ji10) < (x0_1.length : Int)
        ·rw [if_pos c12] at H
         have c12b0 : decide ((ji10) < (x0_1.length : Int)) = true := decide_eq_true c12
         clear c12
         rw [uY] at H
         obtain ⟨y242, Ny242, H⟩ := H
         by_cases c14 : (ji9) > 255
         ·rw [if_pos c14] at H
          have c14b0 : decide (255 < (ji9)) = true := decide_eq_true c14
          clear c14
          obtain ⟨ji15, hji15⟩ : ∃ j_ : Int, (wrap64 ((ji10) + 1)) = j_ := ⟨_, rfl⟩
          first | rw [hji15] at H | simp only [hji15] at H
          have hji15w : (IntKind.i64.wrap ((ji10) + 1)) = ji15 := (i64_w _).trans hji15
          by_cases c16 : 0 ≤ (ji15)
          ·rw [if_pos c16] at H
           have c16b0 : decide (0 ≤ (ji15)) = true := decide_eq_true c16
           clear c16
           by_cases c17 : (ji15) < (x0_1.length : Int)
           ·rw [if_pos c17] at H
            have c17b0 : decide ((ji15) < (x0_1.length : Int)) = true := decide_eq_true c17
            clear c17
            obtain ⟨y244, Ny244⟩ := uEA ((y242.set ((ji15) : Int).toNat (Go.bits .xor .u8 (rd y242 (ji15)) (((ji9) / 256) % 256))) : List Int)
            rw [← Ny244.out] at H
            have H' := Aside0.mk H
            clear H
            have p240 : 0 ≤ (x11_1 : Int) := of_decide_eq_true (by first | (with_reducible assumption) | assumption)
            have q240 : x11_1 < (l1.length : Int) := of_decide_eq_true (by first | (with_reducible assumption) | assumption)
            obtain ⟨ad240, e240, hx240_0⟩ := Kd.at_int (Kd.C_kept_now HR1.out HK.out) x11_1 p240 q240
            cases e240
            replace p240 := eq_true p240
            replace q240 := eq_true q240
            obtain ⟨Ao19, co19, eo19⟩ := Kd.R_slice HO_0.out
            subst eo19
            have p241 : 0 ≤ ((ji10) : Int) := of_decide_eq_true (by first | (with_reducible assumption) | assumption)
            have q241 : (ji10) < (x0_1.length : Int) := of_decide_eq_true (by first | (with_reducible assumption) | assumption)
            obtain ⟨ad241, e241, hx241_0⟩ := Kd.at_int (Kd.R_reads' HO_0.out).2.2 (ji10) p241 q241
            cases e241
            replace p241 := eq_true p241
            replace q241 := eq_true q241
            have p13 : 0 ≤ ((ji10) : Int) := of_decide_eq_true (by first | (with_reducible assumption) | assumption)
            have q13 : ((ji10) : Int) < ((x0_1.length : Int) : Int) := of_decide_eq_true (by first | (with_reducible assumption) | assumption)
            obtain ⟨go13, co13, eo13, gb13, gl13, cl13, HG13⟩ := Kd.R_form HO_0.out (by omega)
            (first | cases eo13 | (injection eo13 with ea_ en_ ec_; (first | subst ea_ | (injection ea_ with ea_; subst ea_)); subst ec_; clear en_))
            have GB13 := Aside0.mk gb13
            have GG13 := Aside0.mk HG13
            clear gb13 gl13 HG13
            have HMgo13 := Aside0.mk (show (P0_ go13 ∨ w.heap.size ≤ go13) from (HO_0.out.1 _ rfl))
            (first | simp only [add_plain] at hx241_0 | skip)
            obtain ⟨hx13_0, hf13_0⟩ := Kd.R_celln 0 HO_0.out ((ji10) : Int) p13 q13
            replace p13 := eq_true p13
            replace q13 := eq_true q13
            have HP20 := Kd.R_putg HO_0.out ((ji10) : Int) (Go.bits .xor .u8 (rd x0_1 (ji10)) ((ji9) % 256))
            go_wp2_with (first | ((with_reducible refine gate_store (t := 5) (p := 31) rfl ?_); refine store_event (t := 5) (p := 31) (v := ?vo_w21) (w1 := (wr.setCell ⟨go13, ((ji10) : Int).toNat, none⟩ (.int .u8 (Go.bits .xor .u8 (rd x0_1 (ji10)) ((ji9) % 256))))) ?hg ?ho ?hn ?hr ?_; (case ho => rfl); (case hg => rfl); (case hn => rfl); (case hr => first | (go_simp; done) | (go_simp; rfl)); intro w21 hw; have hg : wr.grownBy w21 (some go13) := (by rw [hw]; exact HP20.2); have hp_ : Kd.R (Kd.int .u8) 5 w21 w0.heap.size (fun k_ => (P0_ k_ ∨ w.heap.size ≤ k_)) (.slice (some ⟨go13, 0, none⟩) x0_1.length co19) y242 := (by rw [hw, Ny242.out]; exact HP20.1); clear HP20; replace HB := uA (by rw [hw]; exact below_set (HB.out) GB13.out : Below w0.heap.size w0 w21); replace HK := uA (Kept.of_grown (S := (fun k_ => P0_ k_)) hg (by repeat (first | (with_reducible first | exact HK.out | apply Kept.alloc | apply Kept.drewN | apply Kept.drew) | exact HK.out)) (fun k_ e_ => (HO_0.out.1 k_ e_))); replace HO_0 := uA hp_; clear hg hw hp_; have p243 : 0 ≤ ((ji15) : Int) := of_decide_eq_true (by first | (with_reducible assumption) | assumption); have q243 : (ji15) < (y242.length : Int) := (by have h_ : ((ji15) : Int) < ((x0_1.length : Int) : Int) := of_decide_eq_true (by first | (with_reducible assumption) | assumption); first | (have e_ := (Kd.R_reads' HO_0.out).1; omega) | simpa only [Ny242.out, List.length_set] using h_); have ql243 : (((ji15) : Int) < ((x0_1.length : Int) : Int)) = True := eq_true (of_decide_eq_true (by first | (with_reducible assumption) | assumption)); obtain ⟨ad243, e243, hx243_0⟩ := Kd.at_int (Kd.R_reads' HO_0.out).2.2 (ji15) p243 q243; obtain rfl : (⟨go13, 0, none⟩ : Addr) = ad243 := (by injection e243); (first | simp only [add_plain] at hx243_0 | simp only [add_at] at hx243_0 | simp only [Addr.add, Nat.zero_add] at hx243_0 | skip); replace p243 := eq_true p243; replace q243 := eq_true q243; have p18 : 0 ≤ ((ji15) : Int) := of_decide_eq_true (by first | (with_reducible assumption) | assumption); have q18 : ((ji15) : Int) < ((x0_1.length : Int) : Int) := of_decide_eq_true (by first | (with_reducible assumption) | assumption); obtain ⟨hx18_0, hf18_0⟩ := Kd.R_celln 0 HO_0.out ((ji15) : Int) p18 q18; replace p18 := eq_true p18; replace q18 := eq_true q18; obtain ⟨hy22_, hz22_⟩ := Kd.R_celln 0 HO_0.out ((ji15) : Int) (of_decide_eq_true (by first | (with_reducible assumption) | assumption)) (of_decide_eq_true (by first | (with_reducible assumption) | assumption)); have HP22 := Kd.R_putg HO_0.out ((ji15) : Int) (Go.bits .xor .u8 (rd y242 (ji15)) (((ji9) / 256) % 256))) | ((with_reducible refine gate_store (t := 5) (p := 46) rfl ?_); refine store_event (t := 5) (p := 46) (v := ?vo_w23) (w1 := (w21.setCell ⟨go13, ((ji15) : Int).toNat, none⟩ (.int .u8 (Go.bits .xor .u8 (rd y242 (ji15)) (((ji9) / 256) % 256))))) ?hg ?ho ?hn ?hr ?_; (case ho => rfl); (case hg => rfl); (case hn => rfl); (case hr => first | (go_simp; done) | (go_simp; rfl)); intro w23 hw; have hg : w21.grownBy w23 (some go13) := (by rw [hw]; exact HP22.2); have hp_ : Kd.R (Kd.int .u8) 5 w23 w0.heap.size (fun k_ => (P0_ k_ ∨ w.heap.size ≤ k_)) (.slice (some ⟨go13, 0, none⟩) x0_1.length co19) y244 := (by rw [hw, Ny244.out]; exact HP22.1); clear HP22; replace HB := uA (by rw [hw]; exact below_set (HB.out) GB13.out : Below w0.heap.size w0 w23); replace HK := uA (Kept.of_grown (S := (fun k_ => P0_ k_)) hg (by repeat (first | (with_reducible first | exact HK.out | apply Kept.alloc | apply Kept.drewN | apply Kept.drew) | exact HK.out)) (fun k_ e_ => (HO_0.out.1 k_ e_))); replace HO_0 := uA hp_; clear hg hw hp_))
            go_roundg k1
            case measure => have := HK1.out; omega
            case rel => exact ⟨(y244), (wrap64 (x11_1 + 1)), rfl, H', ⟨by have := HK1.out; omega⟩, ⟨uR HO_0.out⟩, ⟨by repeat (first | (with_reducible first | exact HK.out | apply Kept.alloc | apply Kept.drewN | apply Kept.drew) | exact HK.out)⟩, ⟨uB HB.out⟩⟩
           ·rw [if_neg c17] at H
            cases H
          ·rw [if_neg c16] at H
           cases H
         ·rw [if_neg c14] at H
          have c14b0 : decide (255 < (ji9)) = false := decide_eq_false c14
          clear c14
          have H' := Aside0.mk H
          clear H
          have p240 : 0 ≤ (x11_1 : Int) := of_decide_eq_true (by first | (with_reducible assumption) | assumption)
          have q240 : x11_1 < (l1.length : Int) := of_decide_eq_true (by first | (with_reducible assumption) | assumption)
          obtain ⟨ad240, e240, hx240_0⟩ := Kd.at_int (Kd.C_kept_now HR1.out HK.out) x11_1 p240 q240
          cases e240
          replace p240 := eq_true p240
          replace q240 := eq_true q240
          obtain ⟨Ao24, co24, eo24⟩ := Kd.R_slice HO_0.out
          subst eo24
          have p241 : 0 ≤ ((ji10) : Int) := of_decide_eq_true (by first | (with_reducible assumption) | assumption)
          have q241 : (ji10) < (x0_1.length : Int) := of_decide_eq_true (by first | (with_reducible assumption) | assumption)
          obtain ⟨ad241, e241, hx241_0⟩ := Kd.at_int (Kd.R_reads' HO_0.out).2.2 (ji10) p241 q241
          cases e241
          replace p241 := eq_true p241
          replace q241 := eq_true q241
          have p13 : 0 ≤ ((ji10) : Int) := of_decide_eq_true (by first | (with_reducible assumption) | assumption)
          have q13 : ((ji10) : Int) < ((x0_1.length : Int) : Int) := of_decide_eq_true (by first | (with_reducible assumption) | assumption)
          obtain ⟨go13, co13, eo13, gb13, gl13, cl13, HG13⟩ := Kd.R_form HO_0.out (by omega)
          (first | cases eo13 | (injection eo13 with ea_ en_ ec_; (first | subst ea_ | (injection ea_ with ea_; subst ea_)); subst ec_; clear en_))
          have GB13 := Aside0.mk gb13
          have GG13 := Aside0.mk HG13
          clear gb13 gl13 HG13
          have HMgo13 := Aside0.mk (show (P0_ go13 ∨ w.heap.size ≤ go13) from (HO_0.out.1 _ rfl))
          (first | simp only [add_plain] at hx241_0 | skip)
          obtain ⟨hx13_0, hf13_0⟩ := Kd.R_celln 0 HO_0.out ((ji10) : Int) p13 q13
          replace p13 := eq_true p13
          replace q13 := eq_true q13
          have HP25 := Kd.R_putg HO_0.out ((ji10) : Int) (Go.bits .xor .u8 (rd x0_1 (ji10)) ((ji9) % 256))
          go_wp2_with (first | ((with_reducible refine gate_store (t := 5) (p := 31) rfl ?_); refine store_event (t := 5) (p := 31) (v := ?vo_w26) (w1 := (wr.setCell ⟨go13, ((ji10) : Int).toNat, none⟩ (.int .u8 (Go.bits .xor .u8 (rd x0_1 (ji10)) ((ji9) % 256))))) ?hg ?ho ?hn ?hr ?_; (case ho => rfl); (case hg => rfl); (case hn => rfl); (case hr => first | (go_simp; done) | (go_simp; rfl)); intro w26 hw; have hg : wr.grownBy w26 (some go13) := (by rw [hw]; exact HP25.2); have hp_ : Kd.R (Kd.int .u8) 5 w26 w0.heap.size (fun k_ => (P0_ k_ ∨ w.heap.size ≤ k_)) (.slice (some ⟨go13, 0, none⟩) x0_1.length co24) y242 := (by rw [hw, Ny242.out]; exact HP25.1); clear HP25; replace HB := uA (by rw [hw]; exact below_set (HB.out) GB13.out : Below w0.heap.size w0 w26); replace HK := uA (Kept.of_grown (S := (fun k_ => P0_ k_)) hg (by repeat (first | (with_reducible first | exact HK.out | apply Kept.alloc | apply Kept.drewN | apply Kept.drew) | exact HK.out)) (fun k_ e_ => (HO_0.out.1 k_ e_))); replace HO_0 := uA hp_; clear hg hw hp_))
          go_roundg k1
          case measure => have := HK1.out; omega
          case rel => exact ⟨(y242), (wrap64 (x11_1 + 1)), rfl, H', ⟨by have := HK1.out; omega⟩, ⟨uR HO_0.out⟩, ⟨by repeat (first | (with_reducible first | exact HK.out | apply Kept.alloc | apply Kept.drewN | apply Kept.drew) | exact HK.out)⟩, ⟨uB HB.out⟩⟩
        ·rw [if_neg c12] at H
         cases H
       ·rw [if_neg c11] at H
        cases H
      ·rw [if_neg c8] at H
       cases H
     ·rw [if_neg c6] at H
      cases H
    ·rw [if_neg c5] at H
     cases H
   ·rw [if_neg c4] at H
    have c4b0 : decide (x11_1 < (l1.length : Int)) = false := decide_eq_false c4
    clear c4
    obtain rfl := Option.some.inj H
    go_wp2
    first | go_end0 | ((try simp only [Exit.inBlock, Exit.then]); refine bodyPost_ret (results_none rfl _ _ _) rfl ?_)
    exact ⟨rfl, by (with_reducible repeat (first | apply Kd.R_alloc | apply Kd.R_drewN | apply Kd.R_drew)); exact HO_0.out, uB HB.out, by repeat (first | (with_reducible first | exact HK.out | apply Kept.alloc | apply Kept.drewN | apply Kept.drew) | exact HK.out)⟩
def bpoly_Mul.l0 : Nat → List Int → List Int → List Int → Int → Int → Option (List Int)
 | 0, _, _, _, _, _ => none
 | k + 1, x0, x1, x5, x16, x17 => if x17 < x16 then ((bpoly_one.f x0 x17).bind fun t251 => (if t251 = true then ((bpoly_add.f k x5 x1 x17).bind fun t252 => (bpoly_Mul.l0 k x0 x1 t252 x16 (wrap64 (x17 + 1)))) else (bpoly_Mul.l0 k x0 x1 x5 x16 (wrap64 (x17 + 1))))) else ((bpoly_norm.f k x5).bind fun t248 => (some t248))
def bpoly_Mul.f (k : Nat) (l0 : List Int) (l1 : List Int) : Option (List Int) := if 0 ≤ (wrap64 ((wrap64 ((l0.length : Int) + (l1.length : Int))) + 1)) then (if (wrap64 ((wrap64 ((l0.length : Int) + (l1.length : Int))) + 1) : Int).toNat ≤ 281474976710656 then (bpoly_Mul.l0 k l0 l1 (List.replicate (wrap64 ((wrap64 ((l0.length : Int) + (l1.length : Int))) + 1) : Int).toNat 0) (wrap64 (8 * (l0.length : Int))) 0) else (none)) else (none)
theorem bpoly_Mul.mono_l : ∀ k, (∀ y0 y1 y2 y3 y4, LeO (bpoly_Mul.l0 k y0 y1 y2 y3 y4) (bpoly_Mul.l0 (k + 1) y0 y1 y2 y3 y4))
 | 0 => fun _ _ _ _ _ r h => by simp [bpoly_Mul.l0] at h
 | k + 1 => by
  have ih0 := bpoly_Mul.mono_l k
  ·intro y0 y1 y2 y3 y4
   unfold bpoly_Mul.l0
   repeat' first
   | (with_reducible exact ih0 _ _ _ _ _)
   | (with_reducible exact bpoly_add.mono _ _ _ _)
   | (with_reducible exact bpoly_norm.mono _ _)
   | (with_reducible exact LeO.refl _)
   | (with_reducible exact LeO.none _)
   | (with_reducible refine LeO.ite ?_ ?_)
   | (with_reducible refine LeO.bind ?_ (fun _ => ?_))
   | exact ih0 _ _ _ _ _
   | exact bpoly_add.mono _ _ _ _
   | exact bpoly_norm.mono _ _
   | exact LeO.none _
   | refine LeO.ite ?_ ?_
   | refine LeO.bind ?_ (fun _ => ?_)
theorem bpoly_Mul.mono : ∀ a0 a1 k, LeO (bpoly_Mul.f k a0 a1) (bpoly_Mul.f (k + 1) a0 a1) := by
 intro a0 a1 k
 have ih0 := bpoly_Mul.mono_l k
 unfold bpoly_Mul.f
 repeat' first
   | (with_reducible exact ih0 _ _ _ _ _)
   | (with_reducible exact bpoly_add.mono _ _ _ _)
   | (with_reducible exact bpoly_norm.mono _ _)
   | (with_reducible exact LeO.refl _)
   | (with_reducible exact LeO.none _)
   | (with_reducible refine LeO.ite ?_ ?_)
   | (with_reducible refine LeO.bind ?_ (fun _ => ?_))
   | exact ih0 _ _ _ _ _
   | exact bpoly_add.mono _ _ _ _
   | exact bpoly_norm.mono _ _
   | exact LeO.none _
   | refine LeO.ite ?_ ?_
   | refine LeO.bind ?_ (fun _ => ?_)
set_option maxHeartbeats 8000000 in
set_option maxRecDepth 100000 in
theorem bpoly_Mul.calls (k : Nat) (A0 : Option Addr) (c0 : Nat) (l0 : List Int) (A1 : Option Addr) (c1 : Nat) (l1 : List Int) (r : List Int) (w : World) (hr0 : Kd.C (Kd.int .u8) w A0 l0.length l0) (hc0 : l0.length ≤ c0) (hr1 : Kd.C (Kd.int .u8) w A1 l1.length l1) (hc1 : l1.length ≤ c1) (h : bpoly_Mul.f k l0 l1 = some r) :
  Calls Try.prog 50 #[.slice A0 l0.length c0, .slice A1 l1.length c1] w fun e w' => ∃ v0_ : Value, e = .returned (v0_) ∧ Kd.V (Kd.int .u8) 5 w' w.heap.size (fun k_ => (w.heap.size ≤ k_)) v0_ r ∧ Below w.heap.size w w' := by
 have HR0 := Aside0.mk hr0
 have HC0 := Aside0.mk hc0
 clear hr0 hc0
 have HR1 := Aside0.mk hr1
 have HC1 := Aside0.mk hc1
 clear hr1 hc1
 have HB := Aside0.mk (Below.refl w.heap.size w)
 have H := h
 unfold bpoly_Mul.f at H
 clear h
 obtain ⟨ji3, hji3⟩ : ∃ j_ : Int, (wrap64 ((wrap64 ((l0.length : Int) + (l1.length : Int))) + 1)) = j_ := ⟨_, rfl⟩
 first | rw [hji3] at H | simp only [hji3] at H
 have hji3w : (IntKind.i64.wrap ((wrap64 ((l0.length : Int) + (l1.length : Int))) + 1)) = ji3 := (i64_w _).trans hji3
 by_cases c4 : 0 ≤ (ji3)
 ·rw [if_pos c4] at H
  have c4b0 := eq_true c4
  have c4b1 : decide (0 ≤ (ji3)) = true := decide_eq_true c4
  clear c4
  by_cases c5 : (ji3 : Int).toNat ≤ 281474976710656
  ·rw [if_pos c5] at H
   have c5b0 := eq_true c5
   have c5b1 : decide ((ji3 : Int).toNat ≤ 281474976710656) = true := decide_eq_true c5
   clear c5
   obtain ⟨y245, Ny245⟩ := uEA ((List.replicate (ji3 : Int).toNat 0) : List Int)
   rw [← Ny245.out] at H
   have H' := Aside0.mk H
   clear H
   go_enter Try.func50, Try.ntmps50
   go_wp2_with (first | ((with_reducible refine gate_dst (N := 13) rfl ?_); refine Kd.R_make (Kd.int .u8) _ 5 rfl (N := 13) rfl 26 _ _ rfl ji3 rfl rfl Try.underlying26 (.int .u8 0) 1 info5 rfl (by decide) (by omega) 0 (ok := fun _ => True) (okp := fun _ => True) rfl (fun _ hk => hk) trivial (of_decide_eq_true (by first | (with_reducible assumption) | assumption)) (Nat.le_trans (Nat.mul_le_mul_right _ (of_decide_eq_true (by first | (with_reducible assumption) | assumption) : ji3.toNat ≤ 281474976710656)) (by omega)) (Below.refl _ _) (Nat.le_refl _) ?_; intro v246 w6 ho7 hb hg_ hnew_; clear hg_ hnew_; (first | rw [← Ny245.out] at ho7 | (simp only [Int.reduceToNat] at ho7; rw [← Ny245.out] at ho7)); have HO247 := uA (Kd.R_lower (Kd.R_newM (M := fun k_ => (w.heap.size ≤ k_)) ho7 (below_size (uB HB.out)) (fun k_ h_ => h_)) (below_size (uB HB.out))); replace HB := uBb HB hb; clear hb ho7))
   go_loopg [17] k (fun kq v17 w' => ∃ (x5_1 : List Int) (x17_1 : Int), v17 = .int .i64 x17_1 ∧ Aside0 (bpoly_Mul.l0 kq l0 l1 x5_1 (wrap64 (8 * (l0.length : Int))) x17_1 = some r) ∧ Aside0 (kq ≤ k) ∧ Aside0 (Kd.R (Kd.int .u8) 5 w' w.heap.size (fun k_ => (w.heap.size ≤ k_)) v246 x5_1) ∧ Aside0 (Below w.heap.size w w'))
   case atStart => exact ⟨(y245), (0), rfl, H', ⟨Nat.le_refl _⟩, ⟨by (with_reducible repeat (first | apply Kd.R_alloc | apply Kd.R_drewN | apply Kd.R_drew)); exact Kd.R_mono HO247.out (fun _ hk => hk.1)⟩, ⟨uB HB.out⟩⟩
   case round =>
    clear H'
    obtain ⟨x5_1, x17_1, rfl, HA, HK1, HO_5, HB⟩ := hrel
    cases gk with
    | zero => exact absurd HA.out (by simp [bpoly_Mul.l0])
    | succ k1 =>
     have H := HA.out
     clear HA
     simp only [bpoly_Mul.l0] at H
     by_cases c8 : x17_1 < (wrap64 (8 * (l0.length : Int)))
     ·rw [if_pos c8] at H
      have c8b0 : decide (x17_1 < (wrap64 (8 * (l0.length : Int)))) = true := decide_eq_true c8
      clear c8
      obtain ⟨t251, A9, H⟩ := uO H
      by_cases c10 : t251 = true
      ·subst c10
       replace H := uI rfl H
       obtain ⟨t252, A11, H⟩ := uO H
       have H' := Aside0.mk H
       clear H
       go_wp2_with (first | ((with_reducible refine gate_callee (f := 66) rfl ?_); refine uG (some 22) Try.func66 #[.slice A0 l0.length c0, .int .i64 x17_1] ?_; (with_reducible refine (bpoly_one.calls _ _ l0 x17_1 true _ ?side1 ?side2 A9.out).mono ?_); (case side1 => exact uC (Kd.C_below HR0.out HB.out)); (case side2 => exact HC0.out); rintro e w' ⟨rfl, ⟨nd, rfl⟩⟩; refine ⟨_, rfl, ?_⟩; obtain ⟨Ao12, co12, eo12⟩ := Kd.R_slice HO_5.out; subst eo12) | ((with_reducible refine gate_callee (f := 67) rfl ?_); refine uG (some 26) Try.func67 #[.slice Ao12 x5_1.length co12, .slice A1 l1.length c1, .int .i64 x17_1] ?_; (with_reducible refine (bpoly_add.calls k1 (fun k_ => some k_ = (.slice Ao12 x5_1.length co12 : Value).ownBlock) (.slice Ao12 x5_1.length co12) x5_1 _ _ l1 x17_1 t252 w _ ?side1 ?side2 ?side3 ?side4 A11.out).mono ?_); (case side1 => repeat (first | (with_reducible first | exact HB.out | apply below_alloc | apply pw_below_drewN | apply below_drew1) | exact HB.out)); (case side2 => exact Kd.R_tight rfl HO_5.out); (case side3 => exact Kd.C_kept_came (Kd.heap_int .u8) HR1.out (uB HB.out) (fun k_ hs_ => (fun e_ => Kd.R_base HO_5.out k_ e_.symm) hs_)); (case side4 => exact HC1.out); rintro e w13 ⟨rfl, hy0, hb, hkp⟩; refine ⟨_, rfl, ?_⟩; replace HO_5 := uA (Kd.R_reok rfl hy0 (fun k_ e_ => HO_5.out.1 k_ e_)); replace HB := uA hb; (try clear hkp); (try clear hy0)))
       go_roundg k1
       case measure => have := HK1.out; omega
       case rel => exact ⟨(t252), (wrap64 (x17_1 + 1)), rfl, H', ⟨by have := HK1.out; omega⟩, ⟨uR HO_5.out⟩, ⟨uB HB.out⟩⟩
      ·replace c10 := Bool.eq_false_iff.mpr c10
       subst c10
       replace H := uJ uN0 H
       have H' := Aside0.mk H
       clear H
       go_wp2_with (first | ((with_reducible refine gate_callee (f := 66) rfl ?_); refine uG (some 22) Try.func66 #[.slice A0 l0.length c0, .int .i64 x17_1] ?_; (with_reducible refine (bpoly_one.calls _ _ l0 x17_1 false _ ?side1 ?side2 A9.out).mono ?_); (case side1 => exact uC (Kd.C_below HR0.out HB.out)); (case side2 => exact HC0.out); rintro e w' ⟨rfl, ⟨nd, rfl⟩⟩; refine ⟨_, rfl, ?_⟩))
       go_roundg k1
       case measure => have := HK1.out; omega
       case rel => exact ⟨(x5_1), (wrap64 (x17_1 + 1)), rfl, H', ⟨by have := HK1.out; omega⟩, ⟨uR HO_5.out⟩, ⟨uB HB.out⟩⟩
     ·rw [if_neg c8] at H
      have c8b0 : decide (x17_1 < (wrap64 (8 * (l0.length : Int)))) = false := decide_eq_false c8
      clear c8
      obtain ⟨t248, A14, H⟩ := uO H
      obtain rfl := Option.some.inj H
      obtain ⟨Ao15, co15, eo15⟩ := Kd.R_slice HO_5.out
      subst eo15
      go_wp2_with (first | ((with_reducible refine gate_callee (f := 64) rfl ?_); refine uG (some 29) Try.func64 #[.slice Ao15 x5_1.length co15] ?_; (with_reducible refine (bpoly_norm.calls k1 (fun k_ => some k_ = (.slice Ao15 x5_1.length co15 : Value).ownBlock) _ _ x5_1 t248 _ ?side1 A14.out).mono ?_); (case side1 => exact Kd.R_V (Kd.R_tight rfl (HO_5.out))); rintro e w16 ⟨v249, rfl, ho0, hb⟩; refine ⟨_, rfl, ?_⟩; have HO250 := uA (Kd.V_lower (Kd.V_mono (ok' := fun k_ => (w.heap.size ≤ k_)) ho0 (fun k_ hk_ => Or.elim hk_ (fun hs_ => ((HO_5.out).1 k_ hs_.symm)) (fun hn_ => (Nat.le_trans (below_size (uB HB.out)) hn_)))) (below_size (uB HB.out))); replace HO_5 := uRb HO_5 hb; replace HB := uBb HB hb))
      go_ret
      exact ⟨_, by first | rfl | (simp [errW_none, errW_some] <;> rfl) | (simp only [← hji3]; first | rfl | (simp [errW_none, errW_some] <;> rfl)) | (simp [*, errW_none, errW_some] <;> rfl), by (with_reducible repeat (first | apply Kd.V_alloc | apply Kd.V_drewN | apply Kd.V_drew)); exact HO250.out, uB HB.out⟩
  ·rw [if_neg c5] at H
   cases H
 ·rw [if_neg c4] at H
  cases H
-- NOT PRINTED: function 75 (bpoly_conjugates)
mutual
def poly_is.l0 : Nat → List (List Int) → Int → Int → Option (Bool)
 | 0, _, _, _ => none
 | k + 1, x9, x10, x11 => if x11 < x10 then (if 0 ≤ x11 then (if x11 < (x9.length : Int) then (poly_is.l1 k x9 x10 x11 (rd_L3 x9 x11) ((rd_L3 x9 x11).length : Int) 0) else (none)) else (none)) else (some true)
def poly_is.l1 : Nat → List (List Int) → Int → Int → List Int → Int → Int → Option (Bool)
 | 0, _, _, _, _, _, _ => none
 | k + 1, x9, x10, x11, x15, x16, x17 => if x17 < x16 then (if 0 ≤ x17 then (if x17 < (x15.length : Int) then ((gf_Mul.f k (rd x15 x17) 0).bind fun bt255 => (if bt255.2 = 0 then (poly_is.l1 k x9 x10 x11 x15 x16 (wrap64 (x17 + 1))) else (some false))) else (none)) else (none)) else (poly_is.l0 k x9 x10 (wrap64 (x11 + 1)))
end
def poly_is.f (k : Nat) (l0 : List (List Int)) : Option (Bool) := poly_is.l0 k l0 (l0.length : Int) 0
theorem poly_is.mono_l : ∀ k, (∀ y0 y1 y2, LeO (poly_is.l0 k y0 y1 y2) (poly_is.l0 (k + 1) y0 y1 y2)) ∧ (∀ y0 y1 y2 y3 y4 y5, LeO (poly_is.l1 k y0 y1 y2 y3 y4 y5) (poly_is.l1 (k + 1) y0 y1 y2 y3 y4 y5))
 | 0 => ⟨fun _ _ _ r h => by simp [poly_is.l0] at h, fun _ _ _ _ _ _ r h => by simp [poly_is.l1] at h⟩
 | k + 1 => by
  obtain ⟨ih0, ih1⟩ := poly_is.mono_l k
  refine ⟨?_, ?_⟩
  ·intro y0 y1 y2
   unfold poly_is.l0
   repeat' first
   | (with_reducible exact ih0 _ _ _)
   | (with_reducible exact ih1 _ _ _ _ _ _)
   | (with_reducible exact gf_Mul.mono _ _ _)
   | (with_reducible exact LeO.refl _)
   | (with_reducible exact LeO.none _)
   | (with_reducible refine LeO.ite ?_ ?_)
   | (with_reducible refine LeO.bind ?_ (fun _ => ?_))
   | exact ih0 _ _ _
   | exact ih1 _ _ _ _ _ _
   | exact gf_Mul.mono _ _ _
   | exact LeO.none _
   | refine LeO.ite ?_ ?_
   | refine LeO.bind ?_ (fun _ => ?_)
  ·intro y0 y1 y2 y3 y4 y5
   unfold poly_is.l1
   repeat' first
   | (with_reducible exact ih0 _ _ _)
   | (with_reducible exact ih1 _ _ _ _ _ _)
   | (with_reducible exact gf_Mul.mono _ _ _)
   | (with_reducible exact LeO.refl _)
   | (with_reducible exact LeO.none _)
   | (with_reducible refine LeO.ite ?_ ?_)
   | (with_reducible refine LeO.bind ?_ (fun _ => ?_))
   | exact ih0 _ _ _
   | exact ih1 _ _ _ _ _ _
   | exact gf_Mul.mono _ _ _
   | exact LeO.none _
   | refine LeO.ite ?_ ?_
   | refine LeO.bind ?_ (fun _ => ?_)
theorem poly_is.mono : ∀ a0 k, LeO (poly_is.f k a0) (poly_is.f (k + 1) a0) := by
 intro a0 k
 obtain ⟨ih0, ih1⟩ := poly_is.mono_l k
 unfold poly_is.f
 repeat' first
   | (with_reducible exact ih0 _ _ _)
   | (with_reducible exact ih1 _ _ _ _ _ _)
   | (with_reducible exact gf_Mul.mono _ _ _)
   | (with_reducible exact LeO.refl _)
   | (with_reducible exact LeO.none _)
   | (with_reducible refine LeO.ite ?_ ?_)
   | (with_reducible refine LeO.bind ?_ (fun _ => ?_))
   | exact ih0 _ _ _
   | exact ih1 _ _ _ _ _ _
   | exact gf_Mul.mono _ _ _
   | exact LeO.none _
   | refine LeO.ite ?_ ?_
   | refine LeO.bind ?_ (fun _ => ?_)
set_option maxHeartbeats 8000000 in
set_option maxRecDepth 100000 in
theorem poly_is.calls (k : Nat) (A0 : Option Addr) (c0 : Nat) (l0 : List (List Int)) (r : Bool) (w : World) (hr0 : Kd.C (Kd.slice 3 (Kd.int .i64)) w A0 l0.length l0) (hc0 : l0.length ≤ c0) (h : poly_is.f k l0 = some r) :
  Calls Try.prog 80 #[.slice A0 l0.length c0] w fun e w' => e = .returned (.bool r) ∧ Drawn0 w w' := by
 have HR0 := Aside0.mk hr0
 have HC0 := Aside0.mk hc0
 clear hr0 hc0
 have H : (poly_is.l0 k l0 (l0.length : Int) 0) = some r := h
 clear h
 have H' := Aside0.mk H
 clear H
 go_enter Try.func80, Try.ntmps80
 go_wp2
 go_loopg [11] k (fun kq v11 w' => ∃ (x11_1 : Int), v11 = .int .i64 x11_1 ∧ Aside0 (poly_is.l0 kq l0 (l0.length : Int) x11_1 = some r) ∧ Aside0 (kq ≤ k) ∧ Drawn0 w w')
 case atStart => exact ⟨(0), rfl, H', ⟨Nat.le_refl _⟩, by repeat (first | exact Drawn0.refl _ | apply Drawn0.step)⟩
 case round =>
  clear H'
  obtain ⟨x11_1, rfl, HA, HK1, ⟨m1, rfl⟩⟩ := hrel
  cases gk with
  | zero => exact absurd HA.out (by simp [poly_is.l0])
  | succ k1 =>
   have H := HA.out
   clear HA
   simp only [poly_is.l0] at H
   by_cases c2 : x11_1 < (l0.length : Int)
   ·rw [if_pos c2] at H
    have c2b0 : decide (x11_1 < (l0.length : Int)) = true := decide_eq_true c2
    clear c2
    by_cases c3 : 0 ≤ x11_1
    ·rw [if_pos c3] at H
     have c3b0 : decide (0 ≤ x11_1) = true := decide_eq_true c3
     clear c3
     by_cases c4 : x11_1 < (l0.length : Int)
     ·rw [if_pos c4] at H
      have c4b0 : decide (x11_1 < (l0.length : Int)) = true := decide_eq_true c4
      clear c4
      have H' := Aside0.mk H
      clear H
      have p253 : 0 ≤ (x11_1 : Int) := of_decide_eq_true (by first | (with_reducible assumption) | assumption)
      have q253 : x11_1 < (l0.length : Int) := of_decide_eq_true (by first | (with_reducible assumption) | assumption)
      obtain ⟨ad253, A253_0, c253_0, e253, hx253_0, hl253_0, hi253_0⟩ := at_L3 HR0.out x11_1 p253 q253
      cases e253
      have HR253_0 := Aside0.mk hi253_0
      have HC253_0 := Aside0.mk hl253_0
      clear hi253_0 hl253_0
      replace p253 := eq_true p253
      replace q253 := eq_true q253
      go_wp2
      go_loopg [17] k1 (fun kq v17 w' => ∃ (x17_2 : Int), v17 = .int .i64 x17_2 ∧ Aside0 (poly_is.l1 kq l0 (l0.length : Int) x11_1 (rd_L3 l0 x11_1) ((rd_L3 l0 x11_1).length : Int) x17_2 = some r) ∧ Aside0 (kq ≤ k1) ∧ Drawn0 w w')
      case atStart => exact ⟨(0), rfl, H', ⟨Nat.le_refl _⟩, by repeat (first | exact Drawn0.refl _ | apply Drawn0.step)⟩
      case round =>
       clear H'
       obtain ⟨x17_2, rfl, HA, HK2, ⟨m2, rfl⟩⟩ := hrel
       cases gk with
       | zero => exact absurd HA.out (by simp [poly_is.l1])
       | succ k2 =>
        have H := HA.out
        clear HA
        simp only [poly_is.l1] at H
        by_cases c5 : x17_2 < ((rd_L3 l0 x11_1).length : Int)
        ·rw [if_pos c5] at H
         have c5b0 : decide (x17_2 < ((rd_L3 l0 x11_1).length : Int)) = true := decide_eq_true c5
         clear c5
         by_cases c6 : 0 ≤ x17_2
         ·rw [if_pos c6] at H
          have c6b0 : decide (0 ≤ x17_2) = true := decide_eq_true c6
          clear c6
          by_cases c7 : x17_2 < ((rd_L3 l0 x11_1).length : Int)
          ·rw [if_pos c7] at H
           have c7b0 : decide (x17_2 < ((rd_L3 l0 x11_1).length : Int)) = true := decide_eq_true c7
           clear c7
           obtain ⟨⟨t255, t256⟩, A8, H⟩ := uO H
           dsimp only at H
           by_cases c9 : t256 = 0
           ·rw [if_pos c9] at H
            have c9b0 : (t256 == 0) = true := beq_iff_eq.mpr c9
            have c9b1 : (t256 != 0) = false := bne_eq_false_iff_eq.mpr c9
            clear c9
            have H' := Aside0.mk H
            clear H
            have p254 : 0 ≤ (x17_2 : Int) := of_decide_eq_true (by first | (with_reducible assumption) | assumption)
            have q254 : x17_2 < ((rd_L3 l0 x11_1).length : Int) := of_decide_eq_true (by first | (with_reducible assumption) | assumption)
            obtain ⟨ad254, e254, hx254_0⟩ := Kd.at_int HR253_0.out x17_2 p254 q254
            cases e254
            replace p254 := eq_true p254
            replace q254 := eq_true q254
            go_wp2_with (first | ((with_reducible refine gate_callee (f := 62) rfl ?_); refine uG (some 23) Try.func62 #[.int .i64 (rd (rd_L3 l0 x11_1) x17_2), .int .i64 0] ?_; (with_reducible refine (gf_Mul.calls k2 (rd (rd_L3 l0 x11_1) x17_2) 0 t255 t256 _ A8.out).mono ?_); rintro e w' ⟨rfl, ⟨nd, rfl⟩⟩; refine ⟨_, rfl, ?_⟩))
            go_roundg k2
            case measure => have := HK1.out; have := HK2.out; omega
            case rel => exact ⟨(wrap64 (x17_2 + 1)), rfl, H', ⟨by have := HK1.out; have := HK2.out; omega⟩, by repeat (first | exact Drawn0.refl _ | apply Drawn0.step)⟩
           ·rw [if_neg c9] at H
            have c9b0 : (t256 == 0) = false := beq_eq_false_iff_ne.mpr c9
            have c9b1 : (t256 != 0) = true := bne_iff_ne.mpr c9
            obtain rfl := Option.some.inj H
            have p254 : 0 ≤ (x17_2 : Int) := of_decide_eq_true (by first | (with_reducible assumption) | assumption)
            have q254 : x17_2 < ((rd_L3 l0 x11_1).length : Int) := of_decide_eq_true (by first | (with_reducible assumption) | assumption)
            obtain ⟨ad254, e254, hx254_0⟩ := Kd.at_int HR253_0.out x17_2 p254 q254
            cases e254
            replace p254 := eq_true p254
            replace q254 := eq_true q254
            go_wp2_with (first | ((with_reducible refine gate_callee (f := 62) rfl ?_); refine uG (some 23) Try.func62 #[.int .i64 (rd (rd_L3 l0 x11_1) x17_2), .int .i64 0] ?_; (with_reducible refine (gf_Mul.calls k2 (rd (rd_L3 l0 x11_1) x17_2) 0 t255 t256 _ A8.out).mono ?_); rintro e w' ⟨rfl, ⟨nd, rfl⟩⟩; refine ⟨_, rfl, ?_⟩))
            go_ret
            exact ⟨by first | rfl | (simp; done) | (simp [*]; done), by repeat (first | exact Drawn0.refl _ | apply Drawn0.step)⟩
          ·rw [if_neg c7] at H
           injection H
         ·rw [if_neg c6] at H
          injection H
        ·rw [if_neg c5] at H
         have c5b0 : decide (x17_2 < ((rd_L3 l0 x11_1).length : Int)) = false := decide_eq_false c5
         clear c5
         have H' := Aside0.mk H
         clear H
         go_wp2
         go_roundg k2
         case measure => have := HK1.out; have := HK2.out; omega
         case rel => exact ⟨(wrap64 (x11_1 + 1)), rfl, H', ⟨by have := HK1.out; have := HK2.out; omega⟩, by repeat (first | exact Drawn0.refl _ | apply Drawn0.step)⟩
     ·rw [if_neg c4] at H
      injection H
    ·rw [if_neg c3] at H
     injection H
   ·rw [if_neg c2] at H
    have c2b0 : decide (x11_1 < (l0.length : Int)) = false := decide_eq_false c2
    clear c2
    obtain rfl := Option.some.inj H
    go_wp2
    go_ret
    exact ⟨by first | rfl | (simp; done) | (simp [*]; done), by repeat (first | exact Drawn0.refl _ | apply Drawn0.step)⟩
def poly_norm.l0 : Nat → List Int → Option (List Int)
 | 0, _ => none
 | k + 1, x0 => if (x0.length : Int) > 0 then (if 0 ≤ (wrap64 ((x0.length : Int) - 1)) then (if (wrap64 ((x0.length : Int) - 1)) < (x0.length : Int) then (if (rd x0 (wrap64 ((x0.length : Int) - 1))) = 0 then (if (wrap64 ((x0.length : Int) - 1)) ≤ (x0.length : Int) then (poly_norm.l0 k (x0.take ((wrap64 ((x0.length : Int) - 1)) : Int).toNat)) else (none)) else (some x0)) else (none)) else (none)) else (some x0)
def poly_norm.f (k : Nat) (l0 : List Int) : Option (List Int) := poly_norm.l0 k l0
def poly_mul.f (k : Nat) (a0 : Int) (a1 : Int) : Option (Int) := (gf_Mul.f k a0 a1).bind fun bt263 => (some bt263.1)
theorem poly_mul.mono : ∀ a0 a1 k, LeO (poly_mul.f k a0 a1) (poly_mul.f (k + 1) a0 a1) := by
 intro a0 a1 k
 unfold poly_mul.f
 repeat' first
   | (with_reducible exact gf_Mul.mono _ _ _)
   | (with_reducible exact LeO.refl _)
   | (with_reducible exact LeO.none _)
   | (with_reducible refine LeO.ite ?_ ?_)
   | (with_reducible refine LeO.bind ?_ (fun _ => ?_))
   | exact gf_Mul.mono _ _ _
   | exact LeO.none _
   | refine LeO.ite ?_ ?_
   | refine LeO.bind ?_ (fun _ => ?_)
set_option maxHeartbeats 8000000 in
set_option maxRecDepth 100000 in
theorem poly_mul.calls (k : Nat) (a0 : Int) (a1 : Int) (r : Int) (w : World) (h : poly_mul.f k a0 a1 = some r) :
  Calls Try.prog 86 #[.int .i64 a0, .int .i64 a1] w fun e w' => e = .returned (.int .i64 r) ∧ Drawn0 w w' := by
 have H : ((gf_Mul.f k a0 a1).bind fun bt263 => (some bt263.1)) = some r := h
 clear h
 obtain ⟨⟨t263, t264⟩, A3, H⟩ := uO H
 dsimp only at H
 obtain rfl := Option.some.inj H
 go_enter Try.func86, Try.ntmps86
 go_wp2_with (first | ((with_reducible refine gate_callee (f := 62) rfl ?_); refine uG (some 10) Try.func62 #[.int .i64 a0, .int .i64 a1] ?_; (with_reducible refine (gf_Mul.calls k a0 a1 t263 t264 _ A3.out).mono ?_); rintro e w' ⟨rfl, ⟨nd, rfl⟩⟩; refine ⟨_, rfl, ?_⟩))
 go_ret
 exact ⟨by first | rfl | (simp; done) | (simp [*]; done), by repeat (first | exact Drawn0.refl _ | apply Drawn0.step)⟩
theorem ginfo_int : (Try.prog.info? 3).map (fun i => (i.zero, i.size, i.bytes)) = some (some (.int .i64 0), 1, 8) := by kernel_rfl
/-- out[i] ^= a, out in a box. -/
theorem put_calls (B g i n cap : Nat) (x a : Int) (w : World) (hb : w.cell? ⟨B, 0, none⟩ = some (.slice (some ⟨g, 0, none⟩) n cap)) (hi : i < n) (hm : n ≤ 9223372036854775807) (hx : w.cell? ⟨g, i, none⟩ = some (.int .i64 x)) (hf : w.frozen? ⟨g, i, none⟩ = false) :
  Calls Try.prog 84 #[.int .i64 (i : Int), .int .i64 a, .pointer (some ⟨B, 0, none⟩)] w fun e w' => e = .returned (.tuple #[]) ∧ w' = w.setCell ⟨g, i, none⟩ (.int .i64 (Go.bits .xor .i64 x a)) := by
 go_enter Try.func84, Try.ntmps84
 go_wp2
 go_end0
 exact ⟨rfl, rfl⟩
theorem rd_nat' (xs : List Int) (i : Nat) : rd xs (i : Int) = xs.getD i 0 := by unfold rd; rw [Int.toNat_natCast]
/-- What norm answers: how many are left. -/
def NormAns (l : List Int) (A : Option Addr) (c : Nat) (w : World) (e : Ending) (w' : World) : Prop := ∃ m : Nat, m ≤ l.length ∧ e = .returned (.slice A m c) ∧ (∀ j, m ≤ j → l.getD j 0 = 0) ∧ (0 < m → l.getD (m - 1) 0 ≠ 0) ∧ w = w'
theorem norm_calls (A : Option Addr) (c : Nat) (l : List Int) (w : World) (hr : Kd.C (Kd.int .i64) w A l.length l) (hc : l.length ≤ c) :
  Calls Try.prog 85 #[.slice A l.length c] w (NormAns l A c w) := by
 have hm : l.length ≤ 9223372036854775807 := hr.2.1
 go_enter Try.func85, Try.ntmps85
 go_wp2
 go_loop [0] (fun v => ∃ m : Nat, m ≤ l.length ∧ v = .slice A m c ∧ (∀ j, m ≤ j → l.getD j 0 = 0)) (fun v => match v with | .slice _ m _ => m | _ => 0)
 case atStart => exact ⟨l.length, Nat.le_refl _, rfl, fun j hj => by simp [List.getElem?_eq_none hj]⟩
 case round =>
  obtain ⟨m, hml, rfl, hz⟩ := hrel
  have HZ := Aside0.mk hz
  clear hz
  by_cases h0 : 0 < m
  ·obtain ⟨ad, rfl, hx0⟩ := Kd.at_int hr ((m - 1 : Nat) : Int) (by omega) (by omega)
   obtain ⟨z, hz⟩ : ∃ z, z = l.getD (m - 1) 0 := ⟨_, rfl⟩
   have hx : w.cell? (ad.add (m - 1)) = some (.int .i64 z) := by
    have := hx0
    rw [rd_nat', Int.toNat_natCast] at this
    rw [hz]; exact this
   have HV := Aside0.mk hz
   have hd : decide (0 < (m : Int)) = true := decide_eq_true (by omega)
   have hd2 : decide (0 < m) = true := decide_eq_true h0
   clear hx0 hz
   by_cases hz0 : z = 0
   ·have hb : (z == 0) = true := beq_iff_eq.2 hz0
    have H0 := Aside0.mk hz0
    clear hz0
    go_wp2
    go_round
    case rel =>
     refine ⟨m - 1, by omega, rfl, fun j hj => ?_⟩
     by_cases e : j = m - 1
     ·subst e; rw [← HV.out, H0.out]
     ·exact HZ.out j (by omega)
    case measure => show m - 1 < m; omega
   ·have hb : (z == 0) = false := beq_eq_false_iff_ne.2 hz0
    have H0 := Aside0.mk hz0
    clear hz0
    go_wp2
    go_ret
    exact ⟨m, hml, rfl, HZ.out, fun _ => by rw [← HV.out]; exact H0.out, rfl⟩
  ·have hm0 : m = 0 := by omega
   subst hm0
   go_wp2
   go_ret
   exact ⟨0, hml, rfl, HZ.out, fun h => absurd h (by omega), rfl⟩
/-- A row of the call's own, behind a box that holds it. -/
structure PutSt (w0 : World) (B g cap : Nat) (l : List Int) (w : World) : Prop where
 box : w.heap[B]? = some (.cells #[.slice (some ⟨g, 0, none⟩) l.length cap] 48 (0, 0))
 row : w.ownsRow w0.heap.size 3 1 (.slice (some ⟨g, 0, none⟩) l.length cap) l.length (encs (Value.int .i64) l)
 below : Below w0.heap.size w0 w
 ge : w0.heap.size ≤ B
 ne : g ≠ B
theorem PutSt.drewN {w0 : World} {B g cap : Nat} {l : List Int} {w : World} (h : PutSt w0 B g cap l w) (n : Nat) : PutSt w0 B g cap l (w.drewN n) :=
 ⟨h.box, own_move h.row (fun _ _ => rfl), pw_below_drewN h.below n, h.ge, h.ne⟩
theorem PutSt.maxl {w0 : World} {B g cap : Nat} {l : List Int} {w : World} (h : PutSt w0 B g cap l w) : l.length ≤ 9223372036854775807 ∧ l.length ≤ cap := by
 rcases h.row.2 with ⟨h', _⟩ | ⟨g', cap', cur, h', _, hh, h1, h2, _⟩
 ·cases h'
 ·have : cap = cap' := by injection h'
  subst this
  unfold maxLen at h2
  omega
theorem PutSt.cells {w0 : World} {B g cap : Nat} {l : List Int} {w : World} (h : PutSt w0 B g cap l w) : w.cell? ⟨B, 0, none⟩ = some (.slice (some ⟨g, 0, none⟩) l.length cap) := by
 rw [cell_of_row w B _ _ _ _ h.box]; rfl
theorem PutSt.at {w0 : World} {B g cap : Nat} {l : List Int} {w : World} (h : PutSt w0 B g cap l w) {i : Nat} (hi : i < l.length) : w.cell? ⟨g, i, none⟩ = some (.int .i64 (l.getD i 0)) ∧ w.frozen? ⟨g, i, none⟩ = false := by
 have := own_at_of (enc := Value.int .i64) (d := (0 : Int)) h.row (i : Int) (by omega) (by omega)
 simpa [rdOf] using this
theorem PutSt.set {w0 : World} {B g cap : Nat} {l : List Int} {w : World} (h : PutSt w0 B g cap l w) (i : Nat) (x : Int) : PutSt w0 B g cap (l.set i x) (w.setCell ⟨g, i, none⟩ (.int .i64 x)) := by
 have := own_store_of (enc := Value.int .i64) h.row (i : Int) x
 rw [Int.toNat_natCast] at this
 have hg : w0.heap.size ≤ g := own_base h.row g (by simp [Value.ownBlock])
 refine ⟨?_, by rw [List.length_set]; exact this.1, h.below.setCell (p := ⟨g, i, none⟩) hg _, h.ge, h.ne⟩
 rw [List.length_set]
 exact (Below.heap_setCell w ⟨g, i, none⟩ _ B (fun e => h.ne e.symm)).trans h.box
theorem put_st {w0 : World} {B g cap : Nat} {l : List Int} {w : World} (h : PutSt w0 B g cap l w) (i : Nat) (hi : i < l.length) (a : Int) :
  Calls Try.prog 84 #[.int .i64 (i : Int), .int .i64 a, .pointer (some ⟨B, 0, none⟩)] w fun e w' => e = .returned (.tuple #[]) ∧ PutSt w0 B g cap (l.set i (Go.bits .xor .i64 (l.getD i 0) a)) w' := by
 refine (put_calls B g i l.length cap (l.getD i 0) a w h.cells hi h.maxl.1 (h.at hi).1 (h.at hi).2).mono ?_
 rintro e w' ⟨rfl, rfl⟩
 exact ⟨rfl, h.set i _⟩
def layL (m : Int → Option Int) : List Int → Nat → List Int → Option (List Int)
 | [], _, l => some l
 | a :: p, i, l => (m a).bind fun t => if i < l.length then layL m p (i + 1) (l.set i (Go.bits .xor .i64 (l.getD i 0) t)) else none
theorem lay_calls (k : Nat) (w0 : World) (B g cap : Nat) (A : Option Addr) (c : Nat) (p : List Int) (hr : Kd.C (Kd.int .i64) w0 A p.length p) (from_ : Nat) (by_ : Int) (l r : List Int) (w : World) (hst : PutSt w0 B g cap l w) (h : layL (fun a => poly_mul.f k a by_) p from_ l = some r) :
  Calls Try.prog 83 #[.func (.func 84) #[] #[.pointer (some ⟨B, 0, none⟩)], .slice A p.length c, .int .i64 (from_ : Int), .int .i64 by_] w fun e w' => e = .returned (.tuple #[]) ∧ PutSt w0 B g cap r w' := by
 have hpm : p.length ≤ 9223372036854775807 := hr.2.1
 have HR := Aside0.mk hr
 have HS := Aside0.mk hst
 have HL := Aside0.mk h
 clear hr hst h
 go_enter Try.func83, Try.ntmps83
 go_wp2
 go_loopw [12] (fun i w' => ∃ (j : Nat) (lj : List Int), j ≤ p.length ∧ i = .int .i64 (j : Int) ∧ Aside0 (PutSt w0 B g cap lj w') ∧ Aside0 (layL (fun a => poly_mul.f k a by_) (p.drop j) (from_ + j) lj = some r)) (fun i _ => p.length - (intOf i).toNat)
 case atStart => exact ⟨0, l, Nat.zero_le _, rfl, HS, HL⟩
 case round =>
  clear HS HL
  obtain ⟨j, lj, hj, rfl, HS, HL⟩ := hrel
  by_cases hlt : j < p.length
  ·have hd : p.drop j = p[j] :: p.drop (j + 1) := List.drop_eq_getElem_cons hlt
   have HL' := HL.out
   rw [hd] at HL'
   simp only [layL] at HL'
   obtain ⟨t, ht, HL2⟩ := Option.bind_eq_some_iff.1 HL'
   by_cases hin : from_ + j < lj.length
   ·rw [if_pos hin] at HL2
    have HT := Aside0.mk ht
    have HN := Aside0.mk HL2
    have hmx := HS.out.maxl.1
    obtain ⟨ad, hA, hx0⟩ := Kd.at_int (Kd.C_below HR.out HS.out.below) (j : Int) (by omega) (by omega)
    have hx : wr.cell? (ad.add j) = some (.int .i64 p[j]) := by
     have := hx0
     rw [rd_nat', Int.toNat_natCast] at this
     rw [this]; simp [hlt]
    have HA := Aside0.mk hA
    subst hA
    clear hx0 HL2 HL' ht hd HL
    have hb1 : (from_ : Int) + (j : Int) ≤ 9223372036854775807 := by omega
    generalize p[j] = pj at HT hx
    have hlt' : decide ((j : Int) < (p.length : Int)) = true := decide_eq_true (by omega)
    go_wp2_with (first | (go_at_call 86; (with_reducible refine (poly_mul.calls k pj by_ t _ HT.out).mono ?_); rintro e w' ⟨rfl, ⟨nd, rfl⟩⟩) | (go_at_call 84; have Hq := Aside0.mk (put_st (HS.out.drewN nd) (from_ + j) hin t); refine Hq.out.mono ?_; rintro e w' ⟨rfl, hs⟩; have HS2 := Aside0.mk hs; clear hs))
    go_roundw
    case rel =>
     refine ⟨j + 1, _, by omega, by go_num, HS2, ?_⟩
     have := HN.out
     rw [show from_ + j + 1 = from_ + (j + 1) from by omega] at this
     exact ⟨this⟩
    case measure => simp [intOf]; omega
   ·rw [if_neg hin] at HL2; exact absurd HL2 (by simp)
  ·have hje : j = p.length := by omega
   subst hje
   have HL' := HL.out
   rw [List.drop_length] at HL'
   have e := Option.some.inj HL'
   have HE := Aside0.mk e
   clear HL HL' e hlt
   have hlt' : decide ((p.length : Int) < (p.length : Int)) = false := by simp
   go_wp2
   go_end0
   exact ⟨rfl, by rw [← HE.out]; exact HS.out⟩
def normN (l : List Int) : Nat → Nat
 | 0 => 0
 | n + 1 => if l.getD n 0 = 0 then normN l n else n + 1
theorem normN_of {l : List Int} {m : Nat} (hz : ∀ j, m ≤ j → l.getD j 0 = 0) (hn : 0 < m → l.getD (m - 1) 0 ≠ 0) : ∀ n, m ≤ n → normN l n = m
  | 0, h => by have : m = 0 := by omega
               subst this; rfl
  | n + 1, h => by
    unfold normN
    by_cases e : m = n + 1
    · subst e; have := hn (by omega); rw [Nat.add_sub_cancel] at this; rw [if_neg this]
    · rw [if_pos (hz n (by omega))]; exact normN_of hz hn n (by omega)
def fin (l : List Int) : List Int := l.take (normN l l.length)
theorem made_form {w : World} {base n : Nat} {ok : Nat → Prop} {v : Value} {m : Nat} (h : (Kd.int .i64).R 3 w base ok v (List.replicate ((m : Int)).toNat 0)) (hb : ∃ b, v.ownBlock = some b ∧ n ≤ b) :
  ∃ g cap, v = .slice (some ⟨g, 0, none⟩) m cap ∧ base ≤ g ∧ n ≤ g ∧ g < w.heap.size ∧ w.ownsRow base 3 1 (.slice (some ⟨g, 0, none⟩) m cap) m (encs (Value.int .i64) (List.replicate m 0)) := by
 obtain ⟨b, hb, hle⟩ := hb
 have ho := Kd.own_of_R h
 rw [Int.toNat_natCast, List.length_replicate] at ho
 have hlt := own_lt ho b hb
 rcases ho.2 with ⟨rfl, _⟩ | ⟨g, cap, cur, rfl, hg, hh, _⟩
 ·simp [Value.ownBlock] at hb
 ·obtain rfl : g = b := by simpa [Value.ownBlock] using hb
  exact ⟨g, cap, rfl, hg, hle, hlt, ho⟩
theorem PutSt.start {W w5 : World} {n g cap : Nat} (ho : w5.ownsRow W.heap.size 3 1 (.slice (some ⟨g, 0, none⟩) n cap) n (encs (Value.int .i64) (List.replicate n 0))) (hb : Below W.heap.size W w5) (hg : g < w5.heap.size) :
  PutSt W w5.heap.size g cap (List.replicate n 0) (w5.alloc (.cells #[.slice (some ⟨g, 0, none⟩) n cap] 48)) := by
 refine ⟨?_, ?_, hb.alloc hb.size _, hb.size, by omega⟩
 ·rw [List.length_replicate]; exact heap_alloc_new w5 _
 ·rw [List.length_replicate]; exact ho.alloc _
theorem PutSt.reads {w0 : World} {B g cap : Nat} {l : List Int} {w : World} (h : PutSt w0 B g cap l w) : Kd.C (Kd.int .i64) w (some ⟨g, 0, none⟩) l.length l := by
 obtain ⟨A, c, he, _, hc⟩ := Kd.R_reads (Kd.R_of_own (h1 := fun _ => rfl) h.row (ok := fun _ => True) (fun _ _ => trivial))
 have : A = some ⟨g, 0, none⟩ := by injection he with h1 h2 h3; exact h1.symm
 rw [← this]; exact hc
theorem PutSt.cut {w0 : World} {B g cap : Nat} {l : List Int} {w : World} (h : PutSt w0 B g cap l w) {m : Nat} (hm : m ≤ l.length) (hz : ∀ j, m ≤ j → l.getD j 0 = 0) (hn : 0 < m → l.getD (m - 1) 0 ≠ 0) :
  m = (fin l).length ∧ w.ownsRow w0.heap.size 3 1 (.slice (some ⟨g, 0, none⟩) (fin l).length cap) (fin l).length (encs (Value.int .i64) (fin l)) := by
 have h1 := own_take h.row hm
 have h2 : fin l = l.take m := by unfold fin; rw [normN_of hz hn l.length hm]
 have h3 : (encs (Value.int .i64) l).take (m * 1) = encs (Value.int .i64) (l.take m) := by rw [Nat.mul_one]; simp [encs, List.map_take]
 rw [h3] at h1
 have h4 : (l.take m).length = m := by rw [List.length_take]; omega
 rw [h2, h4]
 exact ⟨rfl, h1⟩
/-- What build answers. -/
def BuildAns (W : World) (r : List Int) (e : Ending) (w' : World) : Prop := ∃ g cap : Nat, e = .returned (.slice (some ⟨g, 0, none⟩) (fin r).length cap) ∧ w'.ownsRow W.heap.size 3 1 (.slice (some ⟨g, 0, none⟩) (fin r).length cap) (fin r).length (encs (Value.int .i64) (fin r)) ∧ Below W.heap.size W w'
theorem layL_mono {m m' : Int → Option Int} (h : ∀ a, LeO (m a) (m' a)) : ∀ (p : List Int) (i : Nat) (l : List Int), LeO (layL m p i l) (layL m' p i l)
 | [], _, _ => LeO.refl _
 | a :: p, i, l => by
  unfold layL
  refine LeO.bind (h a) (fun t => LeO.ite (layL_mono h p _ _) (LeO.none _))
theorem box_at {W W1 : World} {b : Nat} {v : Value} (hb : Below W.heap.size W W1) (hc : W.cell? ⟨b, 0, none⟩ = some v) : W1.cell? ⟨b, 0, none⟩ = some v := (hb.cell (World.block_lt_of_cell? W _ hc)).trans hc
theorem C_two {w W : World} {A A' : Option Addr} {c c' b : Nat} {l l' : List Int} (hr : Kd.C (Kd.int .i64) w A l.length l) (hc : l.length ≤ c) (hr' : Kd.C (Kd.int .i64) w A' l'.length l') (hc' : l'.length ≤ c') (hB : Below w.heap.size w W) (hcell : W.cell? ⟨b, 0, none⟩ = some (.slice A l.length c)) (hcell' : W.cell? ⟨b, 1, none⟩ = some (.slice A' l'.length c')) :
  Kd.C (Kd.slice 3 (Kd.int .i64)) W (some ⟨b, 0, none⟩) 2 [l, l'] := by
 refine ⟨rfl, by omega, fun _ => ⟨_, rfl, fun j p hj => ?_⟩⟩
 have hj0 : j = 0 ∨ j = 1 := by
  match j, hj with
  | 0, _ => exact .inl rfl
  | 1, _ => exact .inr rfl
  | j + 2, hj => simp at hj
 rcases hj0 with rfl | rfl
 ·obtain rfl : l = p := by simpa using hj
  refine ⟨[.slice A l.length c], rfl, ⟨A, c, rfl, hc, Kd.C_below hr hB⟩, fun i u hu => ?_⟩
  cases i with
  | zero =>
   obtain rfl : .slice A l.length c = u := by simpa using hu
   rw [Nat.zero_mul, Nat.add_zero, add_plain]; exact hcell
  | succ i => simp at hu
 ·obtain rfl : l' = p := by simpa using hj
  refine ⟨[.slice A' l'.length c'], rfl, ⟨A', c', rfl, hc', Kd.C_below hr' hB⟩, fun i u hu => ?_⟩
  cases i with
  | zero =>
   obtain rfl : .slice A' l'.length c' = u := by simpa using hu
   rw [Nat.add_zero, add_plain]; exact hcell'
  | succ i => simp at hu
theorem build_calls_Mul (n : Nat) (W : World) (r : List Int) (hn : n ≤ 35184372088832) (b0 : Nat) (b1 : Nat)
  (H : ∀ (B g cap : Nat) (W1 : World), PutSt W B g cap (List.replicate n 0) W1 → Calls Try.prog 82 #[.func (.func 84) #[] #[.pointer (some ⟨B, 0, none⟩)], .pointer (some ⟨b0, 0, none⟩), .pointer (some ⟨b1, 0, none⟩)] W1 fun e w' => e = .returned (.tuple #[]) ∧ PutSt W B g cap r w') :
  Calls Try.prog 81 #[.int .i64 (n : Int), .func (.func 82) #[] #[.pointer (some ⟨b0, 0, none⟩), .pointer (some ⟨b1, 0, none⟩)]] W (BuildAns W r) := by
 have HH := Aside0.mk H
 clear H
 go_enter Try.func81, Try.ntmps81
 go_wp2_with (first | ((with_reducible refine gate_dst (N := 7) rfl ?_); refine Kd.R_make (Kd.int .i64) W.heap.size 3 rfl (N := 7) rfl 48 _ _ rfl (n : Int) rfl rfl Try.underlying48 (.int .i64 0) 8 ginfo_int rfl (by decide) (by omega) 0 (ok := fun _ => True) (okp := fun _ => True) rfl (fun _ hk => hk) trivial (by omega) (by rw [Int.toNat_natCast]; omega) (Below.refl _ _) (Nat.le_refl _) ?_; intro v w5 ho6 hb hg_ hnew_; obtain ⟨g, cap, rfl, hg1, hg2, hg3, ho7⟩ := made_form ho6 hnew_; have HO := Aside0.mk ho7; have HB := Aside0.mk hb; have HG := Aside0.mk hg3; clear ho6 ho7 hb hg_ hnew_ hg1 hg2 hg3))
 have HP := Aside0.mk (PutSt.start HO.out HB.out HG.out)
 refine (HH.out w5.heap.size g cap _ HP.out).mono ?_
 clear HP HO HB HG HH
 rintro e w' ⟨rfl, hs⟩
 have HS := Aside0.mk hs
 have hbc := hs.cells
 clear hs
 go_wp2_with (first | (go_at_call 85; have Hq := Aside0.mk (norm_calls (some ⟨g, 0, none⟩) cap r w' HS.out.reads HS.out.maxl.2); refine Hq.out.mono ?_; rintro e w'' ⟨m, hm, rfl, hz, hn0, rfl⟩; have HZ := Aside0.mk hz; have HN := Aside0.mk hn0; clear hz hn0 Hq))
 go_ret
 obtain ⟨h1, h2⟩ := HS.out.cut hm HZ.out HN.out
 exact ⟨g, cap, by rw [h1]; rfl, h2, HS.out.below⟩
def mulL (m : Int → Int → Option Int) (q : List Int) : List Int → Nat → List Int → Option (List Int)
 | [], _, l => some l
 | a :: p, i, l => (layL (fun x => m x a) q i l).bind fun l' => mulL m q p (i + 1) l'
theorem mulL_mono {m m' : Int → Int → Option Int} (h : ∀ x a, LeO (m x a) (m' x a)) (q : List Int) : ∀ (p : List Int) (i : Nat) (l : List Int), LeO (mulL m q p i l) (mulL m' q p i l)
 | [], _, _ => LeO.refl _
 | a :: p, i, l => by
  unfold mulL
  exact LeO.bind (layL_mono (fun x => h x a) q i l) (fun l' => mulL_mono h q p (i + 1) l')
set_option maxHeartbeats 1000000 in
theorem mul1_calls (k : Nat) (W : World) (B g cap : Nat) (b0 b1 : Nat) (A : Option Addr) (c : Nat) (p : List Int) (hr : Kd.C (Kd.int .i64) W A p.length p) (hb0 : W.cell? ⟨b0, 0, none⟩ = some (.slice A p.length c)) (A' : Option Addr) (c' : Nat) (q : List Int) (hr' : Kd.C (Kd.int .i64) W A' q.length q) (hb1 : W.cell? ⟨b1, 0, none⟩ = some (.slice A' q.length c')) (l r : List Int) (W1 : World) (hst : PutSt W B g cap l W1) (h : mulL (poly_mul.f k) q p 0 l = some r) :
  Calls Try.prog 82 #[.func (.func 84) #[] #[.pointer (some ⟨B, 0, none⟩)], .pointer (some ⟨b0, 0, none⟩), .pointer (some ⟨b1, 0, none⟩)] W1 fun e w' => e = .returned (.tuple #[]) ∧ PutSt W B g cap r w' := by
 have hpm : p.length ≤ 9223372036854775807 := hr.2.1
 have hbx := box_at hst.below hb0
 have HR := Aside0.mk hr
 have HR' := Aside0.mk hr'
 have HS := Aside0.mk hst
 have HL := Aside0.mk h
 have HB := Aside0.mk hb1
 clear hr hr' hst h hb1 hb0
 go_enter Try.func82, Try.ntmps82
 go_wp2
 clear hbx
 go_loopw [8] (fun i w' => ∃ (j : Nat) (lj : List Int), j ≤ p.length ∧ i = .int .i64 (j : Int) ∧ Aside0 (PutSt W B g cap lj w') ∧ Aside0 (mulL (poly_mul.f k) q (p.drop j) j lj = some r)) (fun i _ => p.length - (intOf i).toNat)
 case atStart => exact ⟨0, l, Nat.zero_le _, rfl, HS, HL⟩
 case round =>
  clear HS HL
  obtain ⟨j, lj, hj, rfl, HS, HL⟩ := hrel
  by_cases hlt : j < p.length
  ·have hd : p.drop j = p[j] :: p.drop (j + 1) := List.drop_eq_getElem_cons hlt
   have HL' := HL.out
   rw [hd] at HL'
   simp only [mulL] at HL'
   obtain ⟨t, ht, HL2⟩ := Option.bind_eq_some_iff.1 HL'
   have HT := Aside0.mk ht
   have HN := Aside0.mk HL2
   obtain ⟨ad, hA, hx0⟩ := Kd.at_int (Kd.C_below HR.out HS.out.below) (j : Int) (by omega) (by omega)
   have hx : wr.cell? (ad.add j) = some (.int .i64 p[j]) := by
    have := hx0
    rw [rd_nat', Int.toNat_natCast] at this
    rw [this]; simp [hlt]
   have hbx := box_at HS.out.below HB.out
   subst hA
   clear hx0 HL2 HL' ht hd HL
   generalize p[j] = pj at HT hx
   have hlt' : decide ((j : Int) < (p.length : Int)) = true := decide_eq_true (by omega)
   go_wp2_with (first | (go_at_call 83; have Hq := Aside0.mk (lay_calls k W B g cap A' c' q HR'.out j pj lj t _ HS.out HT.out); refine Hq.out.mono ?_; rintro e w' ⟨rfl, hs⟩; have HS2 := Aside0.mk hs; clear hs Hq))
   go_roundw
   case rel => exact ⟨j + 1, _, by omega, by go_num, HS2, HN⟩
   case measure => simp [intOf]; omega
  ·have hje : j = p.length := by omega
   subst hje
   have HL' := HL.out
   rw [List.drop_length] at HL'
   have e := Option.some.inj HL'
   have HE := Aside0.mk e
   clear HL HL' e hlt
   have hlt' : decide ((p.length : Int) < (p.length : Int)) = false := by simp
   go_wp2
   go_end0
   exact ⟨rfl, by rw [← HE.out]; exact HS.out⟩
def poly_Mul.L (k : Nat) (l0 l1 : List Int) : Option (List Int) := mulL (poly_mul.f k) l1 l0 0 (List.replicate (l0.length + l1.length) 0)
def poly_Mul.f (k : Nat) (l0 l1 : List Int) : Option (List Int × Int) := (poly_is.f k [l0, l1]).bind fun b => if b = true then (if l0.length + l1.length ≤ 35184372088832 then (poly_Mul.L k l0 l1).bind fun l => some (fin l, 0) else none) else some ([], 1)
theorem poly_Mul.mono : ∀ a0 a1 k, LeO (poly_Mul.f k a0 a1) (poly_Mul.f (k + 1) a0 a1) := by
 intro a0 a1 k
 unfold poly_Mul.f
 exact LeO.bind (poly_is.mono _ _) (fun b => LeO.ite (LeO.ite (LeO.bind (mulL_mono (fun x a => poly_mul.mono _ _ _) _ _ _ _) (fun l => LeO.refl _)) (LeO.refl _)) (LeO.refl _))
set_option maxHeartbeats 1000000 in
theorem poly_Mul.calls_yes (k : Nat) (A0 : Option Addr) (c0 : Nat) (l0 : List Int) (A1 : Option Addr) (c1 : Nat) (l1 : List Int) (l : List Int) (w : World) (hr0 : Kd.C (Kd.int .i64) w A0 l0.length l0) (hc0 : l0.length ≤ c0) (hr1 : Kd.C (Kd.int .i64) w A1 l1.length l1) (hc1 : l1.length ≤ c1) (hb : poly_is.f k [l0, l1] = some true) (hl : l0.length + l1.length ≤ 35184372088832) (hlay : poly_Mul.L k l0 l1 = some l) :
  Calls Try.prog 76 #[.slice A0 l0.length c0, .slice A1 l1.length c1] w fun e w' => ∃ g cap : Nat, e = .returned (.tuple #[.slice (some ⟨g, 0, none⟩) (fin l).length cap, .int .i64 0]) ∧ w'.ownsRow w.heap.size 3 1 (.slice (some ⟨g, 0, none⟩) (fin l).length cap) (fin l).length (encs (Value.int .i64) (fin l)) ∧ Below w.heap.size w w' := by
 have HR := Aside0.mk hr0
 have HC := Aside0.mk hc0
 have HR1 := Aside0.mk hr1
 have HC1 := Aside0.mk hc1
 have HI := Aside0.mk hb
 have HL := Aside0.mk hlay
 clear hr0 hc0 hr1 hc1 hb hlay
 go_enter Try.func76, Try.ntmps76
 go_wp2_with fail
 have hB2 : Below w.heap.size w (((w.alloc (.cells #[.slice A0 l0.length c0] 48)).alloc (.cells #[.slice A1 l1.length c1] 48)).alloc (.cells #[.slice A0 l0.length c0, .slice A1 l1.length c1] 48)) := below_alloc (below_alloc (below_alloc (Below.refl _ _) _) _) _
 have hc2 : (((w.alloc (.cells #[.slice A0 l0.length c0] 48)).alloc (.cells #[.slice A1 l1.length c1] 48)).alloc (.cells #[.slice A0 l0.length c0, .slice A1 l1.length c1] 48)).cell? ⟨w.heap.size + 1 + 1, 0, none⟩ = some (.slice A0 l0.length c0) := by go_simp
 have hc3 : (((w.alloc (.cells #[.slice A0 l0.length c0] 48)).alloc (.cells #[.slice A1 l1.length c1] 48)).alloc (.cells #[.slice A0 l0.length c0, .slice A1 l1.length c1] 48)).cell? ⟨w.heap.size + 1 + 1, 1, none⟩ = some (.slice A1 l1.length c1) := by go_simp
 have HX := Aside0.mk (C_two HR.out HC.out HR1.out HC1.out hB2 hc2 hc3)
 clear hB2 hc2 hc3
 refine (poly_is.calls k _ 2 [l0, l1] true _ HX.out (Nat.le_refl _) HI.out).mono ?_
 clear HX
 rintro e w' ⟨rfl, ⟨nd, rfl⟩⟩
 have hB3 : Below w.heap.size w ((((w.alloc (.cells #[.slice A0 l0.length c0] 48)).alloc (.cells #[.slice A1 l1.length c1] 48)).alloc (.cells #[.slice A0 l0.length c0, .slice A1 l1.length c1] 48)).drewN nd) := pw_below_drewN (below_alloc (below_alloc (below_alloc (Below.refl _ _) _) _) _) nd
 have hb3 : ((((w.alloc (.cells #[.slice A0 l0.length c0] 48)).alloc (.cells #[.slice A1 l1.length c1] 48)).alloc (.cells #[.slice A0 l0.length c0, .slice A1 l1.length c1] 48)).drewN nd).cell? ⟨w.heap.size, 0, none⟩ = some (.slice A0 l0.length c0) := by go_simp
 have hb4 : ((((w.alloc (.cells #[.slice A0 l0.length c0] 48)).alloc (.cells #[.slice A1 l1.length c1] 48)).alloc (.cells #[.slice A0 l0.length c0, .slice A1 l1.length c1] 48)).drewN nd).cell? ⟨w.heap.size + 1, 0, none⟩ = some (.slice A1 l1.length c1) := by go_simp
 have HB3 := Aside0.mk hB3
 have Hb3 := Aside0.mk hb3
 have Hb4 := Aside0.mk hb4
 clear hB3 hb3 hb4
 have hb5 : (l0.length : Int) + (l1.length : Int) ≤ 9223372036854775807 := by omega
 go_wp2_with fail
 have Hq := Aside0.mk (build_calls_Mul (l0.length + l1.length) _ l hl w.heap.size (w.heap.size + 1) (fun B g cap W1 hst => mul1_calls k _ B g cap w.heap.size (w.heap.size + 1) A0 c0 l0 (Kd.C_below HR.out HB3.out) Hb3.out A1 c1 l1 (Kd.C_below HR1.out HB3.out) Hb4.out _ l W1 hst HL.out))
 refine Hq.out.mono ?_
 clear Hq
 rintro e w' ⟨g, cap, rfl, ho, hb⟩
 have HO := Aside0.mk (own_weaken ho HB3.out.size)
 have HB := Aside0.mk (below_then HB3.out HB3.out.size hb)
 clear ho hb HB3 Hb3 Hb4
 go_wp2
 go_ret2
 exact ⟨g, cap, rfl, HO.out, HB.out⟩
set_option maxHeartbeats 1000000 in
theorem poly_Mul.calls (k : Nat) (A0 : Option Addr) (c0 : Nat) (l0 : List Int) (A1 : Option Addr) (c1 : Nat) (l1 : List Int) (r1 : List Int) (r2 : Int) (w : World) (hr0 : Kd.C (Kd.int .i64) w A0 l0.length l0) (hc0 : l0.length ≤ c0) (hr1 : Kd.C (Kd.int .i64) w A1 l1.length l1) (hc1 : l1.length ≤ c1) (h : poly_Mul.f k l0 l1 = some (r1, r2)) :
  Calls Try.prog 76 #[.slice A0 l0.length c0, .slice A1 l1.length c1] w fun e w' => ∃ v0_ : Value, e = .returned (.tuple #[v0_, .int .i64 r2]) ∧ Kd.R (Kd.int .i64) 3 w' w.heap.size (fun _ => True) v0_ r1 ∧ Below w.heap.size w w' := by
 unfold poly_Mul.f at h
 obtain ⟨b, hb, h⟩ := Option.bind_eq_some_iff.1 h
 cases b with
 | false =>
  have HI := Aside0.mk hb
  have HR := Aside0.mk hr0
  have HC := Aside0.mk hc0
  have HR1 := Aside0.mk hr1
  have HC1 := Aside0.mk hc1
  rw [if_neg (by simp)] at h
  simp only [Option.some.injEq, Prod.mk.injEq] at h
  obtain ⟨rfl, rfl⟩ := h
  clear hr0 hc0 hr1 hc1 hb
  go_enter Try.func76, Try.ntmps76
  go_wp2_with fail
  have hB2 : Below w.heap.size w (((w.alloc (.cells #[.slice A0 l0.length c0] 48)).alloc (.cells #[.slice A1 l1.length c1] 48)).alloc (.cells #[.slice A0 l0.length c0, .slice A1 l1.length c1] 48)) := below_alloc (below_alloc (below_alloc (Below.refl _ _) _) _) _
  have hc2 : (((w.alloc (.cells #[.slice A0 l0.length c0] 48)).alloc (.cells #[.slice A1 l1.length c1] 48)).alloc (.cells #[.slice A0 l0.length c0, .slice A1 l1.length c1] 48)).cell? ⟨w.heap.size + 1 + 1, 0, none⟩ = some (.slice A0 l0.length c0) := by go_simp
  have hc3 : (((w.alloc (.cells #[.slice A0 l0.length c0] 48)).alloc (.cells #[.slice A1 l1.length c1] 48)).alloc (.cells #[.slice A0 l0.length c0, .slice A1 l1.length c1] 48)).cell? ⟨w.heap.size + 1 + 1, 1, none⟩ = some (.slice A1 l1.length c1) := by go_simp
  have HX := Aside0.mk (C_two HR.out HC.out HR1.out HC1.out hB2 hc2 hc3)
  clear hB2 hc2 hc3
  refine (poly_is.calls k _ 2 [l0, l1] false _ HX.out (Nat.le_refl _) HI.out).mono ?_
  clear HX
  rintro e w' ⟨rfl, ⟨nd, rfl⟩⟩
  go_wp2
  go_ret2
  exact ⟨_, rfl, Kd.R_nil _ _ _ _ _, pw_below_drewN (below_alloc (below_alloc (below_alloc (Below.refl _ _) _) _) _) nd⟩
 | true =>
  rw [if_pos rfl] at h
  by_cases hl : l0.length + l1.length ≤ 35184372088832
  ·rw [if_pos hl] at h
   obtain ⟨l, hlay, h⟩ := Option.bind_eq_some_iff.1 h
   simp only [Option.some.injEq, Prod.mk.injEq] at h
   obtain ⟨rfl, rfl⟩ := h
   refine (poly_Mul.calls_yes k A0 c0 l0 A1 c1 l1 l w hr0 hc0 hr1 hc1 hb hl hlay).mono ?_
   rintro e w' ⟨g, cap, rfl, ho, hb⟩
   exact ⟨_, rfl, Kd.R_of_own (h1 := fun _ => rfl) ho (fun _ _ => trivial), hb⟩
  ·rw [if_neg hl] at h; exact absurd h (by simp)
section
open Go.Shelf
attribute [local go_sem] Oper.semAt_some
def conjL (m : Int → Int → Option (Int × Int)) (first : Int) : Nat → Int → Option (List Int)
 | 0, _ => none
 | n + 1, x => (m x x).bind fun y => if y.1 = first then some [x] else (conjL m first n y.1).bind fun l => some (x :: l)
theorem conjL_more (m : Int → Int → Option (Int × Int)) (first : Int) : ∀ (n : Nat) (x : Int) (l : List Int), conjL m first n x = some l → conjL m first (n + 1) x = some l
 | 0, x, l, h => by simp [conjL] at h
 | n + 1, x, l, h => by
  unfold conjL at h ⊢
  obtain ⟨y, hy, h⟩ := Option.bind_eq_some_iff.1 h
  rw [hy, Option.bind_some]
  by_cases e : y.1 = first
  ·rw [if_pos e] at h ⊢; exact h
  ·rw [if_neg e] at h ⊢
   obtain ⟨q, hq, h⟩ := Option.bind_eq_some_iff.1 h
   rw [conjL_more m first n y.1 q hq, Option.bind_some]; exact h
def conjN (m : Int → Int → Option (Int × Int)) (first x : Int) : Nat := match conjL m first 20 x with | some l => l.length | none => 0
set_option maxHeartbeats 2000000 in
set_option maxRecDepth 100000 in
theorem conj1_in (k l Bn n n₀ : Nat) (hn : 3 ≤ n) (nn x0 : Int) (xs : List Int) (hE : gf_Exp.f k nn = some x0) (hxs : conjL (gf_Mul.f k) x0 20 x0 = some xs) (J Jx : List Int → World → Prop)
  (hJd : ∀ s W m, J s W → J s (W.drewN m))
  (hY : ∀ pre x W, J pre W → pre.length < xs.length → YieldAt Fence.wide (n - 1) Try.prog l #[.int .i64 x] W fun e W' =>
   (e = .returned (.bool true) ∧ J (pre ++ [x]) W' ∧ Below n₀ W W') ∨ (e = .returned (.bool false) ∧ Jx (pre ++ [x]) W'))
  (W : World) (hBn : W.cell? ⟨Bn, 0, none⟩ = some (.int .i64 nn)) (h0 : J [] W) :
  CallsIn Fence.wide n Try.prog 79 #[.func (.yield l) #[] #[], .pointer (some ⟨Bn, 0, none⟩)] W fun e W' => (∃ v, e = .returned v) ∧
   ((∃ ys, ys = xs ∧ J ys W') ∨ (∃ pre, pre <+: xs ∧ Jx pre W')) := by
 have hn1 : 1 ≤ n := by omega
 have hn2 : 1 ≤ n - 1 := by omega
 refine callsIn_of_wp Try.func79 rfl trivial ?_ rfl
 simp only [Try.ntmps79, List.size_toArray, List.length_cons, List.length_nil, Nat.reduceAdd, Nat.reduceSub, Array.replicate_succ, Array.replicate_zero, List.push_toArray, List.append_toArray, List.nil_append, List.cons_append]
 gi_wp2_with (refine ⟨trivial, ?_⟩; gi_at_call 43; refine (callsIn_wide.2 (gf_Exp.calls k nn x0 _ hE)).mono ?_; rintro e w' ⟨rfl, ⟨nd, rfl⟩⟩)
 have h1 := hJd _ _ nd h0
 have HX := Aside0.mk hxs
 clear hxs h0 hE hBn
 gi_wp2
 gi_loopw [4] (fun p wr => ∃ (pre rest : List Int) (x : Int), p = .int .i64 x ∧ xs = pre ++ rest ∧ Aside0 (conjL (gf_Mul.f k) x0 20 x = some rest) ∧ J pre wr) (fun p _ => conjN (gf_Mul.f k) x0 (intOf p))
 case atStart => exact ⟨[], xs, x0, rfl, rfl, HX, h1⟩
 case round =>
  obtain ⟨pre, rest, x, rfl, hx, HL, hJs⟩ := hrel
  have hl := HL.out
  unfold conjL at hl
  obtain ⟨y, hy, hl⟩ := Option.bind_eq_some_iff.1 hl
  have HY := Aside0.mk hy
  have hlen : pre.length < xs.length := by
   by_cases e : y.1 = x0
   ·rw [if_pos e] at hl; rw [hx, ← Option.some.inj hl]; simp
   ·rw [if_neg e] at hl
    obtain ⟨q, _, hl⟩ := Option.bind_eq_some_iff.1 hl
    rw [hx, ← Option.some.inj hl]; simp
  obtain ⟨fn, tmps, assign, body, hyy, hR⟩ := hY pre x wr hJs hlen
  clear hy
  gi_wp2
  refine hR.mono ?_
  rintro e W3 (⟨rfl, hJ3, hk3⟩ | ⟨rfl, hJx3⟩)
  ·by_cases e : y.1 = x0
   ·rw [if_pos e] at hl
    have he : (y.1 == x0) = true := beq_iff_eq.2 e
    have HL2 := Aside0.mk (Option.some.inj hl)
    clear hl HL e
    gi_wp2_with (refine ⟨trivial, ?_⟩; gi_at_call 62; refine (callsIn_wide.2 (gf_Mul.calls k x x y.1 y.2 _ HY.out)).mono ?_; rintro e w' ⟨rfl, ⟨nd, rfl⟩⟩)
    refine bodyPost_ret (results_none rfl _ _ _) rfl ?_
    exact ⟨⟨_, rfl⟩, .inl ⟨_, by rw [hx, ← HL2.out], hJd _ _ nd hJ3⟩⟩
   ·rw [if_neg e] at hl
    obtain ⟨q, hq, hl⟩ := Option.bind_eq_some_iff.1 hl
    have he : (y.1 == x0) = false := beq_eq_false_iff_ne.2 e
    have HL2 := Aside0.mk (Option.some.inj hl)
    have HQ := Aside0.mk (conjL_more _ _ _ _ _ hq)
    clear hl e hq
    gi_wp2_with (refine ⟨trivial, ?_⟩; gi_at_call 62; refine (callsIn_wide.2 (gf_Mul.calls k x x y.1 y.2 _ HY.out)).mono ?_; rintro e w' ⟨rfl, ⟨nd, rfl⟩⟩)
    go_roundw
    case rel => exact ⟨pre ++ [x], q, y.1, rfl, by rw [hx, ← HL2.out]; simp, HQ, hJd _ _ nd hJ3⟩
    case measure =>
     show conjN (gf_Mul.f k) x0 (intOf (.int .i64 y.1)) < conjN (gf_Mul.f k) x0 (intOf (.int .i64 x))
     show conjN (gf_Mul.f k) x0 y.1 < conjN (gf_Mul.f k) x0 x
     unfold conjN
     rw [HQ.out, HL.out, ← HL2.out]; simp
  ·gi_wp2
   go_end0
   have hp : pre ++ [x] <+: xs := by
    by_cases e : y.1 = x0
    ·rw [if_pos e] at hl; exact ⟨[], by rw [hx, ← Option.some.inj hl]; simp⟩
    ·rw [if_neg e] at hl
     obtain ⟨q, _, hl⟩ := Option.bind_eq_some_iff.1 hl
     exact ⟨q, by rw [hx, ← Option.some.inj hl]; simp⟩
   exact ⟨⟨_, rfl⟩, .inr ⟨pre ++ [x], hp, hJx3⟩⟩
theorem conj_calls (nn : Int) (w : World) : Calls Try.prog 75 #[.int .i64 nn] w fun e w' => e = .returned (.func (.func 79) #[] #[.pointer (some ⟨w.heap.size, 0, none⟩)]) ∧ w' = w.alloc (.cells #[.int .i64 nn] 3) := by
 go_enter Try.func75, Try.ntmps75
 go_wp2
 go_ret
 exact ⟨rfl, rfl⟩
theorem conj_stops (k n Bn n₀ : Nat) (hn : 3 ≤ n) (nn x0 : Int) (xs : List Int) (hE : gf_Exp.f k nn = some x0) (hxs : conjL (gf_Mul.f k) x0 20 x0 = some xs) (w : World) (hBn : w.cell? ⟨Bn, 0, none⟩ = some (.int .i64 nn)) :
  SeqStopsK Fence.wide n Try.prog 79 #[.pointer (some ⟨Bn, 0, none⟩)] (fun x : Int => #[.int .i64 x]) (Below n₀) (fun ys => ys = xs) (fun pre => pre <+: xs) xs.length w :=
 fun l J Jx W hW hJ hJx hY h0 => conj1_in k l Bn n n₀ hn nn x0 xs hE hxs J Jx
  (fun s W1 m h => hJ s W1 _ none h (grown_of_below (pw_below_drewN (Below.refl _ _) m) none) (fun r e => by cases e)) hY W ((hW.cell (World.block_lt_of_cell? w _ hBn)).trans hBn) h0
theorem C_cells9 {k : IntKind} {w : World} {A : Option Addr} {n : Nat} {xs : List Int} (h : Kd.C (Kd.int k) w A n xs) (hn : xs.length = n) (h0 : 0 < n) : ∃ ad, A = some ad ∧ ∀ j u, (encs (Value.int k) xs)[j]? = some u → w.cell? (ad.add j) = some u := by
 obtain ⟨ad, hA, _⟩ := Kd.at_int h 0 (by omega) (by omega)
 refine ⟨ad, hA, fun j u hu => ?_⟩
 have hj : j < xs.length := by
  have := (List.getElem?_eq_some_iff.1 hu).1
  simpa [encs] using this
 obtain ⟨ad', hA', hc⟩ := Kd.at_int h (j : Int) (by omega) (by omega)
 rw [hA] at hA'
 cases hA'
 rw [Int.toNat_natCast] at hc
 rw [hc]
 simp only [encs, List.getElem?_map, List.getElem?_eq_getElem hj, Option.map_some, Option.some.injEq] at hu
 rw [← hu]
 simp [rd, List.getElem?_eq_getElem hj]
def prodL (k : Nat) : List Int → List Int → Option (List Int)
 | [], p => some p
 | x :: xs, p => (poly_Mul.f k p [x, 1]).bind fun r => prodL k xs r.1
theorem prodL_snoc (k : Nat) (x : Int) : ∀ (xs p : List Int), prodL k (xs ++ [x]) p = (prodL k xs p).bind fun q => (poly_Mul.f k q [x, 1]).bind fun r => some r.1
 | [], p => by
  show (poly_Mul.f k p [x, 1]).bind (fun r => prodL k [] r.1) = _
  rfl
 | y :: xs, p => by
  show (poly_Mul.f k p [y, 1]).bind (fun r => prodL k (xs ++ [x]) r.1) = ((poly_Mul.f k p [y, 1]).bind fun r => prodL k xs r.1).bind _
  cases poly_Mul.f k p [y, 1] with
  | none => rfl
  | some r => exact prodL_snoc k x xs r.1
theorem mul_tot : ∀ (j k : Nat) (a b o : Int), 0 ≤ b → b < 2 ^ j → j < k → ∃ r, gf_mul.l0 k a b o = some r
 | 0, k, a, b, o, h0, h1, hk => by
  obtain ⟨k, rfl⟩ : ∃ m, k = m + 1 := ⟨k - 1, by omega⟩
  exact ⟨o, by rw [gf_mul.l0, if_pos (by omega)]⟩
 | j + 1, k, a, b, o, h0, h1, hk => by
  obtain ⟨k, rfl⟩ : ∃ m, k = m + 1 := ⟨k - 1, by omega⟩
  by_cases hb : b = 0
  ·exact ⟨o, by rw [gf_mul.l0, if_pos hb]⟩
  ·have h2 : b / 2 < 2 ^ j := by
    rw [Int.pow_succ] at h1
    generalize (2 : Int) ^ j = q at h1 ⊢
    omega
   have ih := fun a o => mul_tot j k a (b / 2) o (by omega) h2 (by omega)
   rw [gf_mul.l0, if_neg hb]
   split
   ·split
    ·exact ih _ _
    ·exact ih _ _
   ·split
    ·exact ih _ _
    ·exact ih _ _
theorem Mul_tot (a b : Int) {k : Nat} (hk : 13 < k) : ∃ r, gf_Mul.f k a b = some r := by
 unfold gf_Mul.f gf_is.f
 by_cases ha : a ≥ 0
 ·rw [if_pos ha, Option.bind_some]
  by_cases ha' : a < 8192
  ·rw [if_pos (by simpa using ha')]
   by_cases hb : b ≥ 0
   ·rw [if_pos hb, Option.bind_some]
    by_cases hb' : b < 8192
    ·rw [if_pos (by simpa using hb')]
     obtain ⟨r, hr⟩ := mul_tot 13 k a b 0 hb (by simpa using hb') hk
     unfold gf_mul.f
     exact ⟨(r, 0), by rw [hr]; rfl⟩
    ·rw [if_neg (by simpa using hb')]; exact ⟨_, rfl⟩
   ·rw [if_neg hb, Option.bind_some, if_neg (by simp)]; exact ⟨_, rfl⟩
  ·rw [if_neg (by simpa using ha')]; exact ⟨_, rfl⟩
 ·rw [if_neg ha, Option.bind_some, if_neg (by simp)]; exact ⟨_, rfl⟩
theorem is_tot1 (ls : List (List Int)) (n x11 : Int) (l : List Int) (hl : l.length ≤ 1000) (K : Nat) (hK : 14 ≤ K) (hr : ∀ k, K ≤ k → ∃ r, poly_is.l0 k ls n (wrap64 (x11 + 1)) = some r) : ∀ (d i k : Nat), i + d = l.length → K + d < k → ∃ r, poly_is.l1 k ls n x11 l (l.length : Int) (i : Int) = some r
 | 0, i, k, hi, hk => by
  obtain ⟨k, rfl⟩ : ∃ m, k = m + 1 := ⟨k - 1, by omega⟩
  rw [poly_is.l1, if_neg (by omega)]
  exact hr k (by omega)
 | d + 1, i, k, hi, hk => by
  obtain ⟨k, rfl⟩ : ∃ m, k = m + 1 := ⟨k - 1, by omega⟩
  rw [poly_is.l1, if_pos (by omega), if_pos (by omega), if_pos (by omega)]
  obtain ⟨r, h⟩ := Mul_tot (rd l (i : Int)) 0 (k := k) (by omega)
  rw [h, Option.bind_some]
  have hw : wrap64 ((i : Int) + 1) = ((i + 1 : Nat) : Int) := by unfold wrap64; omega
  rw [hw]
  split
  ·exact is_tot1 ls n x11 l hl K hK hr d (i + 1) k (by omega) (by omega)
  ·exact ⟨_, rfl⟩
theorem is_tot (p q : List Int) (hp : p.length ≤ 1000) (hq : q.length ≤ 1000) {k : Nat} (hk : p.length + q.length + 20 ≤ k) : ∃ b, poly_is.f k [p, q] = some b := by
 have w1 : wrap64 (0 + 1) = 1 := by unfold wrap64; omega
 have w2 : wrap64 (1 + 1) = 2 := by unfold wrap64; omega
 have hl : ([p, q].length : Int) = 2 := rfl
 have h2 : ∀ k, 14 ≤ k → ∃ r, poly_is.l0 k [p, q] 2 (wrap64 (1 + 1)) = some r := fun k h => by
  obtain ⟨k, rfl⟩ : ∃ m, k = m + 1 := ⟨k - 1, by omega⟩
  exact ⟨true, by rw [w2, poly_is.l0, if_neg (by omega)]⟩
 have h1 : ∀ k, q.length + 16 ≤ k → ∃ r, poly_is.l0 k [p, q] 2 (wrap64 (0 + 1)) = some r := fun k h => by
  obtain ⟨k, rfl⟩ : ∃ m, k = m + 1 := ⟨k - 1, by omega⟩
  rw [w1, poly_is.l0, if_pos (by omega), if_pos (by omega), if_pos (by omega)]
  exact is_tot1 [p, q] 2 1 q hq 14 (Nat.le_refl _) h2 q.length 0 k (by omega) (by omega)
 unfold poly_is.f
 obtain ⟨k, rfl⟩ : ∃ m, k = m + 1 := ⟨k - 1, by omega⟩
 rw [hl, poly_is.l0, if_pos (by omega), if_pos (by omega), if_pos (by omega)]
 exact is_tot1 [p, q] 2 0 p hp (q.length + 16) (by omega) h1 p.length 0 k (by omega) (by omega)
theorem lay_tot (m : Int → Option Int) (hm : ∀ a, ∃ t, m a = some t) : ∀ (p : List Int) (i : Nat) (l : List Int), i + p.length ≤ l.length → ∃ r, layL m p i l = some r ∧ r.length = l.length
 | [], _, l, _ => ⟨l, rfl, rfl⟩
 | a :: p, i, l, h => by
  obtain ⟨t, ht⟩ := hm a
  obtain ⟨r, hr, hl⟩ := lay_tot m hm p (i + 1) (l.set i (Go.bits .xor .i64 (l.getD i 0) t)) (by simp at h ⊢; omega)
  refine ⟨r, ?_, by rw [hl]; simp⟩
  show ((m a).bind fun t => if i < l.length then layL m p (i + 1) (l.set i (Go.bits .xor .i64 (l.getD i 0) t)) else none) = some r
  rw [ht, Option.bind_some, if_pos (by simp at h; omega), hr]
theorem mulL_tot (m : Int → Int → Option Int) (hm : ∀ a b, ∃ t, m a b = some t) (q : List Int) : ∀ (p : List Int) (i : Nat) (l : List Int), i + p.length + q.length ≤ l.length + 1 ∨ p = [] → ∃ r, mulL m q p i l = some r ∧ r.length = l.length
 | [], _, l, _ => ⟨l, rfl, rfl⟩
 | a :: p, i, l, h => by
  have h' : i + p.length + 1 + q.length ≤ l.length + 1 := by rcases h with h | h; simp at h; omega; cases h
  obtain ⟨r, hr, hl⟩ := lay_tot (fun x => m x a) (fun x => hm x a) q i l (by omega)
  obtain ⟨s, hs, hl2⟩ := mulL_tot m hm q p (i + 1) r (.inl (by omega))
  refine ⟨s, ?_, by omega⟩
  show (layL (fun x => m x a) q i l).bind (fun l' => mulL m q p (i + 1) l') = some s
  rw [hr, Option.bind_some, hs]
theorem fin_short (l : List Int) : (fin l).length ≤ l.length := by unfold fin; exact List.length_take_le' _ _
theorem pMul_tot (p : List Int) (x : Int) (hp : p.length ≤ 1000) {k : Nat} (hk : p.length + 40 ≤ k) : ∃ r e, poly_Mul.f k p [x, 1] = some (r, e) ∧ r.length ≤ p.length + 2 := by
 obtain ⟨b, hb⟩ := is_tot p [x, 1] hp (by simp) (k := k) (by simp; omega)
 unfold poly_Mul.f poly_Mul.L
 rw [hb, Option.bind_some]
 cases b with
 | false => exact ⟨[], 1, by rw [if_neg (by simp)], by simp⟩
 | true =>
  obtain ⟨r, hr, hl⟩ := mulL_tot (poly_mul.f k) (fun a b => by
   obtain ⟨t, ht⟩ := Mul_tot a b (k := k) (by omega)
   exact ⟨t.1, by unfold poly_mul.f; rw [ht]; rfl⟩) [x, 1] p 0 (List.replicate (p.length + [x, 1].length) 0) (.inl (by simp))
  refine ⟨fin r, 0, by rw [if_pos rfl, if_pos (by simp; omega), hr]; rfl, ?_⟩
  have := fin_short r
  simp at hl
  omega
theorem prodL_tot {k : Nat} (hk : 100 ≤ k) : ∀ (xs p : List Int), p.length + 2 * xs.length ≤ 60 → ∃ r, prodL k xs p = some r ∧ r.length ≤ p.length + 2 * xs.length
 | [], p, _ => ⟨p, rfl, by simp⟩
 | x :: xs, p, h => by
  simp only [List.length_cons] at h
  obtain ⟨r, e, hr, hl⟩ := pMul_tot p x (by omega) (k := k) (by omega)
  obtain ⟨s, hs, hl2⟩ := prodL_tot hk xs r (by omega)
  refine ⟨s, ?_, by simp only [List.length_cons]; omega⟩
  show (poly_Mul.f k p [x, 1]).bind (fun r => prodL k xs r.1) = some s
  rw [hr, Option.bind_some, hs]
theorem C_new9 {k : IntKind} (w : World) (xs : List Int) (c : Array Value) (t : TypeId) (fz : Nat × Nat) (n : Nat) (hc : c = (encs (Value.int k) xs).toArray) (hn : xs.length = n) (hm : n ≤ 9223372036854775807) (g : Nat) (hg : g = w.heap.size) : Kd.C (Kd.int k) (w.alloc (.cells c t fz)) (some ⟨g, 0, none⟩) n xs := by
 subst hc hn hg
 refine Kd.C_of_reads (d := (0 : Int)) (h1 := fun _ => rfl) ⟨rfl, hm, fun _ => ⟨_, rfl, fun j hj => ?_⟩⟩
 rw [add_plain, cell_of_row _ _ _ _ _ _ (blk_new w _)]
 simp [encs, List.getElem?_eq_getElem hj, List.getD_eq_getElem?_getD]
theorem ginfo_u8 : (Try.prog.info? 5).map (fun i => (i.zero, i.size, i.bytes)) = some (some (.int .u8 0), 1, 1) := by kernel_rfl
theorem made_formb {w : World} {base n : Nat} {ok : Nat → Prop} {v : Value} {z : Int} {m : Nat} (h : (Kd.int .u8).R 5 w base ok v (List.replicate z.toNat 0)) (hb : ∃ b, v.ownBlock = some b ∧ n ≤ b) (hz : z.toNat = m) :
  ∃ g cap, v = .slice (some ⟨g, 0, none⟩) m cap ∧ base ≤ g ∧ n ≤ g ∧ g < w.heap.size ∧ w.ownsRow base 5 1 (.slice (some ⟨g, 0, none⟩) m cap) m (encs (Value.int .u8) (List.replicate m 0)) := by
 obtain ⟨b, hb, hle⟩ := hb
 have ho := Kd.own_of_R h
 rw [hz, List.length_replicate] at ho
 have hlt := own_lt ho b hb
 rcases ho.2 with ⟨rfl, _⟩ | ⟨g, cap, cur, rfl, hg, hh, _⟩
 ·simp [Value.ownBlock] at hb
 ·obtain rfl : g = b := by simpa [Value.ownBlock] using hb
  exact ⟨g, cap, rfl, hg, hle, hlt, ho⟩
/-- out[i / 8] |= byte(p[i] << (i % 8)), for the first j numbers. -/
def orL (p : List Int) : Nat → List Int → List Int
 | 0, l => l
 | j + 1, l => (orL p j l).set (j / 8) (Go.bits .or .u8 ((orL p j l).getD (j / 8) 0) (wrap64 (p.getD j 0 * 2 ^ (j % 8)) % 256))
theorem C_of_own9 {w : World} {base g cap : Nat} {l : List Int} (h : w.ownsRow base 5 1 (.slice (some ⟨g, 0, none⟩) l.length cap) l.length (encs (Value.int .u8) l)) : Kd.C (Kd.int .u8) w (some ⟨g, 0, none⟩) l.length l ∧ l.length ≤ cap := by
 obtain ⟨A, c, he, hc, hC⟩ := Kd.R_reads (Kd.R_of_own (h1 := fun _ => rfl) h (ok := fun _ => True) (fun _ _ => trivial))
 injection he with h1 h2 h3
 subst h1; subst h3
 exact ⟨hC, hc⟩
theorem cutb {w : World} {base g cap : Nat} {l : List Int} (h : w.ownsRow base 5 1 (.slice (some ⟨g, 0, none⟩) l.length cap) l.length (encs (Value.int .u8) l)) {m : Nat} (hm : m ≤ l.length) (hz : ∀ j, m ≤ j → l.getD j 0 = 0) (hn : 0 < m → l.getD (m - 1) 0 ≠ 0) :
  m = (fin l).length ∧ w.ownsRow base 5 1 (.slice (some ⟨g, 0, none⟩) (fin l).length cap) (fin l).length (encs (Value.int .u8) (fin l)) := by
 have h1 := own_take h hm
 have h2 : fin l = l.take m := by unfold fin; rw [normN_of hz hn l.length hm]
 have h3 : (encs (Value.int .u8) l).take (m * 1) = encs (Value.int .u8) (l.take m) := by rw [Nat.mul_one]; simp [encs, List.map_take]
 rw [h3] at h1
 have h4 : (l.take m).length = m := by rw [List.length_take]; omega
 rw [h2, h4]
 exact ⟨rfl, h1⟩
/-- What norm answers: how many are left. -/
def NormAnsB (l : List Int) (A : Option Addr) (c : Nat) (w : World) (e : Ending) (w' : World) : Prop := ∃ m : Nat, m ≤ l.length ∧ e = .returned (.slice A m c) ∧ (∀ j, m ≤ j → l.getD j 0 = 0) ∧ (0 < m → l.getD (m - 1) 0 ≠ 0) ∧ w = w'
theorem normb_calls (A : Option Addr) (c : Nat) (l : List Int) (w : World) (hr : Kd.C (Kd.int .u8) w A l.length l) (hc : l.length ≤ c) :
  Calls Try.prog 64 #[.slice A l.length c] w (NormAnsB l A c w) := by
 have hm : l.length ≤ 9223372036854775807 := hr.2.1
 go_enter Try.func64, Try.ntmps64
 go_wp2
 go_loop [0] (fun v => ∃ m : Nat, m ≤ l.length ∧ v = .slice A m c ∧ (∀ j, m ≤ j → l.getD j 0 = 0)) (fun v => match v with | .slice _ m _ => m | _ => 0)
 case atStart => exact ⟨l.length, Nat.le_refl _, rfl, fun j hj => by simp [List.getElem?_eq_none hj]⟩
 case round =>
  obtain ⟨m, hml, rfl, hz⟩ := hrel
  have HZ := Aside0.mk hz
  clear hz
  by_cases h0 : 0 < m
  ·obtain ⟨ad, rfl, hx0⟩ := Kd.at_int hr ((m - 1 : Nat) : Int) (by omega) (by omega)
   obtain ⟨z, hz⟩ : ∃ z, z = l.getD (m - 1) 0 := ⟨_, rfl⟩
   have hx : w.cell? (ad.add (m - 1)) = some (.int .u8 z) := by
    have := hx0
    rw [rd_nat', Int.toNat_natCast] at this
    rw [hz]; exact this
   have HV := Aside0.mk hz
   have hd : decide (0 < (m : Int)) = true := decide_eq_true (by omega)
   have hd2 : decide (0 < m) = true := decide_eq_true h0
   clear hx0 hz
   by_cases hz0 : z = 0
   ·have hb : (z == 0) = true := beq_iff_eq.2 hz0
    have H0 := Aside0.mk hz0
    clear hz0
    go_wp2
    go_round
    case rel =>
     refine ⟨m - 1, by omega, rfl, fun j hj => ?_⟩
     by_cases e : j = m - 1
     ·subst e; rw [← HV.out, H0.out]
     ·exact HZ.out j (by omega)
    case measure => show m - 1 < m; omega
   ·have hb : (z == 0) = false := beq_eq_false_iff_ne.2 hz0
    have H0 := Aside0.mk hz0
    clear hz0
    go_wp2
    go_ret
    exact ⟨m, hml, rfl, HZ.out, fun _ => by rw [← HV.out]; exact H0.out, rfl⟩
  ·have hm0 : m = 0 := by omega
   subst hm0
   go_wp2
   go_ret
   exact ⟨0, hml, rfl, HZ.out, fun h => absurd h (by omega), rfl⟩
theorem keepsOthers_below {W W' : World} (hb : Below W.heap.size W W') : KeepsOthers W W' := ⟨hb.size, fun k _ hk _ => (hb.block k (Array.getElem?_eq_some_iff.1 hk).1).trans hk⟩
theorem reads_of_C {W : World} {A : Option Addr} {p : List Int} (h : Kd.C (Kd.int .i64) W A p.length p) : ReadsInt W .i64 A p.length p := by
 refine ⟨rfl, h.2.1, fun hn => ?_⟩
 obtain ⟨ad, hA, hc⟩ := C_cells9 h rfl hn
 refine ⟨ad, hA, fun j hj => ?_⟩
 have := hc j (.int .i64 (p.getD j 0)) (by simp [encs, List.getElem?_eq_getElem hj, List.getD_eq_getElem?_getD])
 exact this
theorem C_of_ReadsInt {W : World} {A : Option Addr} {p : List Int} (h : ReadsInt W .i64 A p.length p) : Kd.C (Kd.int .i64) W A p.length p := Kd.C_of_reads (d := (0 : Int)) (h1 := fun _ => rfl) h
/-- Between two rounds: the box holds what the product has come to. -/
structure MinI (k b : Nat) (pre : List Int) (W : World) : Prop where
 ex : ∃ (p : List Int) (A : Option Addr) (c : Nat), W.cell? ⟨b, 0, none⟩ = some (.slice A p.length c) ∧ W.frozen? ⟨b, 0, none⟩ = false ∧ ReadsInt W .i64 A p.length p ∧ p.length ≤ c ∧ prodL k pre [1] = some p
theorem ReadsInt.kept {W W' : World} {row : Option Nat} {A : Option Addr} {p : List Int} (h : ReadsInt W .i64 A p.length p) (hg : W.grownBy W' row) (hr : ∀ r, row = some r → ∃ o : Obj, W.heap[r]? = some o ∧ o.isCells = false) : ReadsInt W' .i64 A p.length p := by
 refine ⟨rfl, h.2.1, fun hn => ?_⟩
 obtain ⟨ad, hA, hc⟩ := h.2.2 hn
 exact ⟨ad, hA, fun j hj => cell_kept (hc j hj) hg hr⟩
theorem MinI.own (k b : Nat) : Own (MinI k b) := fun s X Y row hs hg hr => by
 obtain ⟨p, A, c, h1, h2, h3, h4, h5⟩ := hs.ex
 exact ⟨p, A, c, cell_kept h1 hg hr, (frozen_kept h1 hg hr).trans h2, ReadsInt.kept h3 hg hr, h4, h5⟩
set_option maxHeartbeats 2000000 in
set_option maxRecDepth 100000 in
theorem min_calls (k : Nat) (hk : 100 ≤ k) (nn x0 : Int) (xs p : List Int) (hE : gf_Exp.f k nn = some x0) (hxs : conjL (gf_Mul.f k) x0 20 x0 = some xs) (hlen : xs.length ≤ 20) (hp : prodL k xs [1] = some p) (w : World) :
  Calls Try.prog 63 #[.int .i64 nn] w fun e w' => ∃ v0_ : Value, e = .returned v0_ ∧ Kd.R (Kd.int .u8) 5 w' w.heap.size (fun _ => True) v0_ (fin (orL p p.length (List.replicate (p.length / 8 + 1) 0))) ∧ Below w.heap.size w w' := by
 refine (callsIn_wide (n := 5)).1 ?_
 refine callsIn_of_wp_marks Try.func63 rfl trivial ?_ rfl
 simp only [Try.ntmps63, List.size_toArray, List.length_cons, List.length_nil, Nat.reduceAdd, Nat.reduceSub, Array.replicate_succ, Array.replicate_zero, List.push_toArray, List.append_toArray, List.nil_append, List.cons_append]
 gi_wp2_with (refine ⟨trivial, ?_⟩; gi_at_call 75; refine (callsIn_wide.2 (conj_calls nn _)).mono ?_; rintro e w' ⟨rfl, rfl⟩)
 obtain ⟨W0, hW0⟩ : ∃ W0, W0 = ((w.alloc (.cells #[.int .i64 1] 3)).alloc (.cells #[.slice (some ⟨w.heap.size, 0, none⟩) 1 1] 48)).alloc (.cells #[.int .i64 nn] 3) := ⟨_, rfl⟩
 rw [← hW0]
 have e0 := blk_new w (.cells #[.int .i64 1] 3)
 have e1 := blk_new (w.alloc (.cells #[.int .i64 1] 3)) (.cells #[.slice (some ⟨w.heap.size, 0, none⟩) 1 1] 48)
 have e2 := blk_new ((w.alloc (.cells #[.int .i64 1] 3)).alloc (.cells #[.slice (some ⟨w.heap.size, 0, none⟩) 1 1] 48)) (.cells #[.int .i64 nn] 3)
 simp only [World.size_alloc] at e1 e2
 have b0 : W0.heap[w.heap.size]? = some (.cells #[.int .i64 1] 3 (0, 0)) := by rw [hW0]; exact blk_alloc (blk_alloc e0 _) _
 have b1 : W0.heap[w.heap.size + 1]? = some (.cells #[.slice (some ⟨w.heap.size, 0, none⟩) 1 1] 48 (0, 0)) := by rw [hW0]; exact blk_alloc e1 _
 have b2 : W0.heap[w.heap.size + 1 + 1]? = some (.cells #[.int .i64 nn] 3 (0, 0)) := by rw [hW0]; exact e2
 have hsz : W0.heap.size = w.heap.size + 1 + 1 + 1 := by rw [hW0]; simp
 have hbW : Below w.heap.size w W0 := by rw [hW0]; exact below_alloc (below_alloc (below_alloc (Below.refl _ _) _) _) _
 have hI0 : MinI k (w.heap.size + 1) [] W0 := ⟨[1], some ⟨w.heap.size, 0, none⟩, 1, (blk_cell b1 0).trans rfl, blk_frozen b1 0, ⟨rfl, by decide, fun _ => ⟨_, rfl, fun j hj => by
  have : j = 0 := by simp at hj; omega
  subst this
  rw [add_plain]; exact (blk_cell b0 0).trans rfl⟩⟩, by decide, rfl⟩
 have hstop := conj_stops k 4 (w.heap.size + 1 + 1) w.heap.size (by decide) nn x0 xs hE hxs W0 ((blk_cell b2 0).trans rfl)
 refine wpIn_rangeFunc_ownG rfl (by decide) (gf := 79) (lb := #[.pointer (some ⟨w.heap.size + 1 + 1, 0, none⟩)]) rfl trivial (enters_of Try.func79 (by kernel_rfl) rfl)
  hstop belowK_t (belowK_b (by rw [hsz]; omega)) (Below.refl _ _) (fun _ => rfl)
  (fun pre W => MinI k (w.heap.size + 1) pre W ∧ Below w.heap.size w W) (fun _ _ _ => False)
  (OwnFrom.and (Own.from (MinI.own k (w.heap.size + 1)) _) (ownFrom_below (Nat.le_refl _) (by rw [hsz]; omega)))
  (fun _ _ _ _ _ hs _ _ => hs)
  ⟨hI0, hbW⟩
  (fun x => { tmps := #[.int .i64 nn, undef, .slice none 0 0, .pointer (some ⟨w.heap.size + 1, 0, none⟩), .int .i64 x, undef, undef, undef, .slice (some ⟨w.heap.size, 0, none⟩) 1 1, .int .i64 nn, .func (.func 79) #[] #[.pointer (some ⟨w.heap.size + 1 + 1, 0, none⟩)], .int .i64 x, undef, undef, undef, undef, undef, undef, undef, undef, undef, undef, undef, undef, undef, undef, undef, undef, undef, undef, undef, undef, undef, undef, undef, undef, undef, undef, undef, undef, undef, undef, undef, undef, undef, undef], defers := [] }) ?assign ?body ?done ?stop
 case assign =>
  intro l x W K hK
  gi_wp2
  exact hK
 case body =>
  rintro l pre x W ⟨⟨q, A, c, hc, hf, hr, hqc, hq⟩, hB⟩ hpl
  obtain ⟨q', hq', hql⟩ := prodL_tot hk pre [1] (by simp; omega)
  rw [hq] at hq'
  obtain rfl := Option.some.inj hq'
  obtain ⟨r, er, hm, hrl⟩ := pMul_tot q x (by simp at hql; omega) (k := k) (by simp at hql; omega)
  have hlt : w.heap.size + 1 < W.heap.size := World.block_lt_of_cell? W _ hc
  have HC := Aside0.mk (C_of_ReadsInt hr)
  have HQ := Aside0.mk hq
  have HM := Aside0.mk hm
  have HB := Aside0.mk hB
  have HQC := Aside0.mk hqc
  clear hr hq hm hB hqc hq' hI0 hstop e0 e1 e2 b0 b1 b2 hbW hE hxs hp hpl hql hrl hsz
  gi_wp2
  refine ⟨trivial, ?_⟩
  refine (CallsIn.inRound l (callsIn_wide.2 (poly_Mul.calls k A c q (some ⟨W.heap.size, 0, none⟩) 2 [x, 1] r er _ (Kd.C_alloc HC.out _) HQC.out (C_new9 W [x, 1] _ 3 (0, 0) 2 rfl rfl (by omega) _ rfl) (Nat.le_refl _) HM.out))).mono ?_
  rintro e w1 ⟨v0, rfl, hR, hb⟩
  have hW1 : Below W.heap.size W w1 := below_step (below_alloc (Below.refl _ W) _) hb
  have hbs := hb.size
  have ho := Kd.own_of_R hR
  obtain ⟨A', c', hv, hc', _⟩ := Kd.R_reads hR
  subst hv
  have hcell : w1.cell? ⟨w.heap.size + 1, 0, none⟩ = some (.slice A q.length c) := (hW1.cell (p := ⟨w.heap.size + 1, 0, none⟩) hlt).trans hc
  have hfr : w1.frozen? ⟨w.heap.size + 1, 0, none⟩ = false := (hW1.frozen (p := ⟨w.heap.size + 1, 0, none⟩) hlt).trans hf
  have HO := Aside0.mk ho
  have HR := Aside0.mk hR
  have HW1 := Aside0.mk hW1
  have HC' := Aside0.mk hc'
  clear ho hR hW1 hc' hb
  gi_wp2
  have hbase : ∀ g, (Value.slice A' r.length c').ownBlock = some g → g ≠ w.heap.size + 1 := fun g hg e => by
   have := own_base HO.out g hg
   simp at this; omega
  have ho2 := own_move (w1 := w1.setCell ⟨w.heap.size + 1, 0, none⟩ (.slice A' r.length c')) HO.out (fun g hg => Below.heap_setCell w1 ⟨w.heap.size + 1, 0, none⟩ _ g (hbase g hg))
  obtain ⟨A2, c2, hv2, _, hC2⟩ := Kd.R_reads (Kd.R_of_own (h1 := fun _ => rfl) ho2 (ok := fun _ => True) (fun _ _ => trivial))
  obtain ⟨rfl, _, rfl⟩ : A' = A2 ∧ r.length = r.length ∧ c' = c2 := by injection hv2 with a b c; exact ⟨a, b, c⟩
  refine ⟨((keepsOthers_below HW1.out).trans (KeepsOthers.setCell _ _ _)).from _, ?_, ⟨r, A', c', ?_, ?_, reads_of_C hC2, HC'.out, ?_⟩, ?_⟩
  ·exact (HW1.out.mono (by omega)).setCell (p := ⟨w.heap.size + 1, 0, none⟩) (by show w.heap.size ≤ w.heap.size + 1; omega) _
  ·exact World.cell?_setCell_same' _ _ _ (by rw [hcell]; rfl)
  ·rw [World.frozen?_setCell]; exact hfr
  ·rw [prodL_snoc, HQ.out, Option.bind_some, HM.out]; rfl
  ·exact (HB.out.trans (HW1.out.mono (by omega))).setCell (p := ⟨w.heap.size + 1, 0, none⟩) (by show w.heap.size ≤ w.heap.size + 1; omega) _
 case done =>
  rintro D ys W hD rfl ⟨⟨q, A, c, hc, hf, hr, hqc, hq⟩, hB⟩ hK
  rw [hp] at hq
  obtain rfl := Option.some.inj hq
  obtain ⟨q', hq', hql⟩ := prodL_tot hk ys [1] (by simp; omega)
  rw [hp] at hq'
  obtain rfl := Option.some.inj hq'
  have hpl : p.length ≤ 41 := by simp at hql; omega
  have hD2 : w.heap.size + 1 + 1 < D := by omega
  have HC := Aside0.mk (C_of_ReadsInt hr)
  have HB := Aside0.mk hB
  have HQC := Aside0.mk hqc
  have HK := Aside0.mk hK
  clear hr hq' hql hB hqc hK hp hI0 hstop e0 e1 e2 b0 b1 b2 hbW hE hxs hsz hW0 hf hD
  refine (‹∀ (a : Act) (w : World), Code.wpIn _ _ _ _ _ a w → _› _ _ (wpIn_wide.2 ?_))
  obtain ⟨m, hm⟩ : ∃ m : Nat, m = p.length / 8 + 1 := ⟨_, rfl⟩
  have HM := Aside0.mk hm
  clear hm
  go_wp2_with (first | ((with_reducible refine gate_dst (N := 23) rfl ?_); refine Kd.R_make (Kd.int .u8) W.heap.size 5 rfl (N := 23) rfl 26 _ _ rfl ((p.length : Int) / 8 + 1) rfl rfl Try.underlying26 (.int .u8 0) 1 ginfo_u8 rfl (by decide) (by omega) 0 (ok := fun _ => True) (okp := fun _ => True) rfl (fun _ hk => hk) trivial (by omega) (by omega) (Below.refl _ _) (Nat.le_refl _) ?_; intro v w5 ho6 hb hg_ hnew_; obtain ⟨g, cap, rfl, hg1, hg2, hg3, ho7⟩ := made_formb ho6 hnew_ (show ((p.length : Int) / 8 + 1).toNat = m by have := HM.out; omega); have HO := Aside0.mk ho7; have HBB := Aside0.mk hb; have HG := Aside0.mk hg2; have hc5 : w5.cell? ⟨w.heap.size + 1, 0, none⟩ = some (.slice A p.length c) := (hb.cell (p := ⟨w.heap.size + 1, 0, none⟩) (World.block_lt_of_cell? W _ hc)).trans hc; clear ho6 ho7 hb hg_ hnew_ hg1 hg2 hg3))
  have HC5 := Aside0.mk (Kd.C_below HC.out HBB.out)
  clear hc5
  go_loopw [26] (fun i wr => ∃ (j : Nat) (l : List Int), j ≤ p.length ∧ i = .int .i64 (j : Int) ∧ Aside0 (wr.ownsRow W.heap.size 5 1 (.slice (some ⟨g, 0, none⟩) m cap) m (encs (Value.int .u8) l)) ∧ Aside0 (orL p j (List.replicate m 0) = l) ∧ Aside0 (Below W.heap.size W wr) ∧ Aside0 (l.length = m)) (fun i _ => p.length - (intOf i).toNat)
  case atStart => exact ⟨0, List.replicate m 0, Nat.zero_le _, rfl, HO, ⟨rfl⟩, HBB, ⟨by simp⟩⟩
  case round =>
   obtain ⟨j, l, hj, rfl, HS, HL, HB2, HLM⟩ := hrel
   by_cases hlt : j < p.length
   ·obtain ⟨ad, hA, hx0⟩ := Kd.at_int (Kd.C_below HC.out HB2.out) (j : Int) (by omega) (by omega)
    have hx : wr.cell? (ad.add j) = some (.int .i64 p[j]) := by
     rw [Int.toNat_natCast] at hx0
     rw [hx0]; simp [rd, List.getElem?_eq_getElem hlt]
    have hjm : j / 8 < m := by have := HM.out; omega
    have hs : wr.ownsRow W.heap.size 5 1 (.slice (some ⟨g, 0, none⟩) l.length cap) l.length (encs (Value.int .u8) l) := by rw [HLM.out]; exact HS.out
    have hy := own_at_of (enc := Value.int .u8) (d := (0 : Int)) hs ((j / 8 : Nat) : Int) (by omega) (by rw [HLM.out]; omega)
    have hgj : wr.cell? ⟨g, j / 8, none⟩ = some (.int .u8 (l.getD (j / 8) 0)) ∧ wr.frozen? ⟨g, j / 8, none⟩ = false := by
     rw [Int.toNat_natCast] at hy
     exact ⟨hy.1, hy.2⟩
    obtain ⟨hg1, hg2⟩ := hgj
    have HX := Aside0.mk hx
    have HS2 := Aside0.mk hs
    subst hA
    have i1 : ((j : Int) / 8).toNat = j / 8 := by omega
    have i2 : 0 ≤ (j : Int) / 8 := by omega
    have i3 : (j : Int) / 8 < (m : Int) := by omega
    have i4 : 0 ≤ (j : Int) % 8 := by omega
    have hlt' : decide ((j : Int) < (p.length : Int)) = true := decide_eq_true (by omega)
    obtain ⟨y, hy1⟩ : ∃ y, y = l.getD (j / 8) 0 := ⟨_, rfl⟩
    rw [← hy1] at hg1
    have HY := Aside0.mk hy1
    obtain ⟨a, ha⟩ : ∃ a, a = p[j] := ⟨_, rfl⟩
    rw [← ha] at hx
    have HA := Aside0.mk ha
    clear hx0 hy hs hy1 ha
    go_wp2_with fail
    go_region
    go_wp2
    go_roundw
    case rel =>
     have h1 := own_store_of (enc := Value.int .u8) HS2.out ((j / 8 : Nat) : Int) (Go.bits .or .u8 y (wrap64 (a * 2 ^ (j % 8)) % 256))
     rw [Int.toNat_natCast] at h1
     refine ⟨j + 1, l.set (j / 8) (Go.bits .or .u8 y (wrap64 (a * 2 ^ (j % 8)) % 256)), by omega, by go_num, ⟨?_⟩, ⟨?_⟩, ⟨?_⟩, ⟨by rw [List.length_set]; exact HLM.out⟩⟩
     ·have h2 := h1.1
      rw [HLM.out] at h2
      exact own_move h2 (fun _ _ => rfl)
     ·unfold orL
      rw [HL.out, HY.out, HA.out]
      simp [List.getD_eq_getElem?_getD, List.getElem?_eq_getElem hlt]
     ·have hgb : W.heap.size ≤ g := own_base HS2.out g (by simp [Value.ownBlock])
      exact below_drew1 (HB2.out.setCell (p := ⟨g, j / 8, none⟩) hgb _)
    case measure => simp [intOf]; omega
   ·have hje : j = p.length := by omega
    subst hje
    have hlt' : decide ((p.length : Int) < (p.length : Int)) = false := by simp
    clear hlt
    have hl := HLM.out
    subst hl
    have hC := (C_of_own9 HS.out)
    have hcap := hC.2
    have HN := Aside0.mk hC.1
    clear hC
    go_wp2_with (first | (go_at_call 64; have Hq := Aside0.mk (normb_calls (some ⟨g, 0, none⟩) cap l _ HN.out hcap); refine Hq.out.mono ?_; rintro e w'' ⟨mm, hmm, rfl, hz, hn0, rfl⟩; have HZ := Aside0.mk hz; have HNN := Aside0.mk hn0; clear hz hn0 Hq))
    have hKw : wr.heap[D]? = some (.deferred (some [])) := blk_below HK.out HB2.out
    refine ⟨by simp, .inl ⟨_, _, rfl, run_takeDeferred hKw, ?_⟩⟩
    refine ⟨_, results_tmp rfl _ _ _, _, rfl, ?_, ?_⟩
    ·obtain ⟨h1, h2⟩ := cutb HS.out hmm HZ.out HNN.out
     have hDW : D < W.heap.size := blk_lt HK.out
     have h3 : (wr.putObj D (.deferred none)).ownsRow W.heap.size 5 1 (.slice (some ⟨g, 0, none⟩) (fin l).length cap) (fin l).length (encs (Value.int .u8) (fin l)) := own_move h2 (fun k hk => World.putObj_heap_other (fun e => by have := own_base h2 k hk; omega))
     have h4 : orL p p.length (List.replicate (p.length / 8 + 1) 0) = l := by rw [← HM.out]; exact HL.out
     rw [h4]
     have h5 := Kd.R_of_own (h1 := fun _ => rfl) (own_weaken h3 HB.out.size) (ok := fun _ => True) (fun _ _ => trivial)
     rw [← h1] at h5
     exact h5
    ·exact (below_then HB.out HB.out.size HB2.out).trans (belowK_b (w := w) (Nat.le_refl _) wr D _ _ (by omega) hKw rfl rfl)
 case stop =>
  rintro D c pre W _ _ h _
  exact h.elim
theorem conjL_mono {m m' : Int → Int → Option (Int × Int)} (h : ∀ a b, LeO (m a b) (m' a b)) (first : Int) : ∀ (n : Nat) (x : Int), LeO (conjL m first n x) (conjL m' first n x)
 | 0, _ => LeO.none _
 | n + 1, x => by
  unfold conjL
  exact LeO.bind (h x x) (fun y => LeO.ite (LeO.refl _) (LeO.bind (conjL_mono h first n y.1) (fun l => LeO.refl _)))
theorem prodL_mono (k : Nat) : ∀ (xs p : List Int), LeO (prodL k xs p) (prodL (k + 1) xs p)
 | [], _ => LeO.refl _
 | x :: xs, p => by
  unfold prodL
  exact LeO.bind (poly_Mul.mono _ _ _) (fun r => prodL_mono k xs r.1)
def bpoly_Minimal.f (k : Nat) (a0 : Int) : Option (List Int) := if 100 ≤ k then ((gf_Exp.f k a0).bind fun x0 => (conjL (gf_Mul.f k) x0 20 x0).bind fun xs => if xs.length ≤ 20 then ((prodL k xs [1]).bind fun p => some (fin (orL p p.length (List.replicate (p.length / 8 + 1) 0)))) else none) else none
theorem bpoly_Minimal.mono : ∀ a0 k, LeO (bpoly_Minimal.f k a0) (bpoly_Minimal.f (k + 1) a0) := by
 intro a0 k
 unfold bpoly_Minimal.f
 by_cases h : 100 ≤ k
 ·rw [if_pos h, if_pos (by omega)]
  exact LeO.bind (gf_Exp.mono _ _) (fun x0 => LeO.bind (conjL_mono (fun a b => gf_Mul.mono _ _ _) _ _ _) (fun xs => LeO.ite (LeO.bind (prodL_mono _ _ _) (fun p => LeO.refl _)) (LeO.refl _)))
 ·rw [if_neg h]; exact LeO.none _
theorem bpoly_Minimal.calls (k : Nat) (a0 : Int) (r : List Int) (w : World) (h : bpoly_Minimal.f k a0 = some r) :
  Calls Try.prog 63 #[.int .i64 a0] w fun e w' => ∃ v0_ : Value, e = .returned (v0_) ∧ Kd.R (Kd.int .u8) 5 w' w.heap.size (fun _ => True) v0_ r ∧ Below w.heap.size w w' := by
 unfold bpoly_Minimal.f at h
 by_cases hk : 100 ≤ k
 ·rw [if_pos hk] at h
  obtain ⟨x0, hx, h⟩ := Option.bind_eq_some_iff.1 h
  obtain ⟨xs, hxs, h⟩ := Option.bind_eq_some_iff.1 h
  by_cases hl : xs.length ≤ 20
  ·rw [if_pos hl] at h
   obtain ⟨p, hp, h⟩ := Option.bind_eq_some_iff.1 h
   obtain rfl := Option.some.inj h
   exact min_calls k hk a0 x0 xs p hx hxs hl hp w
  ·rw [if_neg hl] at h; exact absurd h (by simp)
 ·rw [if_neg hk] at h; exact absurd h (by simp)
end
mutual
def bpoly_Generator.j0 : Nat → Int → Bool → Option (List Int × Int)
 | 0, _, _ => none
 | k + 1, x0, x11 => if x11 = true then (some (([] : List Int), 1)) else (bpoly_Generator.l0 k x0 (([1] : List Int)) 1)
def bpoly_Generator.l0 : Nat → Int → List Int → Int → Option (List Int × Int)
 | 0, _, _, _ => none
 | k + 1, x0, x4, x5 => if x5 < (wrap64 (2 * x0)) then ((bpoly_Minimal.f k x5).bind fun t268 => ((bpoly_Mul.f k x4 t268).bind fun t271 => (bpoly_Generator.l0 k x0 t271 (wrap64 (x5 + 2))))) else (some (x4, 0))
end
def bpoly_Generator.f (k : Nat) (a0 : Int) : Option (List Int × Int) := if a0 < 1 then (bpoly_Generator.j0 k a0 true) else (bpoly_Generator.j0 k a0 (decide (a0 > 8)))
theorem bpoly_Generator.mono_l : ∀ k, (∀ y0 y1, LeO (bpoly_Generator.j0 k y0 y1) (bpoly_Generator.j0 (k + 1) y0 y1)) ∧ (∀ y0 y1 y2, LeO (bpoly_Generator.l0 k y0 y1 y2) (bpoly_Generator.l0 (k + 1) y0 y1 y2))
 | 0 => ⟨fun _ _ r h => by simp [bpoly_Generator.j0] at h, fun _ _ _ r h => by simp [bpoly_Generator.l0] at h⟩
 | k + 1 => by
  obtain ⟨ih0, ih1⟩ := bpoly_Generator.mono_l k
  refine ⟨?_, ?_⟩
  ·intro y0 y1
   unfold bpoly_Generator.j0
   repeat' first
   | (with_reducible exact ih0 _ _)
   | (with_reducible exact ih1 _ _ _)
   | (with_reducible exact bpoly_Minimal.mono _ _)
   | (with_reducible exact bpoly_Mul.mono _ _ _)
   | (with_reducible exact LeO.refl _)
   | (with_reducible exact LeO.none _)
   | (with_reducible refine LeO.ite ?_ ?_)
   | (with_reducible refine LeO.bind ?_ (fun _ => ?_))
   | exact ih0 _ _
   | exact ih1 _ _ _
   | exact bpoly_Minimal.mono _ _
   | exact bpoly_Mul.mono _ _ _
   | exact LeO.none _
   | refine LeO.ite ?_ ?_
   | refine LeO.bind ?_ (fun _ => ?_)
  ·intro y0 y1 y2
   unfold bpoly_Generator.l0
   repeat' first
   | (with_reducible exact ih0 _ _)
   | (with_reducible exact ih1 _ _ _)
   | (with_reducible exact bpoly_Minimal.mono _ _)
   | (with_reducible exact bpoly_Mul.mono _ _ _)
   | (with_reducible exact LeO.refl _)
   | (with_reducible exact LeO.none _)
   | (with_reducible refine LeO.ite ?_ ?_)
   | (with_reducible refine LeO.bind ?_ (fun _ => ?_))
   | exact ih0 _ _
   | exact ih1 _ _ _
   | exact bpoly_Minimal.mono _ _
   | exact bpoly_Mul.mono _ _ _
   | exact LeO.none _
   | refine LeO.ite ?_ ?_
   | refine LeO.bind ?_ (fun _ => ?_)
theorem bpoly_Generator.mono : ∀ a0 k, LeO (bpoly_Generator.f k a0) (bpoly_Generator.f (k + 1) a0) := by
 intro a0 k
 obtain ⟨ih0, ih1⟩ := bpoly_Generator.mono_l k
 unfold bpoly_Generator.f
 repeat' first
   | (with_reducible exact ih0 _ _)
   | (with_reducible exact ih1 _ _ _)
   | (with_reducible exact bpoly_Minimal.mono _ _)
   | (with_reducible exact bpoly_Mul.mono _ _ _)
   | (with_reducible exact LeO.refl _)
   | (with_reducible exact LeO.none _)
   | (with_reducible refine LeO.ite ?_ ?_)
   | (with_reducible refine LeO.bind ?_ (fun _ => ?_))
   | exact ih0 _ _
   | exact ih1 _ _ _
   | exact bpoly_Minimal.mono _ _
   | exact bpoly_Mul.mono _ _ _
   | exact LeO.none _
   | refine LeO.ite ?_ ?_
   | refine LeO.bind ?_ (fun _ => ?_)
set_option maxHeartbeats 8000000 in
set_option maxRecDepth 100000 in
theorem bpoly_Generator.calls (k : Nat) (a0 : Int) (r1 : List Int) (r2 : Int) (w : World) (h : bpoly_Generator.f k a0 = some (r1, r2)) :
  Calls Try.prog 48 #[.int .i64 a0] w fun e w' => ∃ v0_ : Value, e = .returned (.tuple #[v0_, .int .i64 r2]) ∧ Kd.V (Kd.int .u8) 5 w' w.heap.size (fun k_ => (w.heap.size ≤ k_)) v0_ r1 ∧ Below w.heap.size w w' := by
 have HB := Aside0.mk (Below.refl w.heap.size w)
 have H := h
 unfold bpoly_Generator.f at H
 clear h
 have HC2 := Aside0.mk H
 clear H
 go_enter Try.func48, Try.ntmps48
 go_upto_region 1 with (fail)
 go_cut [11] (fun v11 wc => ∃ (kq : Nat) (x11_1 : Bool), v11 = .bool x11_1 ∧ Aside0 (bpoly_Generator.j0 kq a0 x11_1 = some (r1, r2)) ∧ Aside0 (kq ≤ k) ∧ Aside0 (Below w.heap.size w wc))
 case first =>
  have H := HC2.out
  clear HC2
  by_cases c3 : a0 < 1
  ·rw [if_pos c3] at H
   have c3b0 : decide (a0 < 1) = true := decide_eq_true c3
   clear c3
   (first | rw [c3b0] | (simp only [i64_w, i32_w]; rw [c3b0]) | skip)
   have H' := Aside0.mk H
   clear H
   go_wp2
   go_meet
   case rel => exact ⟨_, (true), rfl, H', ⟨by omega⟩, ⟨uB HB.out⟩⟩
  ·rw [if_neg c3] at H
   have c3b0 : decide (a0 < 1) = false := decide_eq_false c3
   clear c3
   (first | rw [c3b0] | (simp only [i64_w, i32_w]; rw [c3b0]) | skip)
   have H' := Aside0.mk H
   clear H
   go_wp2
   go_meet
   case rel => exact ⟨_, (decide (a0 > 8)), rfl, H', ⟨by omega⟩, ⟨uB HB.out⟩⟩
 case rest =>
  clear HC2
  obtain ⟨kq, x11_1, rfl, HA, HJ1, HB⟩ := hcut
  cases kq with
  | zero => exact absurd HA.out (by simp [bpoly_Generator.j0])
  | succ kj1 =>
   have H := HA.out
   clear HA
   simp only [bpoly_Generator.j0] at H
   by_cases c4 : x11_1 = true
   ·subst c4
    replace H := uI rfl H
    simp only [Option.some.injEq, Prod.mk.injEq] at H
    obtain ⟨rfl, rfl⟩ := H
    go_wp2
    go_ret2
    exact ⟨_, by first | rfl | (simp [errW_none, errW_some] <;> rfl) | (simp [*, errW_none, errW_some] <;> rfl), Kd.R_V (base := 0) (by first | exact Kd.R_nil _ _ _ _ _ | exact Kd.N_nil _ _ _ _ _ | exact Kd.V_nil _ _ _ _ _ | exact Kd.Q_nil _ _ _ _ _ | exact Kd.S_nil _ _ _ _ _), uB HB.out⟩
   ·replace c4 := Bool.eq_false_iff.mpr c4
    subst c4
    replace H := uJ uN0 H
    obtain ⟨y265, Ny265⟩ := uEA ((([1] : List Int)) : List Int)
    rw [← Ny265.out] at H
    have H' := Aside0.mk H
    clear H
    go_wp2_with (first | ((with_reducible refine gate_dst (N := 12) rfl ?_); refine Kd.R_lit (Kd.int .u8) _ 5 ?hg (N := 12) ?hd (xs := ([1] : List Int)) (inner := [.int .u8 1]) (ok := fun _ => True) (okp := fun _ => True) ?hr ?hp (fun _ hk => hk) trivial (Below.refl _ _) (Nat.le_refl _) (by simp) ?_; (case hd => rfl); (case hg => rfl); (case hr => first | (go_simp; done) | (go_simp; rfl)); (case hp => exact (Reps.one (show Kd.M (Kd.int .u8) _ _ _ 1 [.int .u8 1] from rfl) (Reps.none _ _))); intro v266 w5 ho6 hb hg_ hnew_; clear hg_ hnew_; (first | rw [← Ny265.out] at ho6 | (simp only [Int.reduceToNat] at ho6; rw [← Ny265.out] at ho6)); have HO267 := uA (Kd.R_lower (Kd.R_newM (M := fun k_ => (w.heap.size ≤ k_)) ho6 (below_size (uB HB.out)) (fun k_ h_ => h_)) (below_size (uB HB.out))); replace HB := uBb HB hb; clear hb ho6))
    go_loopg [4, 5] kj1 (fun kq v4 v5 w' => ∃ (x4_2 : List Int) (x5_2 : Int), v5 = .int .i64 x5_2 ∧ Aside0 (bpoly_Generator.l0 kq a0 x4_2 x5_2 = some (r1, r2)) ∧ Aside0 (kq ≤ kj1) ∧ Aside0 (Kd.V (Kd.int .u8) 5 w' w.heap.size (fun k_ => (w.heap.size ≤ k_)) v4 x4_2) ∧ Aside0 (Below w.heap.size w w'))
    case atStart => exact ⟨(y265), (1), rfl, H', ⟨Nat.le_refl _⟩, ⟨Kd.R_V (by (with_reducible repeat (first | apply Kd.R_alloc | apply Kd.R_drewN | apply Kd.R_drew)); exact Kd.R_mono HO267.out (fun _ hk => hk.1))⟩, ⟨uB HB.out⟩⟩
    case round =>
     clear H'
     obtain ⟨x4_2, x5_2, rfl, HA, HK2, HO_4, HB⟩ := hrel
     cases gk with
     | zero => exact absurd HA.out (by simp [bpoly_Generator.l0])
     | succ k2 =>
      have H := HA.out
      clear HA
      simp only [bpoly_Generator.l0] at H
      by_cases c7 : x5_2 < (wrap64 (2 * a0))
      ·rw [if_pos c7] at H
       have c7b0 : decide (x5_2 < (wrap64 (2 * a0))) = true := decide_eq_true c7
       clear c7
       obtain ⟨t268, A8, H⟩ := uO H
       obtain ⟨t271, A9, H⟩ := uO H
       have H' := Aside0.mk H
       clear H
       go_wp2_with (first | ((with_reducible refine gate_callee (f := 63) rfl ?_); refine uG (some 21) Try.func63 #[.int .i64 x5_2] ?_; (with_reducible refine (bpoly_Minimal.calls k2 x5_2 t268 _ A8.out).mono ?_); rintro e w10 ⟨v269, rfl, ho0, hb⟩; refine ⟨_, rfl, ?_⟩; replace HO_4 := uA (Kd.V_elder' (uV HO_4.out) (Kd.R_base ho0) hb); have HO270 := uA (Kd.R_lower (Kd.R_newM (M := fun k_ => (w.heap.size ≤ k_)) ho0 (below_size (uB HB.out)) (fun k_ h_ => h_)) (below_size (uB HB.out))); replace HB := uBb HB hb; obtain ⟨Ao11, co11, eo11⟩ := Kd.V_slice HO_4.out; subst eo11; obtain ⟨Ao12, co12, eo12⟩ := Kd.R_slice HO270.out; subst eo12) | ((with_reducible refine gate_callee (f := 50) rfl ?_); refine uG (some 22) Try.func50 #[.slice Ao11 x4_2.length co11, .slice Ao12 t268.length co12] ?_; (with_reducible refine (bpoly_Mul.calls k2 _ _ x4_2 _ _ t268 t271 _ ?side1 ?side2 ?side3 ?side4 A9.out).mono ?_); (case side1 => exact uC (Kd.V_reads' HO_4.out).2.2); (case side2 => exact (Kd.V_reads' HO_4.out).2.1); (case side3 => exact uC (Kd.R_reads' HO270.out).2.2); (case side4 => exact (Kd.R_reads' HO270.out).2.1); rintro e w13 ⟨v272, rfl, ho0, hb⟩; refine ⟨_, rfl, ?_⟩; replace HO_4 := uVb HO_4 hb; have HO273 := uA (Kd.V_lower (Kd.V_mono (ok' := fun k_ => (w.heap.size ≤ k_) ∧ some k_ ≠ (.slice Ao12 t268.length co12 : Value).ownBlock) ho0 (fun k_ hk_ => ⟨(Nat.le_trans (below_size (uB HB.out)) hk_), (Kd.fresh' (Kd.R_lt (uR HO270.out)) k_ hk_)⟩)) (below_size (uB HB.out))); replace HO270 := uRb HO270 hb; replace HB := uBb HB hb))
       go_roundg k2
       case measure => have := HJ1.out; have := HK2.out; omega
       case rel => exact ⟨(t271), (wrap64 (x5_2 + 2)), rfl, H', ⟨by have := HJ1.out; have := HK2.out; omega⟩, ⟨by (with_reducible repeat (first | apply Kd.V_alloc | apply Kd.V_drewN | apply Kd.V_drew)); exact Kd.V_mono HO273.out (fun _ hk => hk.1)⟩, ⟨uB HB.out⟩⟩
      ·rw [if_neg c7] at H
       have c7b0 : decide (x5_2 < (wrap64 (2 * a0))) = false := decide_eq_false c7
       clear c7
       simp only [Option.some.injEq, Prod.mk.injEq] at H
       obtain ⟨rfl, rfl⟩ := H
       go_wp2
       go_ret2
       exact ⟨_, by first | rfl | (simp [errW_none, errW_some] <;> rfl) | (simp [*, errW_none, errW_some] <;> rfl), by (with_reducible repeat (first | apply Kd.V_alloc | apply Kd.V_drewN | apply Kd.V_drew)); exact HO_4.out, uB HB.out⟩
def bits_Len8.f (a0 : Int) : Option Int := if 0 ≤ a0 then (if a0 ≤ 255 then some ((Lib.bitLen a0.toNat : Nat) : Int) else none) else none
theorem bits_Len8.calls (a0 : Int) (r : Int) (w : World) (h : bits_Len8.f a0 = some r) :
  Calls Try.prog 77 #[.int .u8 a0] w fun e w' => e = .returned (.int .i64 r) ∧ Drawn0 w w' := by
 unfold bits_Len8.f at h
 by_cases h0 : 0 ≤ a0
 ·rw [if_pos h0] at h
  by_cases h1 : a0 ≤ 255
  ·rw [if_pos h1] at h
   obtain rfl := Option.some.inj h
   have hw : wrap64 (Lib.len8 a0) = ((Lib.bitLen a0.toNat : Nat) : Int) := by unfold wrap64; exact Lib.len8_int a0 h0 h1
   rw [← hw]
   clear hw
   clear h
   go_enter Try.func77, Try.ntmps77
   go_wp2
   go_ret
   refine ⟨?_, Drawn0.refl _⟩
   show Ending.returned (Value.int .i64 (wrap64 (Lib.len8 a0))) = _
   rfl
  ·rw [if_neg h1] at h; exact absurd h (by simp)
 ·rw [if_neg h0] at h; exact absurd h (by simp)
def bpoly_Degree.f (k : Nat) (l0 : List Int) : Option (Int) := (bpoly_norm.f k l0).bind fun t274 => (if (t274.length : Int) = 0 then (some (-1)) else (if 0 ≤ (wrap64 ((t274.length : Int) - 1)) then (if (wrap64 ((t274.length : Int) - 1)) < (t274.length : Int) then ((bits_Len8.f (rd t274 (wrap64 ((t274.length : Int) - 1)))).bind fun t278 => (some (wrap64 ((wrap64 ((wrap64 ((wrap64 (8 * (t274.length : Int))) - 8)) + t278)) - 1)))) else (none)) else (none)))
theorem bpoly_Degree.mono : ∀ a0 k, LeO (bpoly_Degree.f k a0) (bpoly_Degree.f (k + 1) a0) := by
 intro a0 k
 unfold bpoly_Degree.f
 repeat' first
   | (with_reducible exact bpoly_norm.mono _ _)
   | (with_reducible exact LeO.refl _)
   | (with_reducible exact LeO.none _)
   | (with_reducible refine LeO.ite ?_ ?_)
   | (with_reducible refine LeO.bind ?_ (fun _ => ?_))
   | exact bpoly_norm.mono _ _
   | exact LeO.none _
   | refine LeO.ite ?_ ?_
   | refine LeO.bind ?_ (fun _ => ?_)
set_option maxHeartbeats 8000000 in
set_option maxRecDepth 100000 in
theorem bpoly_Degree.calls (k : Nat) (A0 : Option Addr) (c0 : Nat) (l0 : List Int) (r : Int) (w : World) (hr0 : Kd.C (Kd.int .u8) w A0 l0.length l0) (hc0 : l0.length ≤ c0) (h : bpoly_Degree.f k l0 = some r) :
  Calls Try.prog 65 #[.slice A0 l0.length c0] w fun e w' => e = .returned (.int .i64 r) ∧ Below w.heap.size w w' := by
 have HR0 := Aside0.mk hr0
 have HC0 := Aside0.mk hc0
 clear hr0 hc0
 have HB := Aside0.mk (Below.refl w.heap.size w)
 have H := h
 unfold bpoly_Degree.f at H
 clear h
 obtain ⟨t274, A2, H⟩ := uO H
 by_cases c3 : (t274.length : Int) = 0
 ·rw [if_pos c3] at H
  have c3b0 : ((t274.length : Int) == 0) = true := beq_iff_eq.mpr c3
  have c3b1 : ((t274.length : Int) != 0) = false := bne_eq_false_iff_eq.mpr c3
  clear c3
  obtain rfl := Option.some.inj H
  go_enter Try.func65, Try.ntmps65
  go_wp2_with (first | ((with_reducible refine gate_callee (f := 64) rfl ?_); refine uG (some 4) Try.func64 #[.slice A0 l0.length c0] ?_; (with_reducible refine (bpoly_norm.calls k (fun k_ => k_ < w.heap.size) _ _ l0 t274 _ ?side1 A2.out).mono ?_); (case side1 => exact Kd.V_mk HC0.out (Kd.F_below (Kd.C_F (Kd.heap_int .u8) HR0.out) (uB HB.out))); rintro e w4 ⟨v275, rfl, ho0, hb⟩; refine ⟨_, rfl, ?_⟩; have HO276 := uA (Kd.V_lower (Kd.V_mono (ok' := fun k_ => True) ho0 (fun k_ hk_ => trivial)) (below_size (uB HB.out))); replace HB := uBb HB hb; obtain ⟨Ao5, co5, eo5⟩ := Kd.V_slice HO276.out; subst eo5))
  go_ret
  exact ⟨rfl, uB HB.out⟩
 ·rw [if_neg c3] at H
  have c3b0 : ((t274.length : Int) == 0) = false := beq_eq_false_iff_ne.mpr c3
  have c3b1 : ((t274.length : Int) != 0) = true := bne_iff_ne.mpr c3
  have c3b2 : ¬ (t274 = []) := fun h_ => c3 (by rw [h_]; rfl)
  obtain ⟨ji6, hji6⟩ : ∃ j_ : Int, (wrap64 ((t274.length : Int) - 1)) = j_ := ⟨_, rfl⟩
  first | rw [hji6] at H | simp only [hji6] at H
  (try rw [hji6] at A2)
  have hji6w : (IntKind.i64.wrap ((t274.length : Int) - 1)) = ji6 := (i64_w _).trans hji6
  by_cases c7 : 0 ≤ (ji6)
  ·rw [if_pos c7] at H
   have c7b0 : decide (0 ≤ (ji6)) = true := decide_eq_true c7
   clear c7
   by_cases c8 : (ji6) < (t274.length : Int)
   ·rw [if_pos c8] at H
    have c8b0 : decide ((ji6) < (t274.length : Int)) = true := decide_eq_true c8
    clear c8
    obtain ⟨t278, A9, H⟩ := uO H
    obtain rfl := Option.some.inj H
    go_enter Try.func65, Try.ntmps65
    go_wp2_with (first | ((with_reducible refine gate_callee (f := 64) rfl ?_); refine uG (some 4) Try.func64 #[.slice A0 l0.length c0] ?_; (with_reducible refine (bpoly_norm.calls k (fun k_ => k_ < w.heap.size) _ _ l0 t274 _ ?side1 A2.out).mono ?_); (case side1 => exact Kd.V_mk HC0.out (Kd.F_below (Kd.C_F (Kd.heap_int .u8) HR0.out) (uB HB.out))); rintro e w10 ⟨v275, rfl, ho0, hb⟩; refine ⟨_, rfl, ?_⟩; have HO276 := uA (Kd.V_lower (Kd.V_mono (ok' := fun k_ => True) ho0 (fun k_ hk_ => trivial)) (below_size (uB HB.out))); replace HB := uBb HB hb; obtain ⟨Ao11, co11, eo11⟩ := Kd.V_slice HO276.out; subst eo11; have p277 : 0 ≤ ((ji6) : Int) := of_decide_eq_true (by first | (with_reducible assumption) | assumption); have q277 : (ji6) < (t274.length : Int) := of_decide_eq_true (by first | (with_reducible assumption) | assumption); obtain ⟨ad277, e277, hx277_0⟩ := Kd.at_int (Kd.V_reads' HO276.out).2.2 (ji6) p277 q277; cases e277; replace p277 := eq_true p277; replace q277 := eq_true q277) | ((with_reducible refine gate_callee (f := 77) rfl ?_); refine goesL_ (some 18) rfl rfl Try.func77 (by kernel_rfl) rfl #[.int .u8 (rd t274 (ji6))] rfl (by (try simp only [List.map_toArray, List.map_cons, List.map_nil]); first | done | (simp only [hji6]; rfl) | rfl | (simp only [List.length_drop, List.length_take]; rfl)) ?_; (with_reducible refine (bits_Len8.calls (rd t274 (ji6)) t278 _ A9.out).mono ?_); rintro e w' ⟨rfl, ⟨nd, rfl⟩⟩; refine ⟨_, rfl, ?_⟩))
    go_ret
    exact ⟨by first | rfl | (simp [errW_none, errW_some] <;> rfl) | (simp only [← hji6]; first | rfl | (simp [errW_none, errW_some] <;> rfl)) | (simp [*, errW_none, errW_some] <;> rfl), uB HB.out⟩
   ·rw [if_neg c8] at H
    cases H
  ·rw [if_neg c7] at H
   cases H
end Go.Proofs.Ytfpdloccmneabaa.P

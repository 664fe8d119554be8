/- What Go functions of the translation come to, as plain functions, and that their calls come to just that. No condition but that the plain function answers. (Written by a program of this session.) -/
import Derived.Test.YtfjmbmlmbchglaaPx0
import Derived.Test.YtfjmbmlmbchglaaPx1
import Derived.Test.YtfjmbmlmbchglaaPx2
namespace Go.Proofs.Ytfjmbmlmbchglaa.P
open Go.RowKit Go.Proofs.YtfjmbmlmbchglaaW.PrintWords Go.Proofs.YtfjmbmlmbchglaaW.PrintLast Go.Proofs.YtfjmbmlmbchglaaW.PrintMore
attribute [local go_sem] max2_int min2_int max_two min_two max_three min_three max_four min_four   -- for this text's walks alone
set_option linter.unusedVariables false
set_option linter.unusedSimpArgs false

/-! ### gf_Inv: function 32 -/
def gf_Inv.f (k : Nat) (a0 : Int) : Option (Int × Int) := (gf_is.f a0).bind fun t134 => (if t134 = true then (if a0 = 0 then (some (0, 20)) else ((gf_pow.f k a0 8190).bind fun t135 => (some (t135, 0)))) else (some (0, 1)))
theorem gf_Inv.mono : ∀ a0 k, LeO (gf_Inv.f k a0) (gf_Inv.f (k + 1) a0) := by
  intro a0 k
  unfold gf_Inv.f
  repeat' first
      | (with_reducible exact gf_pow.mono _ _ _)
      | (with_reducible exact LeO.refl _)
      | (with_reducible exact LeO.none _)
      | (with_reducible refine LeO.ite ?_ ?_)
      | (with_reducible refine LeO.bind ?_ (fun _ => ?_))
      | exact gf_pow.mono _ _ _
      | exact LeO.none _
      | refine LeO.ite ?_ ?_
      | refine LeO.bind ?_ (fun _ => ?_)
set_option maxHeartbeats 8000000 in
set_option maxRecDepth 100000 in
theorem gf_Inv.calls (k : Nat) (a0 : Int) (r1 : Int) (r2 : Int) (w : World) (h : gf_Inv.f k a0 = some (r1, r2)) :
    Calls Try.prog 32 #[.int .i64 a0] w fun e w' => e = .returned (.tuple #[.int .i64 r1, .int .i64 r2]) ∧ Drawn0 w w' := by
  have H : ((gf_is.f a0).bind fun t134 => (if t134 = true then (if a0 = 0 then (some (0, 20)) else ((gf_pow.f k a0 8190).bind fun t135 => (some (t135, 0)))) else (some (0, 1)))) = some (r1, r2) := h
  clear h
  replace H := Option.bind_eq_some_iff.mp H
  obtain ⟨t134, A20, H⟩ := H
  replace H : (if t134 = true then (if a0 = 0 then (some (0, 20)) else ((gf_pow.f k a0 8190).bind fun t135 => (some (t135, 0)))) else (some (0, 1))) = some (r1, r2) := H
  have A2 := Aside0.mk A20
  clear A20
  by_cases c3 : t134 = true
  · subst c3
    have H1 : (if a0 = 0 then (some (0, 20)) else ((gf_pow.f k a0 8190).bind fun t135 => (some (t135, 0)))) = some (r1, r2) := by rw [if_pos rfl] at H; exact H
    clear H
    have H := H1
    clear H1
    by_cases c4 : a0 = 0
    · rw [if_pos c4] at H
      have c4b0 : (a0 == 0) = true := beq_iff_eq.mpr c4
      have c4b1 : (a0 != 0) = false := bne_eq_false_iff_eq.mpr c4
      clear c4
      simp only [Option.some.injEq, Prod.mk.injEq] at H
      obtain ⟨rfl, rfl⟩ := H
      go_enter Try.func32, Try.ntmps32
      go_wp2_with (first | ((with_reducible refine gate_callee (f := 44) rfl ?_); refine goesL_ (some 6) rfl rfl Try.func44 (by kernel_rfl) rfl #[.int .i64 a0] rfl (by (try simp only [List.map_toArray, List.map_cons, List.map_nil]); first | done | rfl | (simp only [List.length_drop, List.length_take]; rfl)) ?_; (with_reducible refine (gf_is.calls a0 true _ A2.out).mono ?_); rintro e w' ⟨rfl, ⟨nd, rfl⟩⟩; refine ⟨_, rfl, ?_⟩))
      go_ret2
      exact ⟨by first | rfl | (simp; done) | (simp [*]; done), by repeat (first | exact Drawn0.refl _ | apply Drawn0.step)⟩
    · rw [if_neg c4] at H
      have c4b0 : (a0 == 0) = false := beq_eq_false_iff_ne.mpr c4
      have c4b1 : (a0 != 0) = true := bne_iff_ne.mpr c4
      replace H := Option.bind_eq_some_iff.mp H
      obtain ⟨t135, A50, H⟩ := H
      replace H : (some (t135, 0)) = some (r1, r2) := H
      have A5 := Aside0.mk A50
      clear A50
      simp only [Option.some.injEq, Prod.mk.injEq] at H
      obtain ⟨rfl, rfl⟩ := H
      go_enter Try.func32, Try.ntmps32
      go_wp2_with (first | ((with_reducible refine gate_callee (f := 44) rfl ?_); refine goesL_ (some 6) rfl rfl Try.func44 (by kernel_rfl) rfl #[.int .i64 a0] rfl (by (try simp only [List.map_toArray, List.map_cons, List.map_nil]); first | done | rfl | (simp only [List.length_drop, List.length_take]; rfl)) ?_; (with_reducible refine (gf_is.calls a0 true _ A2.out).mono ?_); rintro e w' ⟨rfl, ⟨nd, rfl⟩⟩; refine ⟨_, rfl, ?_⟩) | ((with_reducible refine gate_callee (f := 45) rfl ?_); refine goesL_ (some 12) rfl rfl Try.func45 (by kernel_rfl) rfl #[.int .i64 a0, .int .i64 8190] rfl (by (try simp only [List.map_toArray, List.map_cons, List.map_nil]); first | done | rfl | (simp only [List.length_drop, List.length_take]; rfl)) ?_; (with_reducible refine (gf_pow.calls k a0 8190 t135 _ A5.out).mono ?_); rintro e w' ⟨rfl, ⟨nd, rfl⟩⟩; refine ⟨_, rfl, ?_⟩))
      go_ret2
      exact ⟨by first | rfl | (simp; done) | (simp [*]; done), by repeat (first | exact Drawn0.refl _ | apply Drawn0.step)⟩
  · replace c3 := Bool.eq_false_iff.mpr c3
    subst c3
    have H1 : (some (0, 1)) = some (r1, r2) := by rw [if_neg (show ¬ (false = true) by decide)] at H; exact H
    clear H
    have H := H1
    clear H1
    simp only [Option.some.injEq, Prod.mk.injEq] at H
    obtain ⟨rfl, rfl⟩ := H
    go_enter Try.func32, Try.ntmps32
    go_wp2_with (first | ((with_reducible refine gate_callee (f := 44) rfl ?_); refine goesL_ (some 6) rfl rfl Try.func44 (by kernel_rfl) rfl #[.int .i64 a0] rfl (by (try simp only [List.map_toArray, List.map_cons, List.map_nil]); first | done | rfl | (simp only [List.length_drop, List.length_take]; rfl)) ?_; (with_reducible refine (gf_is.calls a0 false _ A2.out).mono ?_); rintro e w' ⟨rfl, ⟨nd, rfl⟩⟩; refine ⟨_, rfl, ?_⟩))
    go_ret2
    exact ⟨by first | rfl | (simp; done) | (simp [*]; done), by repeat (first | exact Drawn0.refl _ | apply Drawn0.step)⟩

/-! ### poly_Div: function 16 -/
/-- rest[i] ^= a, rest in a box. -/
theorem put2_calls (B g i n cap : Nat) (x a : Int) (w : World) (hb : w.cell? ⟨B, 0, none⟩ = some (.slice (some ⟨g, 0, none⟩) n cap)) (hi : i < n) (hm : n ≤ 9223372036854775807) (hx : w.cell? ⟨g, i, none⟩ = some (.int .i64 x)) (hf : w.frozen? ⟨g, i, none⟩ = false) :
    Calls Try.prog 36 #[.int .i64 (i : Int), .int .i64 a, .pointer (some ⟨B, 0, none⟩)] w fun e w' => e = .returned (.tuple #[]) ∧ w' = w.setCell ⟨g, i, none⟩ (.int .i64 (Go.bits .xor .i64 x a)) := by
  go_enter Try.func36, Try.ntmps36
  go_wp2
  go_end0
  exact ⟨rfl, rfl⟩
theorem PutSt.other {w0 : World} {B g cap : Nat} {l : List Int} {w : World} (h : PutSt w0 B g cap l w) (p : Addr) (v : Value) (hp : w0.heap.size ≤ p.block) (h1 : p.block ≠ B) (h2 : p.block ≠ g) : PutSt w0 B g cap l (w.setCell p v) :=
  ⟨(Below.heap_setCell w p v B (fun e => h1 e.symm)).trans h.box, own_move h.row (fun k hk => by
    obtain rfl : g = k := by simpa [Value.ownBlock] using hk
    exact Below.heap_setCell w p v g (fun e => h2 e.symm)), h.below.setCell hp _, h.ge, h.ne⟩
theorem PutSt.gge {w0 : World} {B g cap : Nat} {l : List Int} {w : World} (h : PutSt w0 B g cap l w) : w0.heap.size ≤ g := own_base h.row g (by simp [Value.ownBlock])
theorem PutSt.lift {w0 W : World} {B g cap : Nat} {l : List Int} {w : World} (h : PutSt W B g cap l w) (hb : Below w0.heap.size w0 W) : PutSt w0 B g cap l w :=
  ⟨h.box, own_weaken h.row hb.size, below_then hb hb.size h.below, Nat.le_trans hb.size h.ge, h.ne⟩
theorem PutSt.later {w0 W : World} {B g cap : Nat} {l : List Int} (h : PutSt w0 B g cap l W) {w : World} (hb : Below W.heap.size W w) (hB : B < W.heap.size) (hg : g < W.heap.size) : PutSt w0 B g cap l w :=
  ⟨(hb.block B hB).trans h.box, own_move h.row (fun k hk => by
    obtain rfl : g = k := by simpa [Value.ownBlock] using hk
    exact hb.block g hg), below_then h.below h.below.size hb, h.ge, h.ne⟩
theorem PutSt.short {w0 : World} {B g cap : Nat} {l : List Int} {w : World} (h : PutSt w0 B g cap l w) {m : Nat} (hm : m ≤ l.length) (hz : ∀ j, m ≤ j → l.getD j 0 = 0) (hn : 0 < m → l.getD (m - 1) 0 ≠ 0) :
    PutSt w0 B g cap (fin l) (w.setCell ⟨B, 0, none⟩ (.slice (some ⟨g, 0, none⟩) m cap)) := by
  obtain ⟨h1, h2⟩ := h.cut hm hz hn
  refine ⟨?_, own_move h2 (fun k hk => by
    obtain rfl : g = k := by simpa [Value.ownBlock] using hk
    exact Below.heap_setCell w _ _ g h.ne), h.below.setCell (p := ⟨B, 0, none⟩) h.ge _, h.ge, h.ne⟩
  rw [← h1]
  simp [World.setCell, Array.getElem?_modify, h.box]
theorem PutSt.unfrozen {w0 : World} {B g cap : Nat} {l : List Int} {w : World} (h : PutSt w0 B g cap l w) : w.frozen? ⟨B, 0, none⟩ = false := by
  simp [World.frozen?, h.box]
/-- The quotient and the rest, each in a box. -/
structure DivSt (w0 W : World) (B g cap : Nat) (l : List Int) (BR gR capR : Nat) (r : List Int) (w : World) : Prop where
  q : PutSt w0 B g cap l w
  r : PutSt w0 BR gR capR r w
  far : ∀ b, b < W.heap.size → b ≠ BR → b ≠ gR → w.heap[b]? = W.heap[b]?
  hB : W.heap.size ≤ B
  hg : W.heap.size ≤ g
  hBR : BR < W.heap.size
  hgR : gR < W.heap.size
theorem DivSt.drewN {w0 W : World} {B g cap : Nat} {l : List Int} {BR gR capR : Nat} {r : List Int} {w : World} (h : DivSt w0 W B g cap l BR gR capR r w) (n : Nat) : DivSt w0 W B g cap l BR gR capR r (w.drewN n) :=
  ⟨h.q.drewN n, h.r.drewN n, h.far, h.hB, h.hg, h.hBR, h.hgR⟩
theorem DivSt.cell {w0 W : World} {B g cap : Nat} {l : List Int} {BR gR capR : Nat} {r : List Int} {w : World} (h : DivSt w0 W B g cap l BR gR capR r w) {b : Nat} {v : Value} (hc : W.cell? ⟨b, 0, none⟩ = some v) (h1 : b ≠ BR) (h2 : b ≠ gR) : w.cell? ⟨b, 0, none⟩ = some v := by
  have := h.far b (World.block_lt_of_cell? W _ hc) h1 h2
  rw [← hc]
  simp [World.cell?, this]
theorem DivSt.setQ {w0 W : World} {B g cap : Nat} {l : List Int} {BR gR capR : Nat} {r : List Int} {w : World} (h : DivSt w0 W B g cap l BR gR capR r w) (i : Nat) (x : Int) : DivSt w0 W B g cap (l.set i x) BR gR capR r (w.setCell ⟨g, i, none⟩ (.int .i64 x)) := by
  have h1 := h.hB; have h2 := h.hg; have h3 := h.hBR; have h4 := h.hgR
  exact ⟨h.q.set i x, h.r.other _ _ h.q.gge (show g ≠ BR by omega) (show g ≠ gR by omega), fun b hb e1 e2 => (Below.heap_setCell w _ _ b (show b ≠ g by omega)).trans (h.far b hb e1 e2), h1, h2, h3, h4⟩
theorem DivSt.setR {w0 W : World} {B g cap : Nat} {l : List Int} {BR gR capR : Nat} {r : List Int} {w : World} (h : DivSt w0 W B g cap l BR gR capR r w) (i : Nat) (x : Int) : DivSt w0 W B g cap l BR gR capR (r.set i x) (w.setCell ⟨gR, i, none⟩ (.int .i64 x)) := by
  have h1 := h.hB; have h2 := h.hg; have h3 := h.hBR; have h4 := h.hgR
  exact ⟨h.q.other _ _ h.r.gge (show gR ≠ B by omega) (show gR ≠ g by omega), h.r.set i x, fun b hb e1 e2 => (Below.heap_setCell w _ _ b e2).trans (h.far b hb e1 e2), h1, h2, h3, h4⟩
theorem DivSt.short {w0 W : World} {B g cap : Nat} {l : List Int} {BR gR capR : Nat} {r : List Int} {w : World} (h : DivSt w0 W B g cap l BR gR capR r w) {m : Nat} (hm : m ≤ r.length) (hz : ∀ j, m ≤ j → r.getD j 0 = 0) (hn : 0 < m → r.getD (m - 1) 0 ≠ 0) :
    DivSt w0 W B g cap l BR gR capR (fin r) (w.setCell ⟨BR, 0, none⟩ (.slice (some ⟨gR, 0, none⟩) m capR)) := by
  have h1 := h.hB; have h2 := h.hg; have h3 := h.hBR; have h4 := h.hgR
  exact ⟨h.q.other _ _ h.r.ge (show BR ≠ B by omega) (show BR ≠ g by omega), h.r.short hm hz hn, fun b hb e1 e2 => (Below.heap_setCell w _ _ b e1).trans (h.far b hb e1 e2), h1, h2, h3, h4⟩
theorem put2_st {w0 W : World} {B g cap : Nat} {l : List Int} {BR gR capR : Nat} {r : List Int} {w : World} (h : DivSt w0 W B g cap l BR gR capR r w) (i : Nat) (hi : i < r.length) (a : Int) :
    Calls Try.prog 36 #[.int .i64 (i : Int), .int .i64 a, .pointer (some ⟨BR, 0, none⟩)] w fun e w' => e = .returned (.tuple #[]) ∧ DivSt w0 W B g cap l BR gR capR (r.set i (Go.bits .xor .i64 (r.getD i 0) a)) w' := by
  refine (put2_calls BR gR i r.length capR (r.getD i 0) a w h.r.cells hi h.r.maxl.1 (h.r.at hi).1 (h.r.at hi).2).mono ?_
  rintro e w' ⟨rfl, rfl⟩
  exact ⟨rfl, h.setR i _⟩
theorem putq_st {w0 W : World} {B g cap : Nat} {l : List Int} {BR gR capR : Nat} {r : List Int} {w : World} (h : DivSt w0 W B g cap l BR gR capR r w) (i : Nat) (hi : i < l.length) (a : Int) :
    Calls Try.prog 46 #[.int .i64 (i : Int), .int .i64 a, .pointer (some ⟨B, 0, none⟩)] w fun e w' => e = .returned (.tuple #[]) ∧ DivSt w0 W B g cap (l.set i (Go.bits .xor .i64 (l.getD i 0) a)) BR gR capR r w' := by
  refine (put_calls B g i l.length cap (l.getD i 0) a w h.q.cells hi h.q.maxl.1 (h.q.at hi).1 (h.q.at hi).2).mono ?_
  rintro e w' ⟨rfl, rfl⟩
  exact ⟨rfl, h.setQ i _⟩
set_option maxHeartbeats 1000000 in
theorem lay2_calls (k : Nat) (w0 W : World) (B g cap : Nat) (l : List Int) (BR gR capR : Nat) (A : Option Addr) (c : Nat) (p : List Int) (hr : Kd.C (Kd.int .i64) w0 A p.length p) (from_ : Nat) (by_ : Int) (s r : List Int) (w : World) (hst : DivSt w0 W B g cap l BR gR capR s w) (h : layL (fun a => poly_mul.f k a by_) p from_ s = some r) :
    Calls Try.prog 35 #[.func (.func 36) #[] #[.pointer (some ⟨BR, 0, none⟩)], .slice A p.length c, .int .i64 (from_ : Int), .int .i64 by_] w fun e w' => e = .returned (.tuple #[]) ∧ DivSt w0 W B g cap l BR gR capR r w' := by
  have hpm : p.length ≤ 9223372036854775807 := hr.2.1
  have HR := Aside0.mk hr
  have HS := Aside0.mk hst
  have HL := Aside0.mk h
  clear hr hst h
  go_enter Try.func35, Try.ntmps35
  go_wp2
  go_loopw [12] (fun i w' => ∃ (j : Nat) (lj : List Int), j ≤ p.length ∧ i = .int .i64 (j : Int) ∧ Aside0 (DivSt w0 W B g cap l BR gR capR lj w') ∧ Aside0 (layL (fun a => poly_mul.f k a by_) (p.drop j) (from_ + j) lj = some r)) (fun i _ => p.length - (intOf i).toNat)
  case atStart => exact ⟨0, s, Nat.zero_le _, rfl, HS, HL⟩
  case round =>
    clear HS HL
    obtain ⟨j, lj, hj, rfl, HS, HL⟩ := hrel
    by_cases hlt : j < p.length
    · have hd : p.drop j = p[j] :: p.drop (j + 1) := List.drop_eq_getElem_cons hlt
      have HL' := HL.out
      rw [hd] at HL'
      simp only [layL] at HL'
      obtain ⟨t, ht, HL2⟩ := Option.bind_eq_some_iff.1 HL'
      by_cases hin : from_ + j < lj.length
      · rw [if_pos hin] at HL2
        have HT := Aside0.mk ht
        have HN := Aside0.mk HL2
        have hmx := HS.out.r.maxl.1
        obtain ⟨ad, hA, hx0⟩ := Kd.at_int (Kd.C_below HR.out HS.out.q.below) (j : Int) (by omega) (by omega)
        have hx : wr.cell? (ad.add j) = some (.int .i64 p[j]) := by
          have := hx0
          rw [rd_nat', Int.toNat_natCast] at this
          rw [this]; simp [hlt]
        have HA := Aside0.mk hA
        subst hA
        clear hx0 HL2 HL' ht hd HL
        have hb1 : (from_ : Int) + (j : Int) ≤ 9223372036854775807 := by omega
        generalize p[j] = pj at HT hx
        have hlt' : decide ((j : Int) < (p.length : Int)) = true := decide_eq_true (by omega)
        go_wp2_with (first | (go_at_call 30; (with_reducible refine (poly_mul.calls k pj by_ t _ HT.out).mono ?_); rintro e w' ⟨rfl, ⟨nd, rfl⟩⟩) | (go_at_call 36; have Hq := Aside0.mk (put2_st (HS.out.drewN nd) (from_ + j) hin t); refine Hq.out.mono ?_; rintro e w' ⟨rfl, hs⟩; have HS2 := Aside0.mk hs; clear hs))
        go_roundw
        case rel =>
          refine ⟨j + 1, _, by omega, by go_num, HS2, ?_⟩
          have := HN.out
          rw [show from_ + j + 1 = from_ + (j + 1) from by omega] at this
          exact ⟨this⟩
        case measure => simp [intOf]; omega
      · rw [if_neg hin] at HL2; exact absurd HL2 (by simp)
    · have hje : j = p.length := by omega
      subst hje
      have HL' := HL.out
      rw [List.drop_length] at HL'
      have e := Option.some.inj HL'
      have HE := Aside0.mk e
      clear HL HL' e hlt
      have hlt' : decide ((p.length : Int) < (p.length : Int)) = false := by simp
      go_wp2
      go_end0
      exact ⟨rfl, by rw [← HE.out]; exact HS.out⟩

def divL (m : Int → Int → Option Int) (q : List Int) (lead : Int) : Nat → List Int → List Int → Option (List Int × List Int)
  | 0, _, _ => none
  | n + 1, r, l => if r.length < q.length then some (l, r) else
    (m (r.getD (r.length - 1) 0) lead).bind fun by_ => if r.length - q.length < l.length then (layL (fun a => m a by_) q (r.length - q.length) r).bind fun r' => if (fin r').length < r.length then divL m q lead n (fin r') (l.set (r.length - q.length) (Go.bits .xor .i64 (l.getD (r.length - q.length) 0) by_)) else none else none
theorem divL_mono {m m' : Int → Int → Option Int} (h : ∀ x a, LeO (m x a) (m' x a)) (q : List Int) (lead : Int) : ∀ (n : Nat) (r l : List Int), LeO (divL m q lead n r l) (divL m' q lead n r l)
  | 0, _, _ => LeO.refl _
  | n + 1, r, l => by
    unfold divL
    exact LeO.ite (LeO.refl _) (LeO.bind (h _ _) (fun by_ => LeO.ite (LeO.bind (layL_mono (fun a => h a by_) q _ r) (fun r' => LeO.ite (divL_mono h q lead n _ _) (LeO.refl _))) (LeO.refl _)))
def boxLen (w : World) (b : Nat) : Nat := match w.cell? ⟨b, 0, none⟩ with | some (.slice _ m _) => m | _ => 0
theorem DivSt.boxLen {w0 W : World} {B g cap : Nat} {l : List Int} {BR gR capR : Nat} {r : List Int} {w : World} (h : DivSt w0 W B g cap l BR gR capR r w) : boxLen w BR = r.length := by
  unfold P.boxLen; rw [h.r.cells]
set_option maxHeartbeats 2000000 in
theorem div1_calls (k : Nat) (w0 W : World) (B g cap BR gR capR bq bl : Nat) (A : Option Addr) (c : Nat) (q : List Int) (lead : Int) (hr : Kd.C (Kd.int .i64) w0 A q.length q) (hq1 : 0 < q.length) (hbq : W.cell? ⟨bq, 0, none⟩ = some (.slice A q.length c)) (hbl : W.cell? ⟨bl, 0, none⟩ = some (.int .i64 lead)) (n1 : bq ≠ BR) (n2 : bq ≠ gR) (n3 : bl ≠ BR) (n4 : bl ≠ gR) (n : Nat) (s l lf sf : List Int) (W1 : World) (hst : DivSt w0 W B g cap l BR gR capR s W1) (h : divL (poly_mul.f k) q lead n s l = some (lf, sf)) :
    Calls Try.prog 34 #[.func (.func 46) #[] #[.pointer (some ⟨B, 0, none⟩)], .pointer (some ⟨BR, 0, none⟩), .pointer (some ⟨bq, 0, none⟩), .pointer (some ⟨bl, 0, none⟩)] W1 fun e w' => e = .returned (.tuple #[]) ∧ DivSt w0 W B g cap lf BR gR capR sf w' := by
  have HR := Aside0.mk hr
  have HS := Aside0.mk hst
  have HL := Aside0.mk h
  have HQ := Aside0.mk (fun {l s : List Int} {w : World} (hs : DivSt w0 W B g cap l BR gR capR s w) => hs.cell hbq n1 n2)
  have HLD := Aside0.mk (fun {l s : List Int} {w : World} (hs : DivSt w0 W B g cap l BR gR capR s w) => hs.cell hbl n3 n4)
  clear hr hst h hbq hbl n1 n2 n3 n4
  go_enter Try.func34, Try.ntmps34
  go_wp2
  go_loopw [5] (fun v w' => ∃ (n : Nat) (s l : List Int), Aside0 (DivSt w0 W B g cap l BR gR capR s w') ∧ Aside0 (divL (poly_mul.f k) q lead n s l = some (lf, sf))) (fun _ w' => boxLen w' BR)
  case atStart => exact ⟨n, s, l, HS, HL⟩
  case round =>
    clear HS HL
    obtain ⟨n, s, l, HS, HL⟩ := hrel
    have hc1 := HQ.out HS.out
    have hc2 := HLD.out HS.out
    have hc3 := HS.out.r.cells
    have hmx := HS.out.r.maxl.1
    cases n with
    | zero => exact absurd HL.out (by simp [divL])
    | succ n =>
    by_cases hlt : s.length < q.length
    · have HL' := HL.out
      unfold divL at HL'
      rw [if_pos hlt] at HL'
      have HE := Aside0.mk (Option.some.inj HL')
      clear HL HL'
      have hlt' : decide ((q.length : Int) ≤ (s.length : Int)) = false := decide_eq_false (by omega)
      go_wp2
      go_end0
      have e1 : l = lf := congrArg Prod.fst HE.out
      have e2 : s = sf := congrArg Prod.snd HE.out
      exact ⟨rfl, by rw [← e1, ← e2]; exact HS.out⟩
    · have HL' := HL.out
      unfold divL at HL'
      rw [if_neg hlt] at HL'
      obtain ⟨t, ht, HL2⟩ := Option.bind_eq_some_iff.1 HL'
      by_cases hat : s.length - q.length < l.length
      · rw [if_pos hat] at HL2
        obtain ⟨s', hs', HL3⟩ := Option.bind_eq_some_iff.1 HL2
        by_cases hsh : (fin s').length < s.length
        · rw [if_pos hsh] at HL3
          have HT := Aside0.mk ht
          have HS' := Aside0.mk hs'
          have HN := Aside0.mk HL3
          have HAT := Aside0.mk hat
          have HSH := Aside0.mk hsh
          have hx := (HS.out.r.at (i := s.length - 1) (by omega)).1
          generalize s.getD (s.length - 1) 0 = top at hx HT
          clear HL HL' HL2 HL3 ht hs' hat hsh
          have hlt' : decide ((q.length : Int) ≤ (s.length : Int)) = true := decide_eq_true (by omega)
          have hsub : (s.length : Int) - (q.length : Int) = ((s.length - q.length : Nat) : Int) := by omega
          have hsub1 : (s.length : Int) - 1 = ((s.length - 1 : Nat) : Int) := by omega
          have HS0 := HS
          have Hsub := Aside0.mk hsub
          clear hsub
          have Hp := Aside0.mk hmx
          go_wp2
          repeat (go_quiet (first | (go_at_call 30; (with_reducible refine (poly_mul.calls k top lead t _ HT.out).mono ?_); rintro e w' ⟨rfl, ⟨nd, rfl⟩⟩; (try first | exact ⟨rfl, _, World.drewN_drewN _ _ _⟩ | exact ⟨rfl, _, Eq.trans (World.drewN_drewN _ _ _) (congrArg (World.drewN _) (Nat.add_assoc _ _ _))⟩))))
          try rw [Hsub.out]
          go_wp2_with (first | (go_at_call 46; (try rw [Hsub.out]); have Hq := Aside0.mk (putq_st (HS.out.drewN nq) _ HAT.out t); refine Hq.out.mono ?_; clear Hq; rintro e w' ⟨rfl, hs⟩; have HS1 := Aside0.mk hs; have hb1 := HQ.out hs; have hr1 := hs.r.cells; clear hs))
          refine (lay2_calls k w0 W B g cap _ BR gR capR A c q HR.out _ t s s' _ HS1.out HS'.out).mono ?_
          clear HS1 hb1 hr1 HS hc1 hc2 hc3
          rintro e w2 ⟨rfl, hs⟩
          have HS2 := Aside0.mk hs
          have hr2 := hs.r.cells
          have hf2 := hs.r.unfrozen
          clear hs
          go_wp2_with (first | (go_at_call 31; have Hq := Aside0.mk (norm_calls (some ⟨gR, 0, none⟩) capR s' _ HS2.out.r.reads HS2.out.r.maxl.2); refine Hq.out.mono ?_; clear Hq; rintro e w'' ⟨m, hm, rfl, hz, hn0, rfl⟩; have HM := Aside0.mk hm; have HZ := Aside0.mk hz; have HN0 := Aside0.mk hn0; clear hz hn0 hm))
          have HS3 := Aside0.mk (HS2.out.short HM.out HZ.out HN0.out)
          refine ⟨⟨n, _, _, HS3, HN⟩, ?_⟩
          rw [HS3.out.boxLen, HS0.out.boxLen]
          exact HSH.out
        · rw [if_neg hsh] at HL3; exact absurd HL3 (by simp)
      · rw [if_neg hat] at HL2; exact absurd HL2 (by simp)
set_option maxHeartbeats 1000000 in
theorem build_calls_Div (n : Nat) (w0 W : World) (hW : Below w0.heap.size w0 W) (Z : Nat → World → Prop) (r : List Int) (hn : n ≤ 35184372088832) (b0 b1 b2 : Nat)
    (H : ∀ (B g cap : Nat) (W1 : World), PutSt W B g cap (List.replicate n 0) W1 → Calls Try.prog 34 #[.func (.func 46) #[] #[.pointer (some ⟨B, 0, none⟩)], .pointer (some ⟨b0, 0, none⟩), .pointer (some ⟨b1, 0, none⟩), .pointer (some ⟨b2, 0, none⟩)] W1 fun e w' => e = .returned (.tuple #[]) ∧ PutSt w0 B g cap r w' ∧ Z g w') :
    Calls Try.prog 33 #[.int .i64 (n : Int), .func (.func 34) #[] #[.pointer (some ⟨b0, 0, none⟩), .pointer (some ⟨b1, 0, none⟩), .pointer (some ⟨b2, 0, none⟩)]] W fun e w' => ∃ g cap : Nat, e = .returned (.slice (some ⟨g, 0, none⟩) (fin r).length cap) ∧ w'.ownsRow w0.heap.size 3 1 (.slice (some ⟨g, 0, none⟩) (fin r).length cap) (fin r).length (encs (Value.int .i64) (fin r)) ∧ Below w0.heap.size w0 w' ∧ Z g w' := by
  have HW := Aside0.mk hW
  clear hW
  have HH := Aside0.mk H
  clear H
  go_enter Try.func33, Try.ntmps33
  go_wp2_with (first | ((with_reducible refine gate_dst (N := 7) rfl ?_); refine Kd.R_make (Kd.int .i64) W.heap.size 3 rfl (N := 7) rfl 22 _ _ rfl (n : Int) rfl rfl Try.underlying22 (.int .i64 0) 8 ginfo_int rfl (by decide) (by omega) 0 (ok := fun _ => True) (okp := fun _ => True) rfl (fun _ hk => hk) trivial (by omega) (by rw [Int.toNat_natCast]; omega) (Below.refl _ _) (Nat.le_refl _) ?_; intro v w5 ho6 hb hg_ hnew_; obtain ⟨g, cap, rfl, hg1, hg2, hg3, ho7⟩ := made_form ho6 hnew_; have HO := Aside0.mk ho7; have HB := Aside0.mk hb; have HG := Aside0.mk hg3; clear ho6 ho7 hb hg_ hnew_ hg1 hg2 hg3))
  have HP := Aside0.mk (PutSt.start HO.out HB.out HG.out)
  refine (HH.out w5.heap.size g cap _ HP.out).mono ?_
  clear HP HO HB HG HH
  rintro e w' ⟨rfl, hs, hz⟩
  have HZZ := Aside0.mk hz
  clear hz
  have HS := Aside0.mk hs
  have hbc := hs.cells
  clear hs
  go_wp2_with (first | (go_at_call 31; have Hq := Aside0.mk (norm_calls (some ⟨g, 0, none⟩) cap r w' HS.out.reads HS.out.maxl.2); refine Hq.out.mono ?_; rintro e w'' ⟨m, hm, rfl, hz, hn0, rfl⟩; have HZ := Aside0.mk hz; have HN := Aside0.mk hn0; clear hz hn0 Hq))
  go_ret
  obtain ⟨h1, h2⟩ := HS.out.cut hm HZ.out HN.out
  exact ⟨g, cap, by rw [h1]; rfl, h2, HS.out.below, HZZ.out⟩
def poly_Div.f (k : Nat) (l0 l1 : List Int) : Option (List Int × List Int × Int) := (poly_is.f k [l0, l1]).bind fun b => if b = true then (if fin l1 = [] then some ([], [], 20) else (gf_Inv.f k ((fin l1).getD ((fin l1).length - 1) 0)).bind fun li => (poly_is.f k [l0]).bind fun b0 => if b0 = true then (if l0.length ≤ 35184372088832 then (layL (fun a => poly_mul.f k a 1) l0 0 (List.replicate l0.length 0)).bind fun r0 => (divL (poly_mul.f k) (fin l1) li.1 (l0.length + 1) (fin r0) (List.replicate l0.length 0)).bind fun qr => some (fin qr.1, qr.2, 0) else none) else none) else some ([], [], 1)
theorem poly_Div.mono : ∀ a0 a1 k, LeO (poly_Div.f k a0 a1) (poly_Div.f (k + 1) a0 a1) := by
  intro a0 a1 k
  unfold poly_Div.f
  exact LeO.bind (poly_is.mono _ _) (fun b => LeO.ite (LeO.ite (LeO.refl _) (LeO.bind (gf_Inv.mono _ _) (fun li => LeO.bind (poly_is.mono _ _) (fun b0 => LeO.ite (LeO.ite (LeO.bind (layL_mono (fun a => poly_mul.mono _ _ _) _ _ _) (fun r0 => LeO.bind (divL_mono (fun x a => poly_mul.mono _ _ _) _ _ _ _ _) (fun qr => LeO.refl _))) (LeO.refl _)) (LeO.refl _))))) (LeO.refl _))
set_option maxHeartbeats 2000000 in
theorem poly_Div.calls (k : Nat) (A0 : Option Addr) (c0 : Nat) (l0 : List Int) (A1 : Option Addr) (c1 : Nat) (l1 : List Int) (r1 : List Int) (r2 : List Int) (r3 : Int) (w : World) (hr0 : Kd.C (Kd.int .i64) w A0 l0.length l0) (hc0 : l0.length ≤ c0) (hr1 : Kd.C (Kd.int .i64) w A1 l1.length l1) (hc1 : l1.length ≤ c1) (h : poly_Div.f k l0 l1 = some (r1, r2, r3)) :
    Calls Try.prog 16 #[.slice A0 l0.length c0, .slice A1 l1.length c1] w fun e w' => ∃ v0_ v1_ : Value, e = .returned (.tuple #[v0_, v1_, .int .i64 r3]) ∧ Kd.R (Kd.int .i64) 3 w' w.heap.size (fun k_ => some k_ ≠ (v1_ : Value).ownBlock) v0_ r1 ∧ Kd.R (Kd.int .i64) 3 w' w.heap.size (fun k_ => some k_ ≠ (v0_ : Value).ownBlock) v1_ r2 ∧ Below w.heap.size w w' := by
  have HR := Aside0.mk hr0
  have HC := Aside0.mk hc0
  have HR1 := Aside0.mk hr1
  have HC1 := Aside0.mk hc1
  clear hr0 hc0 hr1 hc1
  unfold poly_Div.f at h
  obtain ⟨b, hb, h'⟩ := Option.bind_eq_some_iff.1 h
  have HI := Aside0.mk hb
  have H := Aside0.mk h'
  clear hb h h'
  go_enter Try.func16, Try.ntmps16
  go_wp2_with fail
  have hB2 : Below w.heap.size w ((w.alloc (.cells #[.slice A1 l1.length c1] 22)).alloc (.cells #[.slice A0 l0.length c0, .slice A1 l1.length c1] 22)) := below_alloc (below_alloc (Below.refl _ _) _) _
  have hc2 : ((w.alloc (.cells #[.slice A1 l1.length c1] 22)).alloc (.cells #[.slice A0 l0.length c0, .slice A1 l1.length c1] 22)).cell? ⟨w.heap.size + 1, 0, none⟩ = some (.slice A0 l0.length c0) := by go_simp
  have hc3 : ((w.alloc (.cells #[.slice A1 l1.length c1] 22)).alloc (.cells #[.slice A0 l0.length c0, .slice A1 l1.length c1] 22)).cell? ⟨w.heap.size + 1, 1, none⟩ = some (.slice A1 l1.length c1) := by go_simp
  have HX := Aside0.mk (C_two HR.out HC.out HR1.out HC1.out hB2 hc2 hc3)
  clear hB2 hc2 hc3
  refine (poly_is.calls k _ 2 [l0, l1] b _ HX.out (Nat.le_refl _) HI.out).mono ?_
  clear HX
  rintro e w' ⟨rfl, ⟨nd, rfl⟩⟩
  have hB3 : Below w.heap.size w (((w.alloc (.cells #[.slice A1 l1.length c1] 22)).alloc (.cells #[.slice A0 l0.length c0, .slice A1 l1.length c1] 22)).drewN nd) := pw_below_drewN (below_alloc (below_alloc (Below.refl _ _) _) _) nd
  have hb3 : (((w.alloc (.cells #[.slice A1 l1.length c1] 22)).alloc (.cells #[.slice A0 l0.length c0, .slice A1 l1.length c1] 22)).drewN nd).cell? ⟨w.heap.size, 0, none⟩ = some (.slice A1 l1.length c1) := by go_simp
  have hf3 : (((w.alloc (.cells #[.slice A1 l1.length c1] 22)).alloc (.cells #[.slice A0 l0.length c0, .slice A1 l1.length c1] 22)).drewN nd).frozen? ⟨w.heap.size, 0, none⟩ = false := by go_simp
  have hs3 : (((w.alloc (.cells #[.slice A1 l1.length c1] 22)).alloc (.cells #[.slice A0 l0.length c0, .slice A1 l1.length c1] 22)).drewN nd).heap.size = w.heap.size + 2 := by go_simp
  generalize ((w.alloc (.cells #[.slice A1 l1.length c1] 22)).alloc (.cells #[.slice A0 l0.length c0, .slice A1 l1.length c1] 22)).drewN nd = W3 at hB3 hb3 hf3 hs3 ⊢
  cases b with
  | false =>
    have h := H.out
    rw [if_neg (by simp)] at h
    simp only [Option.some.injEq, Prod.mk.injEq] at h
    obtain ⟨rfl, rfl, rfl⟩ := h
    have HB := Aside0.mk hB3
    clear hB3 H hb3 hf3 hs3
    go_wp2
    go_ret3
    exact ⟨_, _, rfl, Kd.R_nil _ _ _ _ _, Kd.R_nil _ _ _ _ _, HB.out⟩
  | true =>
    have h := H.out
    rw [if_pos rfl] at h
    have H1 := Aside0.mk h
    clear h H
    have HB3 := Aside0.mk hB3
    have Hs3 := Aside0.mk hs3
    clear hB3 hs3
    go_wp2_with fail
    refine (norm_calls A1 c1 l1 W3 (Kd.C_below HR1.out HB3.out) HC1.out).mono ?_
    rintro e w'' ⟨m, hm, rfl, hz, hn0, rfl⟩
    have hfin : fin l1 = l1.take m := by unfold fin; rw [normN_of hz hn0 l1.length hm]
    have hlen : (fin l1).length = m := by rw [hfin, List.length_take]; omega
    have hm9 : m ≤ 9223372036854775807 := Nat.le_trans hm HR1.out.2.1
    have HM := Aside0.mk hm
    have HF := Aside0.mk hfin
    have HLN := Aside0.mk hlen
    clear hz hn0 hm hfin hlen
    by_cases hm0 : m = 0
    · subst hm0
      have h := H1.out
      rw [if_pos (List.eq_nil_of_length_eq_zero HLN.out)] at h
      simp only [Option.some.injEq, Prod.mk.injEq] at h
      obtain ⟨rfl, rfl, rfl⟩ := h
      clear H1
      go_wp2
      go_ret3
      exact ⟨_, _, rfl, Kd.R_nil _ _ _ _ _, Kd.R_nil _ _ _ _ _, HB3.out.setCell (p := ⟨w.heap.size, 0, none⟩) (Nat.le_refl _) _⟩
    · have h := H1.out
      rw [if_neg (fun e => hm0 (by rw [← HLN.out, e]; rfl))] at h
      obtain ⟨li, hli, h2⟩ := Option.bind_eq_some_iff.1 h
      obtain ⟨b0, hb0, h3⟩ := Option.bind_eq_some_iff.1 h2
      clear h h2
      cases b0 with
      | false => rw [if_neg (by simp)] at h3; exact absurd h3 (by simp)
      | true =>
      rw [if_pos rfl] at h3
      by_cases hl : l0.length ≤ 35184372088832
      · rw [if_pos hl] at h3
        obtain ⟨r0, hr0, h5⟩ := Option.bind_eq_some_iff.1 h3
        obtain ⟨qr, hqr, h4⟩ := Option.bind_eq_some_iff.1 h5
        simp only [Option.some.injEq, Prod.mk.injEq] at h4
        obtain ⟨rfl, rfl, rfl⟩ := h4
        clear h3 h5
        have HB0 := Aside0.mk hb0
        clear hb0
        have HLI := Aside0.mk hli
        have HR0 := Aside0.mk hr0
        have HQR := Aside0.mk hqr
        clear H1 hli hr0 hqr
        have hb : ((m : Int) == 0) = false := beq_eq_false_iff_ne.2 (by omega)
        have hsub1 : (m : Int) - 1 = ((m - 1 : Nat) : Int) := by omega
        have hB4 : Below w.heap.size w (W3.setCell ⟨w.heap.size, 0, none⟩ (.slice A1 m c1)) := HB3.out.setCell (p := ⟨w.heap.size, 0, none⟩) (Nat.le_refl _) _
        have hb4 : (W3.setCell ⟨w.heap.size, 0, none⟩ (.slice A1 m c1)).cell? ⟨w.heap.size, 0, none⟩ = some (.slice A1 m c1) := by go_simp
        have hs4 : (W3.setCell ⟨w.heap.size, 0, none⟩ (.slice A1 m c1)).heap.size = w.heap.size + 2 := by rw [← Hs3.out]; simp [World.setCell]
        generalize hW4 : W3.setCell ⟨w.heap.size, 0, none⟩ (.slice A1 m c1) = W4 at hB4 hb4 hs4
        have hCq : Kd.C (Kd.int .i64) w A1 (fin l1).length (fin l1) := by
          obtain ⟨i010, hi010, _, hsz10, _⟩ := info_parts ginfo_int
          obtain ⟨_, hA10, _⟩ := print_take_of (P := Try.prog) (Value.int .i64) 0 22 3 .i64 Try.underlying22 hi010 hsz10 A1 c1 l1 (m : Int) (by omega) (by have := HM.out; omega) HC1.out
          have := Kd.C_of_reads (h1 := fun _ => rfl) (hA10 _ (Kd.reads_of_C HR1.out))
          rw [Int.toNat_natCast, ← HF.out] at this
          exact this
        obtain ⟨ad, hA, hx0⟩ := Kd.at_int (Kd.C_below hCq hB4) ((m - 1 : Nat) : Int) (by omega) (by rw [HLN.out]; omega)
        subst hA
        have hx : W4.cell? (ad.add (m - 1)) = some (.int .i64 ((fin l1).getD ((fin l1).length - 1) 0)) := by
          have := hx0
          rw [rd_nat', Int.toNat_natCast] at this
          rw [HLN.out]; exact this
        generalize (fin l1).getD ((fin l1).length - 1) 0 = top at hx HLI
        have HB4 := Aside0.mk hB4
        have Hs4 := Aside0.mk hs4
        have HCq := Aside0.mk hCq
        clear hx0 hB4 hs4 hCq
        go_wp2_with fail
        refine (gf_Inv.calls k top li.1 li.2 _ HLI.out).mono ?_
        rintro e w' ⟨rfl, ⟨nd2, rfl⟩⟩
        have HB5 := Aside0.mk (pw_below_drewN HB4.out nd2)
        have hb5 : (W4.drewN nd2).cell? ⟨w.heap.size, 0, none⟩ = some (.slice (some ad) m c1) := hb4
        have Hs5 : Aside0 ((W4.drewN nd2).heap.size = w.heap.size + 2) := ⟨Hs4.out⟩
        generalize W4.drewN nd2 = W5 at HB5 hb5 Hs5 ⊢
        clear hx HB4 hb4 Hs4 hW4 hb3 hf3 hsub1 hb
        go_wp2_with fail
        have hbl6 : (W5.alloc (.cells #[.int .i64 li.1] 3)).cell? ⟨W5.heap.size, 0, none⟩ = some (.int .i64 li.1) := by go_simp
        have hbq6 : (W5.alloc (.cells #[.int .i64 li.1] 3)).cell? ⟨w.heap.size, 0, none⟩ = some (.slice (some ad) m c1) := ((Below.refl _ W5).alloc (Nat.le_refl _) _).cell (World.block_lt_of_cell? W5 _ hb5) |>.trans hb5
        have HB6 := Aside0.mk (below_alloc HB5.out (.cells #[.int .i64 li.1] 3))
        have Hs6 : Aside0 ((W5.alloc (.cells #[.int .i64 li.1] 3)).heap.size = W5.heap.size + 1) := ⟨by go_simp⟩
        generalize W5.alloc (.cells #[.int .i64 li.1] 3) = W6 at hbl6 hbq6 HB6 Hs6 ⊢
        refine (poly_Norm.calls_yes k A0 c0 l0 r0 W6 (Kd.C_below HR.out HB6.out) HC.out HB0.out hl HR0.out).mono ?_
        rintro e w7 ⟨gR, capR, rfl, ho, hb7⟩
        have HO := Aside0.mk ho
        have HB7 := Aside0.mk (below_then HB6.out HB6.out.size hb7)
        have HBW := Aside0.mk hb7
        clear ho hb7
        have hbl7 := (HBW.out.cell (World.block_lt_of_cell? W6 _ hbl6)).trans hbl6
        have hbq7 := (HBW.out.cell (World.block_lt_of_cell? W6 _ hbq6)).trans hbq6
        clear hbl6 hbq6 hb5
        go_wp2_with fail
        have HP8 : Aside0 (PutSt w w7.heap.size gR capR (fin r0) (w7.alloc (.cells #[.slice (some ⟨gR, 0, none⟩) (fin r0).length capR] 22))) :=
          ⟨⟨heap_alloc_new w7 _, own_weaken (HO.out.alloc _) HB6.out.size, below_alloc HB7.out _, HB7.out.size, by
            have := own_lt HO.out gR (by simp [Value.ownBlock]); omega⟩⟩
        have Hgl : Aside0 (gR < w7.heap.size) := ⟨own_lt HO.out gR (by simp [Value.ownBlock])⟩
        have Hgg : Aside0 (W6.heap.size ≤ gR) := ⟨own_base HO.out gR (by simp [Value.ownBlock])⟩
        have Hs7 : Aside0 (W6.heap.size ≤ w7.heap.size) := ⟨HBW.out.size⟩
        have hs8 : (w7.alloc (.cells #[.slice (some ⟨gR, 0, none⟩) (fin r0).length capR] 22)).heap.size = w7.heap.size + 1 := by go_simp
        have hbl8 : (w7.alloc (.cells #[.slice (some ⟨gR, 0, none⟩) (fin r0).length capR] 22)).cell? ⟨W5.heap.size, 0, none⟩ = some (.int .i64 li.1) := ((Below.refl _ w7).alloc (Nat.le_refl _) _).cell (World.block_lt_of_cell? w7 _ hbl7) |>.trans hbl7
        have hbq8 : (w7.alloc (.cells #[.slice (some ⟨gR, 0, none⟩) (fin r0).length capR] 22)).cell? ⟨w.heap.size, 0, none⟩ = some (.slice (some ad) m c1) := ((Below.refl _ w7).alloc (Nat.le_refl _) _).cell (World.block_lt_of_cell? w7 _ hbq7) |>.trans hbq7
        have HB8 := Aside0.mk (below_alloc HB7.out (.cells #[.slice (some ⟨gR, 0, none⟩) (fin r0).length capR] 22))
        generalize w7.alloc (.cells #[.slice (some ⟨gR, 0, none⟩) (fin r0).length capR] 22) = W8 at HP8 hs8 hbl8 hbq8 HB8 ⊢
        have hlenq : 0 < (fin l1).length := by rw [HLN.out]; omega
        have hbq8' : W8.cell? ⟨w.heap.size, 0, none⟩ = some (.slice (some ad) (fin l1).length c1) := by rw [HLN.out]; exact hbq8
        have Hq := Aside0.mk (build_calls_Div l0.length w W8 HB8.out (fun g w' => PutSt w w7.heap.size gR capR qr.2 w' ∧ g ≠ gR) qr.1 hl w7.heap.size w.heap.size W5.heap.size (fun B g cap W1 hst => (div1_calls k w W8 B g cap w7.heap.size gR capR w.heap.size W5.heap.size (some ad) c1 (fin l1) li.1 HCq.out hlenq hbq8' hbl8 (by have := Hs7.out; have := Hs6.out; have := Hs5.out; omega) (by have := Hgg.out; have := Hs6.out; have := Hs5.out; omega) (by have := Hs7.out; have := Hs6.out; omega) (by have := Hgg.out; have := Hs6.out; omega) (l0.length + 1) (fin r0) (List.replicate l0.length 0) qr.1 qr.2 W1 ⟨hst.lift HB8.out, HP8.out.later hst.below (by omega) (by have := Hgl.out; omega), fun b hb _ _ => hst.below.block b hb, hst.ge, hst.gge, by omega, by have := Hgl.out; omega⟩ HQR.out).mono (by
            rintro e w' ⟨rfl, hs⟩
            exact ⟨rfl, hs.q, hs.r, by have := hs.hg; have := hs.hgR; omega⟩)))
        refine Hq.out.mono ?_
        clear Hq
        rintro e w9 ⟨g, cap, rfl, ho, hb, hp, hne⟩
        have HO9 := Aside0.mk ho
        have HB9 := Aside0.mk hb
        have HP9 := Aside0.mk hp
        have HN9 := Aside0.mk hne
        have hbr9 := hp.cells
        clear ho hb hp hne hbl8 hbq8 hbq8' hbl7 hbq7
        go_wp2
        repeat (go_quiet (fail); try go_wp2)
        go_ret3
        refine ⟨_, _, rfl, Kd.R_of_own (h1 := fun _ => rfl) (own_move HO9.out (fun _ _ => rfl)) ?_, Kd.R_of_own (h1 := fun _ => rfl) (own_move HP9.out.row (fun _ _ => rfl)) ?_, ?_⟩
        · intro b hb e
          obtain rfl : g = b := by simpa [Value.ownBlock] using hb
          exact HN9.out (by simpa [Value.ownBlock] using e)
        · intro b hb e
          obtain rfl : gR = b := by simpa [Value.ownBlock] using hb
          exact HN9.out (by have := e.symm; simpa [Value.ownBlock] using this)
        · repeat (first | exact HB9.out | apply pw_below_drewN | apply below_drew)
      · rw [if_neg hl] at h3; exact absurd h3 (by simp)

/-! ### casemateref01_Ints: function 17 -/
def casemateref01_Ints.l0 : Nat → List Int → List Int → Int → Option (Bool)
  | 0, _, _, _ => none
  | k + 1, x0, x1, x5 => if x5 < (x0.length : Int) then (if 0 ≤ x5 then (if x5 < (x1.length : Int) then (if (rd x0 x5) = (rd x1 x5) then (casemateref01_Ints.l0 k x0 x1 (wrap64 (x5 + 1))) else (some false)) else (none)) else (none)) else (some true)
def casemateref01_Ints.f (k : Nat) (l0 : List Int) (l1 : List Int) : Option (Bool) := if (l0.length : Int) = (l1.length : Int) then (casemateref01_Ints.l0 k l0 l1 0) else (some false)
theorem casemateref01_Ints.mono_l : ∀ k, (∀ y0 y1 y2, LeO (casemateref01_Ints.l0 k y0 y1 y2) (casemateref01_Ints.l0 (k + 1) y0 y1 y2))
  | 0 => fun _ _ _ r h => by simp [casemateref01_Ints.l0] at h
  | k + 1 => by
    have ih0 := casemateref01_Ints.mono_l k
    · intro y0 y1 y2
      unfold casemateref01_Ints.l0
      repeat' first
      | (with_reducible exact ih0 _ _ _)
      | (with_reducible exact LeO.refl _)
      | (with_reducible exact LeO.none _)
      | (with_reducible refine LeO.ite ?_ ?_)
      | (with_reducible refine LeO.bind ?_ (fun _ => ?_))
      | exact ih0 _ _ _
      | exact LeO.none _
      | refine LeO.ite ?_ ?_
      | refine LeO.bind ?_ (fun _ => ?_)
theorem casemateref01_Ints.mono : ∀ a0 a1 k, LeO (casemateref01_Ints.f k a0 a1) (casemateref01_Ints.f (k + 1) a0 a1) := by
  intro a0 a1 k
  have ih0 := casemateref01_Ints.mono_l k
  unfold casemateref01_Ints.f
  repeat' first
      | (with_reducible exact ih0 _ _ _)
      | (with_reducible exact LeO.refl _)
      | (with_reducible exact LeO.none _)
      | (with_reducible refine LeO.ite ?_ ?_)
      | (with_reducible refine LeO.bind ?_ (fun _ => ?_))
      | exact ih0 _ _ _
      | exact LeO.none _
      | refine LeO.ite ?_ ?_
      | refine LeO.bind ?_ (fun _ => ?_)
set_option maxHeartbeats 8000000 in
set_option maxRecDepth 100000 in
theorem casemateref01_Ints.calls (k : Nat) (A0 : Option Addr) (c0 : Nat) (l0 : List Int) (A1 : Option Addr) (c1 : Nat) (l1 : List Int) (r : Bool) (w : World) (hr0 : Kd.C (Kd.int .i64) w A0 l0.length l0) (hc0 : l0.length ≤ c0) (hr1 : Kd.C (Kd.int .i64) w A1 l1.length l1) (hc1 : l1.length ≤ c1) (h : casemateref01_Ints.f k l0 l1 = some r) :
    Calls Try.prog 17 #[.slice A0 l0.length c0, .slice A1 l1.length c1] w fun e w' => e = .returned (.bool r) ∧ Drawn0 w w' := by
  have HR0 := Aside0.mk hr0
  have HC0 := Aside0.mk hc0
  clear hr0 hc0
  have HR1 := Aside0.mk hr1
  have HC1 := Aside0.mk hc1
  clear hr1 hc1
  have H : (if (l0.length : Int) = (l1.length : Int) then (casemateref01_Ints.l0 k l0 l1 0) else (some false)) = some r := h
  clear h
  by_cases c3 : (l0.length : Int) = (l1.length : Int)
  · rw [if_pos c3] at H
    have c3b0 : ((l0.length : Int) == (l1.length : Int)) = true := beq_iff_eq.mpr c3
    have c3b1 : ((l0.length : Int) != (l1.length : Int)) = false := bne_eq_false_iff_eq.mpr c3
    have c3b2 : (l0.length == l1.length) = true := by first | simpa using c3 | (simp at c3 ⊢; omega)
    clear c3
    have H' := Aside0.mk H
    clear H
    go_enter Try.func17, Try.ntmps17
    go_wp2
    repeat (go_quiet (fail); try go_wp2)
    go_loopg [5] k (fun kq v5 w' => ∃ (x5_1 : Int), v5 = .int .i64 x5_1 ∧ Aside0 (casemateref01_Ints.l0 kq l0 l1 x5_1 = some r) ∧ Aside0 (kq ≤ k) ∧ Drawn0 w w')
    case atStart => exact ⟨(0), (by first | rfl | (simp; done) | (simp [*]; done)), H', ⟨Nat.le_refl _⟩, by repeat (first | exact Drawn0.refl _ | apply Drawn0.step)⟩
    case round =>
      clear H'
      try clear c1
      try clear p2
      try clear c3
      try clear c3b0
      try clear c3b1
      try clear c3b2
      obtain ⟨x5_1, rfl, HA, HK1, ⟨m1, rfl⟩⟩ := hrel
      cases gk with
      | zero => exact absurd HA.out (by simp [casemateref01_Ints.l0])
      | succ k1 =>
        have H := HA.out
        clear HA
        simp only [casemateref01_Ints.l0] at H
        by_cases c4 : x5_1 < (l0.length : Int)
        · rw [if_pos c4] at H
          have c4b0 : decide (x5_1 < (l0.length : Int)) = true := decide_eq_true c4
          clear c4
          by_cases c5 : 0 ≤ x5_1
          · rw [if_pos c5] at H
            have c5b0 : decide (0 ≤ x5_1) = true := decide_eq_true c5
            clear c5
            by_cases c6 : x5_1 < (l1.length : Int)
            · rw [if_pos c6] at H
              have c6b0 : decide (x5_1 < (l1.length : Int)) = true := decide_eq_true c6
              clear c6
              by_cases c7 : (rd l0 x5_1) = (rd l1 x5_1)
              · rw [if_pos c7] at H
                have c7b0 : ((rd l0 x5_1) == (rd l1 x5_1)) = true := beq_iff_eq.mpr c7
                have c7b1 : ((rd l0 x5_1) != (rd l1 x5_1)) = false := bne_eq_false_iff_eq.mpr c7
                clear c7
                have H' := Aside0.mk H
                clear H
                have p136 : 0 ≤ (x5_1 : Int) := of_decide_eq_true (by first | (with_reducible assumption) | assumption)
                have q136 : x5_1 < (l0.length : Int) := of_decide_eq_true (by first | (with_reducible assumption) | assumption)
                obtain ⟨ad136, e136, hx136_0⟩ := Kd.at_int HR0.out x5_1 p136 q136
                cases e136
                replace p136 := eq_true p136
                replace q136 := eq_true q136
                have p137 : 0 ≤ (x5_1 : Int) := of_decide_eq_true (by first | (with_reducible assumption) | assumption)
                have q137 : x5_1 < (l1.length : Int) := of_decide_eq_true (by first | (with_reducible assumption) | assumption)
                obtain ⟨ad137, e137, hx137_0⟩ := Kd.at_int HR1.out x5_1 p137 q137
                cases e137
                replace p137 := eq_true p137
                replace q137 := eq_true q137
                go_wp2
                repeat (go_quiet (fail); try go_wp2)
                go_roundg k1
                case measure => have := HK1.out; omega
                case rel => exact ⟨(wrap64 (x5_1 + 1)), (by first | rfl | (simp; done) | (simp [*]; done)), H', ⟨by have := HK1.out; omega⟩, by repeat (first | exact Drawn0.refl _ | apply Drawn0.step)⟩
              · rw [if_neg c7] at H
                have c7b0 : ((rd l0 x5_1) == (rd l1 x5_1)) = false := beq_eq_false_iff_ne.mpr c7
                have c7b1 : ((rd l0 x5_1) != (rd l1 x5_1)) = true := bne_iff_ne.mpr c7
                obtain rfl := Option.some.inj H
                have p136 : 0 ≤ (x5_1 : Int) := of_decide_eq_true (by first | (with_reducible assumption) | assumption)
                have q136 : x5_1 < (l0.length : Int) := of_decide_eq_true (by first | (with_reducible assumption) | assumption)
                obtain ⟨ad136, e136, hx136_0⟩ := Kd.at_int HR0.out x5_1 p136 q136
                cases e136
                replace p136 := eq_true p136
                replace q136 := eq_true q136
                have p137 : 0 ≤ (x5_1 : Int) := of_decide_eq_true (by first | (with_reducible assumption) | assumption)
                have q137 : x5_1 < (l1.length : Int) := of_decide_eq_true (by first | (with_reducible assumption) | assumption)
                obtain ⟨ad137, e137, hx137_0⟩ := Kd.at_int HR1.out x5_1 p137 q137
                cases e137
                replace p137 := eq_true p137
                replace q137 := eq_true q137
                go_wp2
                repeat (go_quiet (fail); try go_wp2)
                go_ret
                exact ⟨by first | rfl | (simp; done) | (simp [*]; done), by repeat (first | exact Drawn0.refl _ | apply Drawn0.step)⟩
            · rw [if_neg c6] at H
              exact absurd H (by simp)
          · rw [if_neg c5] at H
            exact absurd H (by simp)
        · rw [if_neg c4] at H
          have c4b0 : decide (x5_1 < (l0.length : Int)) = false := decide_eq_false c4
          clear c4
          obtain rfl := Option.some.inj H
          go_wp2
          repeat (go_quiet (fail); try go_wp2)
          go_ret
          exact ⟨by first | rfl | (simp; done) | (simp [*]; done), by repeat (first | exact Drawn0.refl _ | apply Drawn0.step)⟩
  · rw [if_neg c3] at H
    have c3b0 : ((l0.length : Int) == (l1.length : Int)) = false := beq_eq_false_iff_ne.mpr c3
    have c3b1 : ((l0.length : Int) != (l1.length : Int)) = true := bne_iff_ne.mpr c3
    have c3b2 : (l0.length == l1.length) = false := by first | simpa using c3 | (simp at c3 ⊢; omega)
    obtain rfl := Option.some.inj H
    go_enter Try.func17, Try.ntmps17
    go_wp2
    repeat (go_quiet (fail); try go_wp2)
    go_ret
    exact ⟨by first | rfl | (simp; done) | (simp [*]; done), by repeat (first | exact Drawn0.refl _ | apply Drawn0.step)⟩

/-! ### casematelaw03_awake: function 13 -/
theorem lit_R (W : World) (xs : List Int) (base : Nat) (hb : base ≤ W.heap.size) (hm : xs.length ≤ 35184372088832) :
    Kd.R (Kd.int .i64) 3 (W.alloc (.cells (encs (Value.int .i64) xs).toArray 3)) base (fun _ => True) (.slice (some ⟨W.heap.size, 0, none⟩) xs.length xs.length) xs := by
  refine Kd.R_of_own (h1 := fun _ => rfl) ⟨by simp [encs], .inr ⟨W.heap.size, xs.length, (encs (Value.int .i64) xs).toArray, rfl, hb, heap_alloc_new W _, Nat.le_refl _, by unfold maxLen; omega, by simp [encs], by simp [encs]; rw [List.take_of_length_le (by simp)]⟩⟩ (fun _ _ => trivial)
theorem nil_C (w : World) : Kd.C (Kd.int .i64) w none 0 [] := ⟨rfl, by decide, fun h => absurd h (Nat.lt_irrefl 0)⟩
def casematelaw03_awake.f (k : Nat) : Option Bool := if 40 ≤ k then some true else none
theorem casematelaw03_awake.mono : ∀ k, LeO (casematelaw03_awake.f k) (casematelaw03_awake.f (k + 1)) := by
  intro k
  unfold casematelaw03_awake.f
  by_cases h : 40 ≤ k
  · rw [if_pos h, if_pos (by omega)]; exact LeO.refl _
  · rw [if_neg h]; exact LeO.none _
theorem aw03_mul : poly_Mul.f 40 [1, 1] [1, 1] = some ([1, 0, 1], 0) := by decide +kernel
theorem aw03_div : poly_Div.f 40 [1, 0, 1] [1, 1] = some ([1, 1], [], 0) := by decide +kernel
theorem aw03_div0 : poly_Div.f 40 [1] [] = some ([], [], 20) := by decide +kernel
theorem aw03_eval : poly_Eval.f 40 [1, 0, 1] 2 = some (5, 0) := by decide +kernel
theorem aw03_i1 : casemateref01_Ints.f 40 [1, 0, 1] [1, 0, 1] = some true := by decide +kernel
theorem aw03_i2 : casemateref01_Ints.f 40 [1, 1] [1, 1] = some true := by decide +kernel
/-- A row with its elements. -/
abbrev Row3 (w : World) (A : Option Addr) (c : Nat) (l : List Int) : Prop := l.length ≤ c ∧ Kd.C (Kd.int .i64) w A l.length l
theorem Row3.of {e : Nat} {w : World} {base : Nat} {ok : Nat → Prop} {v : Value} {l : List Int} (h : Kd.R (Kd.int .i64) e w base ok v l) : ∃ A c, v = .slice A l.length c ∧ Row3 w A c l := by
  obtain ⟨A, c, he, hc, hC⟩ := Kd.R_reads h
  exact ⟨A, c, he, hc, hC⟩
theorem Row3.below {w W : World} {A : Option Addr} {c : Nat} {l : List Int} (h : Row3 w A c l) (hb : Below w.heap.size w W) : Row3 W A c l := ⟨h.1, Kd.C_below h.2 hb⟩
theorem Row3.lit (W : World) (xs : List Int) (cs : Array Value) (n m : Nat) (hcs : cs = (encs (Value.int .i64) xs).toArray) (hn : W.heap.size = n) (hm : xs.length = m) (hl : m ≤ 35184372088832) : Row3 (W.alloc (.cells cs 3)) (some ⟨n, 0, none⟩) m xs := by
  subst hcs; subst hn; subst hm
  obtain ⟨A, c, he, hc, hC⟩ := Kd.R_reads (lit_R W xs 0 (Nat.zero_le _) hl)
  injection he with h1 h2 h3
  subst h1; subst h3
  exact ⟨hc, hC⟩
theorem aw03_mul_calls (W : World) (A0 A1 : Option Addr) (c0 c1 : Nat) (h0 : Row3 W A0 c0 [1, 1]) (h1 : Row3 W A1 c1 [1, 1]) :
    Calls Try.prog 21 #[.slice A0 2 c0, .slice A1 2 c1] W fun e w' => ∃ A c, e = .returned (.tuple #[.slice A 3 c, .int .i64 0]) ∧ Row3 w' A c [1, 0, 1] ∧ Below W.heap.size W w' := by
  refine (poly_Mul.calls 40 A0 c0 [1, 1] A1 c1 [1, 1] [1, 0, 1] 0 W h0.2 h0.1 h1.2 h1.1 aw03_mul).mono ?_
  rintro e w' ⟨v, rfl, hR, hB⟩
  obtain ⟨A, c, rfl, h⟩ := Row3.of hR
  exact ⟨A, c, rfl, h, hB⟩
theorem aw03_div_calls (W : World) (A0 A1 : Option Addr) (c0 c1 : Nat) (h0 : Row3 W A0 c0 [1, 0, 1]) (h1 : Row3 W A1 c1 [1, 1]) :
    Calls Try.prog 16 #[.slice A0 3 c0, .slice A1 2 c1] W fun e w' => ∃ A c A' c', e = .returned (.tuple #[.slice A 2 c, .slice A' 0 c', .int .i64 0]) ∧ Row3 w' A c [1, 1] ∧ Below W.heap.size W w' := by
  refine (poly_Div.calls 40 A0 c0 [1, 0, 1] A1 c1 [1, 1] [1, 1] [] 0 W h0.2 h0.1 h1.2 h1.1 aw03_div).mono ?_
  rintro e w' ⟨v, v', rfl, hR, hR', hB⟩
  obtain ⟨A, c, rfl, h⟩ := Row3.of hR
  obtain ⟨A', c', rfl, h'⟩ := Row3.of hR'
  exact ⟨A, c, A', c', rfl, h, hB⟩
theorem aw03_div0_calls (W : World) (A0 : Option Addr) (c0 : Nat) (h0 : Row3 W A0 c0 [1]) :
    Calls Try.prog 16 #[.slice A0 1 c0, .slice none 0 0] W fun e w' => ∃ A c A' c', e = .returned (.tuple #[.slice A 0 c, .slice A' 0 c', .int .i64 20]) ∧ Below W.heap.size W w' := by
  refine (poly_Div.calls 40 A0 c0 [1] none 0 [] [] [] 20 W h0.2 h0.1 (nil_C W) (Nat.le_refl _) aw03_div0).mono ?_
  rintro e w' ⟨v, v', rfl, hR, hR', hB⟩
  obtain ⟨A, c, rfl, h⟩ := Row3.of hR
  obtain ⟨A', c', rfl, h'⟩ := Row3.of hR'
  exact ⟨A, c, A', c', rfl, hB⟩
theorem aw03_eval_calls (W : World) :
    Calls Try.prog 12 #[.slice (some ⟨W.heap.size, 0, none⟩) 3 3, .int .i64 2] (W.alloc (.cells #[.int .i64 1, .int .i64 0, .int .i64 1] 3)) fun e w' => e = .returned (.tuple #[.int .i64 5, .int .i64 0]) ∧ Below W.heap.size W w' := by
  refine (poly_Eval.calls 40 (fun _ => True) _ _ [1, 0, 1] 2 5 0 _ (Kd.R_V (lit_R W [1, 0, 1] 0 (Nat.zero_le _) (by decide))) aw03_eval).mono ?_
  rintro e w' ⟨rfl, hB⟩
  exact ⟨rfl, below_step (below_alloc (Below.refl _ W) _) hB⟩
theorem aw03_i1_calls (W : World) (A0 A1 : Option Addr) (c0 c1 : Nat) (h0 : Row3 W A0 c0 [1, 0, 1]) (h1 : Row3 W A1 c1 [1, 0, 1]) :
    Calls Try.prog 17 #[.slice A0 3 c0, .slice A1 3 c1] W fun e w' => e = .returned (.bool true) ∧ Below W.heap.size W w' := by
  refine (casemateref01_Ints.calls 40 A0 c0 [1, 0, 1] A1 c1 [1, 0, 1] true W h0.2 h0.1 h1.2 h1.1 aw03_i1).mono ?_
  rintro e w' ⟨rfl, ⟨n, rfl⟩⟩
  exact ⟨rfl, pw_below_drewN (Below.refl _ _) n⟩
theorem aw03_i2_calls (W : World) (A0 A1 : Option Addr) (c0 c1 : Nat) (h0 : Row3 W A0 c0 [1, 1]) (h1 : Row3 W A1 c1 [1, 1]) :
    Calls Try.prog 17 #[.slice A0 2 c0, .slice A1 2 c1] W fun e w' => e = .returned (.bool true) ∧ Below W.heap.size W w' := by
  refine (casemateref01_Ints.calls 40 A0 c0 [1, 1] A1 c1 [1, 1] true W h0.2 h0.1 h1.2 h1.1 aw03_i2).mono ?_
  rintro e w' ⟨rfl, ⟨n, rfl⟩⟩
  exact ⟨rfl, pw_below_drewN (Below.refl _ _) n⟩
set_option maxHeartbeats 500000 in
theorem casematelaw03_awake.calls (k : Nat) (r : Bool) (w : World) (h : casematelaw03_awake.f k = some r) :
    Calls Try.prog 13 #[] w fun e w' => e = .returned (.bool r) ∧ Below w.heap.size w w' := by
  have hr : r = true := by
    unfold casematelaw03_awake.f at h
    by_cases hk : 40 ≤ k
    · rw [if_pos hk] at h; exact (Option.some.inj h).symm
    · rw [if_neg hk] at h; exact absurd h (by simp)
  subst hr
  clear h
  go_enter Try.func13, Try.ntmps13
  go_wp2_with fail
  refine (aw03_mul_calls _ (some ⟨w.heap.size, 0, none⟩) (some ⟨w.heap.size + 1, 0, none⟩) 2 2 ((Row3.lit w [1, 1] #[.int .i64 1, .int .i64 1] _ 2 rfl rfl rfl (by decide)).below (below_alloc (Below.refl _ _) (.cells #[.int .i64 1, .int .i64 1] 3))) (Row3.lit _ [1, 1] #[.int .i64 1, .int .i64 1] _ 2 rfl (by go_simp) rfl (by decide))).mono ?_
  rintro e w1 ⟨Aa, ca, rfl, ha, hB⟩
  have HA := Aside0.mk ha
  have HB := Aside0.mk (below_step (below_alloc (below_alloc (Below.refl _ w) _) _) hB)
  clear ha hB
  go_wp2_with fail
  refine (aw03_div_calls _ (some ⟨w1.heap.size, 0, none⟩) (some ⟨w1.heap.size + 1, 0, none⟩) 3 2 ((Row3.lit w1 [1, 0, 1] #[.int .i64 1, .int .i64 0, .int .i64 1] _ 3 rfl rfl rfl (by decide)).below (below_alloc (Below.refl _ _) (.cells #[.int .i64 1, .int .i64 1] 3))) (Row3.lit _ [1, 1] #[.int .i64 1, .int .i64 1] _ 2 rfl (by go_simp) rfl (by decide))).mono ?_
  rintro e w2 ⟨Ab, cb, Ac, cc, rfl, hb, hB⟩
  have hB' := below_step (below_alloc (below_alloc (Below.refl _ w1) _) _) hB
  have HA2 := Aside0.mk (HA.out.below hB')
  have HBB := Aside0.mk hb
  have HB2 := Aside0.mk (below_step HB.out hB')
  clear hb hB hB' HA HB
  go_wp2_with fail
  refine (aw03_div0_calls _ (some ⟨w2.heap.size, 0, none⟩) 1 (Row3.lit w2 [1] #[.int .i64 1] _ 1 rfl rfl rfl (by decide))).mono ?_
  rintro e w3 ⟨Ad, cd, Ae, ce, rfl, hB⟩
  have hB' := below_step (below_alloc (Below.refl _ w2) _) hB
  have HA3 := Aside0.mk (HA2.out.below hB')
  have HBB3 := Aside0.mk (HBB.out.below hB')
  have HB3 := Aside0.mk (below_step HB2.out hB')
  clear hB hB' HA2 HB2 HBB
  go_wp2_with fail
  refine (aw03_eval_calls w3).mono ?_
  rintro e w4 ⟨rfl, hB⟩
  have HA4 := Aside0.mk (HA3.out.below hB)
  have HBB4 := Aside0.mk (HBB3.out.below hB)
  have HB4 := Aside0.mk (below_step HB3.out hB)
  clear hB HA3 HB3 HBB3
  go_wp2_with fail
  refine (aw03_i1_calls _ Aa (some ⟨w4.heap.size, 0, none⟩) ca 3 (HA4.out.below (below_alloc (Below.refl _ _) (.cells #[.int .i64 1, .int .i64 0, .int .i64 1] 3))) (Row3.lit w4 [1, 0, 1] #[.int .i64 1, .int .i64 0, .int .i64 1] _ 3 rfl rfl rfl (by decide))).mono ?_
  rintro e w5 ⟨rfl, hB⟩
  have hB' := below_step (below_alloc (Below.refl _ w4) _) hB
  have HBB5 := Aside0.mk (HBB4.out.below hB')
  have HB5 := Aside0.mk (below_step HB4.out hB')
  clear hB hB' HA4 HB4 HBB4
  go_wp2_with fail
  refine (aw03_i2_calls _ Ab (some ⟨w5.heap.size, 0, none⟩) cb 2 (HBB5.out.below (below_alloc (Below.refl _ _) (.cells #[.int .i64 1, .int .i64 1] 3))) (Row3.lit w5 [1, 1] #[.int .i64 1, .int .i64 1] _ 2 rfl rfl rfl (by decide))).mono ?_
  rintro e w6 ⟨rfl, hB⟩
  have HB6 := Aside0.mk (below_step HB5.out (below_step (below_alloc (Below.refl _ w5) _) hB))
  clear hB HB5 HBB5
  go_wp2
  go_ret
  exact ⟨rfl, HB6.out⟩

end Go.Proofs.Ytfjmbmlmbchglaa.P

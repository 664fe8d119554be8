/- What Go functions of the translation come to, as plain functions, and that their calls come to just that. No condition but that the plain function answers. (Written by a program of this session.) -/
import Derived.Test.YtlaadaigffmibaaPx0
import Derived.Test.YtlaadaigffmibaaPx2
namespace Go.Proofs.Ytlaadaigffmibaa.P
open Go.RowKit Go.Proofs.YtlaadaigffmibaaW.PrintWords Go.Proofs.YtlaadaigffmibaaW.PrintLast Go.Proofs.YtlaadaigffmibaaW.PrintMore
attribute [local go_sem] max2_int min2_int max_two min_two max_three min_three max_four min_four   -- for this text's walks alone
set_option linter.unusedVariables false
set_option linter.unusedSimpArgs false

/-! ### head_Parse: function 17 -/
theorem rd_nat9 (xs : List Int) (i : Nat) : rd xs (i : Int) = xs.getD i 0 := by unfold rd; rw [Int.toNat_natCast]
def num4 (x0 x1 x2 x3 : Int) : Int := Go.bits .or .i64 (Go.bits .or .i64 (Go.bits .or .i64 x0 (x1 * 256)) (x2 * 65536)) (x3 * 16777216)
def isB (x : Int) : Bool := decide (0 ≤ x) && decide (x ≤ 255)
def atL (l : List Int) (i : Nat) : Option Int := if i + 3 < l.length then (if isB (l.getD i 0) && isB (l.getD (i + 1) 0) && isB (l.getD (i + 2) 0) && isB (l.getD (i + 3) 0) then some (num4 (l.getD i 0) (l.getD (i + 1) 0) (l.getD (i + 2) 0) (l.getD (i + 3) 0)) else none) else none
set_option maxHeartbeats 2000000 in
theorem at_calls4 (B : Nat) (A : Option Addr) (c : Nat) (l : List Int) (r : Int) (w : World) (hbx : w.cell? ⟨B, 0, none⟩ = some (.slice A l.length c)) (hr : Kd.C (Kd.int .u8) w A l.length l) (h : atL l 4 = some r) :
    Calls Try.prog 25 #[.int .i64 4, .pointer (some ⟨B, 0, none⟩)] w fun e w' => e = .returned (.int .i64 r) ∧ ∃ n, w' = w.drewN n := by
  have hm : l.length ≤ 9223372036854775807 := hr.2.1
  unfold atL at h
  by_cases hi : 4 + 3 < l.length
  · rw [if_pos hi] at h
    obtain ⟨ad, rfl, h0⟩ := Kd.at_int hr 4 (by omega) (by omega)
    obtain ⟨ad1, hA1, h1⟩ := Kd.at_int hr 5 (by omega) (by omega)
    obtain ⟨ad2, hA2, h2⟩ := Kd.at_int hr 6 (by omega) (by omega)
    obtain ⟨ad3, hA3, h3⟩ := Kd.at_int hr 7 (by omega) (by omega)
    cases hA1; cases hA2; cases hA3
    rw [show rd l 4 = l.getD 4 0 from rfl, show Int.toNat 4 = 4 from rfl] at h0
    rw [show rd l 5 = l.getD 5 0 from rfl, show Int.toNat 5 = 5 from rfl] at h1
    rw [show rd l 6 = l.getD 6 0 from rfl, show Int.toNat 6 = 6 from rfl] at h2
    rw [show rd l 7 = l.getD 7 0 from rfl, show Int.toNat 7 = 7 from rfl] at h3
    simp only [Nat.reduceAdd] at h
    have a0 : ad.add 4 = ⟨ad.block, ad.off + 4, none⟩ := rfl
    have a1 : ad.add 5 = ⟨ad.block, ad.off + 5, none⟩ := rfl
    have a2 : ad.add 6 = ⟨ad.block, ad.off + 6, none⟩ := rfl
    have a3 : ad.add 7 = ⟨ad.block, ad.off + 7, none⟩ := rfl
    rw [a0] at h0
    rw [a1] at h1
    rw [a2] at h2
    rw [a3] at h3
    clear a0 a1 a2 a3
    generalize l.getD 4 0 = x0 at h h0
    generalize l.getD 5 0 = x1 at h h1
    generalize l.getD 6 0 = x2 at h h2
    generalize l.getD 7 0 = x3 at h h3
    by_cases hb : (isB x0 && isB x1 && isB x2 && isB x3) = true
    · rw [if_pos hb] at h
      obtain rfl := Option.some.inj h
      simp only [isB, Bool.and_eq_true, decide_eq_true_eq] at hb
      obtain ⟨⟨⟨⟨b0, b0'⟩, b1, b1'⟩, b2, b2'⟩, b3, b3'⟩ := hb
      have q0 : (4 : Int) < (l.length : Int) := by omega
      have q1 : (5 : Int) < (l.length : Int) := by omega
      have q2 : (6 : Int) < (l.length : Int) := by omega
      have q3 : (7 : Int) < (l.length : Int) := by omega
      have v0 : IntKind.i64.wrap x0 = x0 := by rw [IntKind.wrap_i64]; omega
      have v1 : IntKind.i64.wrap x1 = x1 := by rw [IntKind.wrap_i64]; omega
      have v2 : IntKind.i64.wrap x2 = x2 := by rw [IntKind.wrap_i64]; omega
      have v3 : IntKind.i64.wrap x3 = x3 := by rw [IntKind.wrap_i64]; omega
      have m1 : IntKind.i64.wrap (x1 * 256) = x1 * 256 := by rw [IntKind.wrap_i64]; omega
      have m2 : IntKind.i64.wrap (x2 * 65536) = x2 * 65536 := by rw [IntKind.wrap_i64]; omega
      have m3 : IntKind.i64.wrap (x3 * 16777216) = x3 * 16777216 := by rw [IntKind.wrap_i64]; omega
      have d0 : decide ((4 : Int) < (l.length : Int)) = true := decide_eq_true (by omega)
      have d1 : decide ((5 : Int) < (l.length : Int)) = true := decide_eq_true (by omega)
      have d2 : decide ((6 : Int) < (l.length : Int)) = true := decide_eq_true (by omega)
      have d3 : decide ((7 : Int) < (l.length : Int)) = true := decide_eq_true (by omega)
      clear h hr hi
      go_enter Try.func25, Try.ntmps25
      go_wp2
      go_quiet (fail)
      go_wp2
      go_ret
      exact ⟨rfl, _, rfl⟩
    · rw [if_neg hb] at h; exact absurd h (by simp)
  · rw [if_neg hi] at h; exact absurd h (by simp)
set_option maxHeartbeats 2000000 in
theorem at_calls8 (B : Nat) (A : Option Addr) (c : Nat) (l : List Int) (r : Int) (w : World) (hbx : w.cell? ⟨B, 0, none⟩ = some (.slice A l.length c)) (hr : Kd.C (Kd.int .u8) w A l.length l) (h : atL l 8 = some r) :
    Calls Try.prog 25 #[.int .i64 8, .pointer (some ⟨B, 0, none⟩)] w fun e w' => e = .returned (.int .i64 r) ∧ ∃ n, w' = w.drewN n := by
  have hm : l.length ≤ 9223372036854775807 := hr.2.1
  unfold atL at h
  by_cases hi : 8 + 3 < l.length
  · rw [if_pos hi] at h
    obtain ⟨ad, rfl, h0⟩ := Kd.at_int hr 8 (by omega) (by omega)
    obtain ⟨ad1, hA1, h1⟩ := Kd.at_int hr 9 (by omega) (by omega)
    obtain ⟨ad2, hA2, h2⟩ := Kd.at_int hr 10 (by omega) (by omega)
    obtain ⟨ad3, hA3, h3⟩ := Kd.at_int hr 11 (by omega) (by omega)
    cases hA1; cases hA2; cases hA3
    rw [show rd l 8 = l.getD 8 0 from rfl, show Int.toNat 8 = 8 from rfl] at h0
    rw [show rd l 9 = l.getD 9 0 from rfl, show Int.toNat 9 = 9 from rfl] at h1
    rw [show rd l 10 = l.getD 10 0 from rfl, show Int.toNat 10 = 10 from rfl] at h2
    rw [show rd l 11 = l.getD 11 0 from rfl, show Int.toNat 11 = 11 from rfl] at h3
    simp only [Nat.reduceAdd] at h
    have a0 : ad.add 8 = ⟨ad.block, ad.off + 8, none⟩ := rfl
    have a1 : ad.add 9 = ⟨ad.block, ad.off + 9, none⟩ := rfl
    have a2 : ad.add 10 = ⟨ad.block, ad.off + 10, none⟩ := rfl
    have a3 : ad.add 11 = ⟨ad.block, ad.off + 11, none⟩ := rfl
    rw [a0] at h0
    rw [a1] at h1
    rw [a2] at h2
    rw [a3] at h3
    clear a0 a1 a2 a3
    generalize l.getD 8 0 = x0 at h h0
    generalize l.getD 9 0 = x1 at h h1
    generalize l.getD 10 0 = x2 at h h2
    generalize l.getD 11 0 = x3 at h h3
    by_cases hb : (isB x0 && isB x1 && isB x2 && isB x3) = true
    · rw [if_pos hb] at h
      obtain rfl := Option.some.inj h
      simp only [isB, Bool.and_eq_true, decide_eq_true_eq] at hb
      obtain ⟨⟨⟨⟨b0, b0'⟩, b1, b1'⟩, b2, b2'⟩, b3, b3'⟩ := hb
      have q0 : (8 : Int) < (l.length : Int) := by omega
      have q1 : (9 : Int) < (l.length : Int) := by omega
      have q2 : (10 : Int) < (l.length : Int) := by omega
      have q3 : (11 : Int) < (l.length : Int) := by omega
      have v0 : IntKind.i64.wrap x0 = x0 := by rw [IntKind.wrap_i64]; omega
      have v1 : IntKind.i64.wrap x1 = x1 := by rw [IntKind.wrap_i64]; omega
      have v2 : IntKind.i64.wrap x2 = x2 := by rw [IntKind.wrap_i64]; omega
      have v3 : IntKind.i64.wrap x3 = x3 := by rw [IntKind.wrap_i64]; omega
      have m1 : IntKind.i64.wrap (x1 * 256) = x1 * 256 := by rw [IntKind.wrap_i64]; omega
      have m2 : IntKind.i64.wrap (x2 * 65536) = x2 * 65536 := by rw [IntKind.wrap_i64]; omega
      have m3 : IntKind.i64.wrap (x3 * 16777216) = x3 * 16777216 := by rw [IntKind.wrap_i64]; omega
      have d0 : decide ((8 : Int) < (l.length : Int)) = true := decide_eq_true (by omega)
      have d1 : decide ((9 : Int) < (l.length : Int)) = true := decide_eq_true (by omega)
      have d2 : decide ((10 : Int) < (l.length : Int)) = true := decide_eq_true (by omega)
      have d3 : decide ((11 : Int) < (l.length : Int)) = true := decide_eq_true (by omega)
      clear h hr hi
      go_enter Try.func25, Try.ntmps25
      go_wp2
      go_quiet (fail)
      go_wp2
      go_ret
      exact ⟨rfl, _, rfl⟩
    · rw [if_neg hb] at h; exact absurd h (by simp)
  · rw [if_neg hi] at h; exact absurd h (by simp)
set_option maxHeartbeats 2000000 in
theorem at_calls12 (B : Nat) (A : Option Addr) (c : Nat) (l : List Int) (r : Int) (w : World) (hbx : w.cell? ⟨B, 0, none⟩ = some (.slice A l.length c)) (hr : Kd.C (Kd.int .u8) w A l.length l) (h : atL l 12 = some r) :
    Calls Try.prog 25 #[.int .i64 12, .pointer (some ⟨B, 0, none⟩)] w fun e w' => e = .returned (.int .i64 r) ∧ ∃ n, w' = w.drewN n := by
  have hm : l.length ≤ 9223372036854775807 := hr.2.1
  unfold atL at h
  by_cases hi : 12 + 3 < l.length
  · rw [if_pos hi] at h
    obtain ⟨ad, rfl, h0⟩ := Kd.at_int hr 12 (by omega) (by omega)
    obtain ⟨ad1, hA1, h1⟩ := Kd.at_int hr 13 (by omega) (by omega)
    obtain ⟨ad2, hA2, h2⟩ := Kd.at_int hr 14 (by omega) (by omega)
    obtain ⟨ad3, hA3, h3⟩ := Kd.at_int hr 15 (by omega) (by omega)
    cases hA1; cases hA2; cases hA3
    rw [show rd l 12 = l.getD 12 0 from rfl, show Int.toNat 12 = 12 from rfl] at h0
    rw [show rd l 13 = l.getD 13 0 from rfl, show Int.toNat 13 = 13 from rfl] at h1
    rw [show rd l 14 = l.getD 14 0 from rfl, show Int.toNat 14 = 14 from rfl] at h2
    rw [show rd l 15 = l.getD 15 0 from rfl, show Int.toNat 15 = 15 from rfl] at h3
    simp only [Nat.reduceAdd] at h
    have a0 : ad.add 12 = ⟨ad.block, ad.off + 12, none⟩ := rfl
    have a1 : ad.add 13 = ⟨ad.block, ad.off + 13, none⟩ := rfl
    have a2 : ad.add 14 = ⟨ad.block, ad.off + 14, none⟩ := rfl
    have a3 : ad.add 15 = ⟨ad.block, ad.off + 15, none⟩ := rfl
    rw [a0] at h0
    rw [a1] at h1
    rw [a2] at h2
    rw [a3] at h3
    clear a0 a1 a2 a3
    generalize l.getD 12 0 = x0 at h h0
    generalize l.getD 13 0 = x1 at h h1
    generalize l.getD 14 0 = x2 at h h2
    generalize l.getD 15 0 = x3 at h h3
    by_cases hb : (isB x0 && isB x1 && isB x2 && isB x3) = true
    · rw [if_pos hb] at h
      obtain rfl := Option.some.inj h
      simp only [isB, Bool.and_eq_true, decide_eq_true_eq] at hb
      obtain ⟨⟨⟨⟨b0, b0'⟩, b1, b1'⟩, b2, b2'⟩, b3, b3'⟩ := hb
      have q0 : (12 : Int) < (l.length : Int) := by omega
      have q1 : (13 : Int) < (l.length : Int) := by omega
      have q2 : (14 : Int) < (l.length : Int) := by omega
      have q3 : (15 : Int) < (l.length : Int) := by omega
      have v0 : IntKind.i64.wrap x0 = x0 := by rw [IntKind.wrap_i64]; omega
      have v1 : IntKind.i64.wrap x1 = x1 := by rw [IntKind.wrap_i64]; omega
      have v2 : IntKind.i64.wrap x2 = x2 := by rw [IntKind.wrap_i64]; omega
      have v3 : IntKind.i64.wrap x3 = x3 := by rw [IntKind.wrap_i64]; omega
      have m1 : IntKind.i64.wrap (x1 * 256) = x1 * 256 := by rw [IntKind.wrap_i64]; omega
      have m2 : IntKind.i64.wrap (x2 * 65536) = x2 * 65536 := by rw [IntKind.wrap_i64]; omega
      have m3 : IntKind.i64.wrap (x3 * 16777216) = x3 * 16777216 := by rw [IntKind.wrap_i64]; omega
      have d0 : decide ((12 : Int) < (l.length : Int)) = true := decide_eq_true (by omega)
      have d1 : decide ((13 : Int) < (l.length : Int)) = true := decide_eq_true (by omega)
      have d2 : decide ((14 : Int) < (l.length : Int)) = true := decide_eq_true (by omega)
      have d3 : decide ((15 : Int) < (l.length : Int)) = true := decide_eq_true (by omega)
      clear h hr hi
      go_enter Try.func25, Try.ntmps25
      go_wp2
      go_quiet (fail)
      go_wp2
      go_ret
      exact ⟨rfl, _, rfl⟩
    · rw [if_neg hb] at h; exact absurd h (by simp)
  · rw [if_neg hi] at h; exact absurd h (by simp)
def head_Parse.f (a0_0 a0_1 a0_2 a0_3 a0_4 : Int) (l1 : List Int) : Option (Int × Int × Int × Int) := (ecc_Room.f a0_0 a0_1 a0_2 a0_3 a0_4).bind fun b => if b.2 = 0 then (if (l1.length : Int) = b.1 then ((atL l1 4).bind fun x => (atL l1 8).bind fun y => (atL l1 12).bind fun z => (head_Bytes.f a0_0 a0_1 a0_2 a0_3 a0_4 x y z).bind fun q => if q.2 = 0 then ((bytes_Equal.f q.1 l1).bind fun t => if t = true then some (x, y, z, 0) else some (0, 0, 0, 4)) else some (0, 0, 0, 4)) else some (0, 0, 0, 1)) else some (0, 0, 0, 1)
/-- The three boxes. -/
structure PB (w0 : World) (ga : Array Value) (dv : Value) (hs : Array Value) (w : World) : Prop where
  bg : w.heap[w0.heap.size]? = some (.cells ga 23 (0, 0))
  bd : w.heap[w0.heap.size + 1]? = some (.cells #[dv] 30 (0, 0))
  br : w.heap[w0.heap.size + 1 + 1]? = some (.cells hs 25 (0, 0))
  below : Below w0.heap.size w0 w
theorem drew_cell {w : World} {p : Addr} {v : Value} (h : w.cell? p = some v) (n : Nat) : (w.drewN n).cell? p = some v := h
theorem set3 {w : World} {b : Nat} {t : TypeId} {u0 u1 u2 : Value} (h : w.heap[b]? = some (.cells #[u0, u1, u2] t (0, 0))) (v0 v1 v2 : Value) : (((w.setCell ⟨b, 0, none⟩ v0).setCell ⟨b, 1, none⟩ v1).setCell ⟨b, 2, none⟩ v2).heap[b]? = some (.cells #[v0, v1, v2] t (0, 0)) :=
  blk_put (blk_put (blk_put h 0 v0 rfl) 1 v1 rfl) 2 v2 rfl
theorem set3_below {w0 w : World} {b : Nat} (hb : w0.heap.size ≤ b) (h : Below w0.heap.size w0 w) (v0 v1 v2 : Value) : Below w0.heap.size w0 (((w.setCell ⟨b, 0, none⟩ v0).setCell ⟨b, 1, none⟩ v1).setCell ⟨b, 2, none⟩ v2) :=
  ((h.setCell (p := ⟨b, 0, none⟩) hb _).setCell (p := ⟨b, 1, none⟩) hb _).setCell (p := ⟨b, 2, none⟩) hb _
theorem own_set3 {w : World} {base : Nat} {e : TypeId} {size n g : Nat} {v : Value} {xs : List Value} {t : TypeId} {cs : Array Value} (ho : w.ownsRow base e size v n xs) (hb : w.heap[g]? = some (.cells cs t (0, 0))) (hne : t ≠ e) (v0 v1 v2 : Value) : (((w.setCell ⟨g, 0, none⟩ v0).setCell ⟨g, 1, none⟩ v1).setCell ⟨g, 2, none⟩ v2).ownsRow base e size v n xs := by
  have ne : ∀ k, v.ownBlock = some k → k ≠ g := fun k hk e => by
    obtain ⟨cells, ht⟩ := own_typed ho k hk
    subst e
    exact blk_ne hb ht hne rfl
  exact own_move (own_move (own_move ho (fun k hk => Below.heap_setCell w ⟨g, 0, none⟩ v0 k (ne k hk))) (fun k hk => Below.heap_setCell _ ⟨g, 1, none⟩ v1 k (ne k hk))) (fun k hk => Below.heap_setCell _ ⟨g, 2, none⟩ v2 k (ne k hk))
theorem PB.later {w0 w w1 : World} {ga : Array Value} {dv : Value} {hs : Array Value} (h : PB w0 ga dv hs w) (hb : Below w.heap.size w w1) : PB w0 ga dv hs w1 :=
  ⟨blk_below h.bg hb, blk_below h.bd hb, blk_below h.br hb, below_step h.below hb⟩
set_option maxHeartbeats 2000000 in
set_option maxRecDepth 100000 in
theorem head_Parse.calls (a0_0 a0_1 a0_2 a0_3 a0_4 : Int) (A1 : Option Addr) (c1 : Nat) (l1 : List Int) (r1 r2 r3 r4 : Int) (w : World) (hr1 : Kd.C (Kd.int .u8) w A1 l1.length l1) (hc1 : l1.length ≤ c1) (h : head_Parse.f a0_0 a0_1 a0_2 a0_3 a0_4 l1 = some (r1, r2, r3, r4)) :
    Calls Try.prog 17 #[.agg #[.int .i64 a0_0, .int .i64 a0_1, .int .i64 a0_2, .int .i64 a0_3, .int .i64 a0_4], .slice A1 l1.length c1] w fun e w' => e = .returned (.tuple #[.agg #[.int .i64 r1, .int .i64 r2, .int .i64 r3], .int .i64 r4]) ∧ Below w.heap.size w w' := by
  have hm : l1.length ≤ 9223372036854775807 := hr1.2.1
  unfold head_Parse.f at h
  obtain ⟨⟨room, er⟩, hroom, h⟩ := Option.bind_eq_some_iff.1 h
  simp only at h
  obtain ⟨W, hW⟩ : ∃ W, W = ((w.alloc (.cells #[.int .i64 a0_0, .int .i64 a0_1, .int .i64 a0_2, .int .i64 a0_3, .int .i64 a0_4] 23)).alloc (.cells #[.slice A1 l1.length c1] 30)).alloc (.cells #[.int .i64 0, .int .i64 0, .int .i64 0] 25) := ⟨_, rfl⟩
  have hPB : PB w #[.int .i64 a0_0, .int .i64 a0_1, .int .i64 a0_2, .int .i64 a0_3, .int .i64 a0_4] (.slice A1 l1.length c1) #[.int .i64 0, .int .i64 0, .int .i64 0] W := by
    have e1 := blk_new (w.alloc (.cells #[.int .i64 a0_0, .int .i64 a0_1, .int .i64 a0_2, .int .i64 a0_3, .int .i64 a0_4] 23)) (.cells #[.slice A1 l1.length c1] 30)
    have e2 := blk_new ((w.alloc (.cells #[.int .i64 a0_0, .int .i64 a0_1, .int .i64 a0_2, .int .i64 a0_3, .int .i64 a0_4] 23)).alloc (.cells #[.slice A1 l1.length c1] 30)) (.cells #[.int .i64 0, .int .i64 0, .int .i64 0] 25)
    simp only [World.size_alloc] at e1 e2
    rw [hW]
    exact ⟨blk_alloc (blk_alloc (blk_new w _) _) _, blk_alloc e1 _, e2, below_alloc (below_alloc (below_alloc (Below.refl _ _) _) _) _⟩
  have HP := Aside0.mk hPB
  have HW := Aside0.mk hW
  have HR := Aside0.mk hroom
  have HC := Aside0.mk hr1
  have HCC := Aside0.mk hc1
  clear hPB hW hroom hr1 hc1
  by_cases he : er = 0
  · subst he
    rw [if_pos rfl] at h
    by_cases hl : (l1.length : Int) = room
    · subst hl
      rw [if_pos rfl] at h
      obtain ⟨x, hx, h⟩ := Option.bind_eq_some_iff.1 h
      obtain ⟨y, hy, h⟩ := Option.bind_eq_some_iff.1 h
      obtain ⟨z, hz, h⟩ := Option.bind_eq_some_iff.1 h
      obtain ⟨⟨q1, q2⟩, hq, h⟩ := Option.bind_eq_some_iff.1 h
      simp only at h
      have HX := Aside0.mk hx
      have HY := Aside0.mk hy
      have HZ := Aside0.mk hz
      have HQ0 := Aside0.mk hq
      clear hx hy hz hq
      by_cases h2 : q2 = 0
      · subst h2
        rw [if_pos rfl] at h
        obtain ⟨t, ht, h⟩ := Option.bind_eq_some_iff.1 h
        have HE := Aside0.mk ht
        clear ht
        cases t with
        | true =>
          rw [if_pos rfl] at h
          simp only [Option.some.injEq, Prod.mk.injEq] at h
          obtain ⟨rfl, rfl, rfl, rfl⟩ := h
          go_enter Try.func17, Try.ntmps17
          go_wp2_with (first | (go_at_call 20; (refine (ecc_Room.calls _ _ _ _ _ (l1.length : Int) 0 _ HR.out).mono ?_); rintro e w1 ⟨rfl, hb⟩; rw [← HW.out] at hb; have HP1 := Aside0.mk (HP.out.later hb); have HC1 := Aside0.mk (Kd.C_below HC.out HP1.out.below); clear hb; have c0 : w1.cell? ⟨w.heap.size + 1, 0, none⟩ = some (.slice A1 l1.length c1) := (blk_cell HP1.out.bd 0).trans rfl)  | (go_at_call 25; (with_reducible refine (at_calls4 (w.heap.size + 1) A1 c1 l1 x _ c0 HC1.out HX.out).mono ?_); rintro e w' ⟨rfl, n4, rfl⟩) | (go_at_call 25; (with_reducible refine (at_calls8 (w.heap.size + 1) A1 c1 l1 y _ (drew_cell c0 _) (Kd.C_drewN HC1.out _) HY.out).mono ?_); rintro e w' ⟨rfl, n8, rfl⟩) | (go_at_call 25; (with_reducible refine (at_calls12 (w.heap.size + 1) A1 c1 l1 z _ (drew_cell c0 _) (Kd.C_drewN HC1.out _) HZ.out).mono ?_); rintro e wc ⟨rfl, n12, hn⟩; have hbc : Below w1.heap.size w1 wc := (by rw [hn]; repeat (first | exact Below.refl _ _ | refine pw_below_drewN ?_ _)); clear hn; have HPc := Aside0.mk (HP1.out.later hbc); have HCc := Aside0.mk (Kd.C_below HC1.out hbc); clear hbc c0 HP1 HC1; have d0 : (wc.alloc (.cells #[.int .i64 x, .int .i64 y, .int .i64 z] 25)).cell? ⟨w.heap.size, 0, none⟩ = some (.int .i64 a0_0) := cell_al _ ((blk_cell HPc.out.bg 0).trans rfl); have d1 : (wc.alloc (.cells #[.int .i64 x, .int .i64 y, .int .i64 z] 25)).cell? ⟨w.heap.size, 1, none⟩ = some (.int .i64 a0_1) := cell_al _ ((blk_cell HPc.out.bg 1).trans rfl); have d2 : (wc.alloc (.cells #[.int .i64 x, .int .i64 y, .int .i64 z] 25)).cell? ⟨w.heap.size, 2, none⟩ = some (.int .i64 a0_2) := cell_al _ ((blk_cell HPc.out.bg 2).trans rfl); have d3 : (wc.alloc (.cells #[.int .i64 x, .int .i64 y, .int .i64 z] 25)).cell? ⟨w.heap.size, 3, none⟩ = some (.int .i64 a0_3) := cell_al _ ((blk_cell HPc.out.bg 3).trans rfl); have d4 : (wc.alloc (.cells #[.int .i64 x, .int .i64 y, .int .i64 z] 25)).cell? ⟨w.heap.size, 4, none⟩ = some (.int .i64 a0_4) := cell_al _ ((blk_cell HPc.out.bg 4).trans rfl); have hz0 : w.heap.size + 1 + 1 < wc.heap.size := blk_lt HPc.out.br)  | (go_at_call 10; (refine (head_Bytes.calls a0_0 a0_1 a0_2 a0_3 a0_4 x y z q1 _ _ HQ0.out).mono ?_); rintro e w3 ⟨v, rfl, hR, hb⟩; have HB1 := Aside0.mk (below_step (below_alloc (Below.refl _ wc) _) hb); have HP3 := Aside0.mk (HPc.out.later HB1.out); have HO := Aside0.mk hR; have B9 := Aside0.mk (blk_below (blk_new wc (.cells #[.int .i64 x, .int .i64 y, .int .i64 z] 25)) hb); have HC3 := Aside0.mk (Kd.C_below HCc.out HB1.out); clear hR hb d0 d1 d2 d3 d4 hz0; have c0 : w3.cell? ⟨w.heap.size + 1, 0, none⟩ = some (.slice A1 l1.length c1) := (blk_cell HP3.out.bd 0).trans rfl; obtain ⟨A2, c2, eo⟩ := Kd.R_slice HO.out; subst eo; have b0 : w3.cell? ⟨wc.heap.size, 0, none⟩ = some (.int .i64 x) := (blk_cell B9.out 0).trans rfl; have b1 : w3.cell? ⟨wc.heap.size, 1, none⟩ = some (.int .i64 y) := (blk_cell B9.out 1).trans rfl; have b2 : w3.cell? ⟨wc.heap.size, 2, none⟩ = some (.int .i64 z) := (blk_cell B9.out 2).trans rfl; have f0 : w3.cell? ⟨w.heap.size + 1 + 1, 0, none⟩ = some (.int .i64 0) := (blk_cell HP3.out.br 0).trans rfl; have k0 := blk_frozen HP3.out.br 0; have f1 : w3.cell? ⟨w.heap.size + 1 + 1, 1, none⟩ = some (.int .i64 0) := (blk_cell HP3.out.br 1).trans rfl; have k1 := blk_frozen HP3.out.br 1; have f2 : w3.cell? ⟨w.heap.size + 1 + 1, 2, none⟩ = some (.int .i64 0) := (blk_cell HP3.out.br 2).trans rfl; have k2 := blk_frozen HP3.out.br 2)  | (go_at_call 26; (refine (bytes_Equal.calls A2 c2 q1 A1 c1 l1 true _ (Kd.R_reads' HO.out).2.2 (Kd.R_reads' HO.out).2.1 HC3.out HCC.out HE.out).mono ?_); rintro e w4 ⟨rfl, ⟨n4, rfl⟩⟩; have HP4 := Aside0.mk (HP3.out.later (pw_below_drewN (Below.refl w3.heap.size w3) n4))))
          have HQ := Aside0.mk (set3 HP4.out.br (.int .i64 x) (.int .i64 y) (.int .i64 z))
          have HBQ := Aside0.mk (set3_below (Nat.le_trans (Nat.le_add_right _ 2) (Nat.le_refl _) : w.heap.size ≤ w.heap.size + 1 + 1) HP4.out.below (.int .i64 x) (.int .i64 y) (.int .i64 z))
          generalize hq : (((w3.drewN n4).setCell ⟨w.heap.size + 1 + 1, 0, none⟩ (.int .i64 x)).setCell ⟨w.heap.size + 1 + 1, 1, none⟩ (.int .i64 y)).setCell ⟨w.heap.size + 1 + 1, 2, none⟩ (.int .i64 z) = W2 at HQ HBQ ⊢
          have g0 : W2.cell? ⟨w.heap.size + 1 + 1, 0, none⟩ = some (.int .i64 x) := (blk_cell HQ.out 0).trans rfl
          have g1 : W2.cell? ⟨w.heap.size + 1 + 1, 1, none⟩ = some (.int .i64 y) := (blk_cell HQ.out 1).trans rfl
          have g2 : W2.cell? ⟨w.heap.size + 1 + 1, 2, none⟩ = some (.int .i64 z) := (blk_cell HQ.out 2).trans rfl
          exact bodyPost_ret (v := .tuple #[.agg #[(.int .i64 x), (.int .i64 y), (.int .i64 z)], .int .i64 0]) (by simp [results, Try.results17, go_sem, g0, g1, g2]) rfl ⟨rfl, HBQ.out⟩
        | false =>
          rw [if_neg (by simp)] at h
          simp only [Option.some.injEq, Prod.mk.injEq] at h
          obtain ⟨rfl, rfl, rfl, rfl⟩ := h
          go_enter Try.func17, Try.ntmps17
          go_wp2_with (first | (go_at_call 20; (refine (ecc_Room.calls _ _ _ _ _ (l1.length : Int) 0 _ HR.out).mono ?_); rintro e w1 ⟨rfl, hb⟩; rw [← HW.out] at hb; have HP1 := Aside0.mk (HP.out.later hb); have HC1 := Aside0.mk (Kd.C_below HC.out HP1.out.below); clear hb; have c0 : w1.cell? ⟨w.heap.size + 1, 0, none⟩ = some (.slice A1 l1.length c1) := (blk_cell HP1.out.bd 0).trans rfl)  | (go_at_call 25; (with_reducible refine (at_calls4 (w.heap.size + 1) A1 c1 l1 x _ c0 HC1.out HX.out).mono ?_); rintro e w' ⟨rfl, n4, rfl⟩) | (go_at_call 25; (with_reducible refine (at_calls8 (w.heap.size + 1) A1 c1 l1 y _ (drew_cell c0 _) (Kd.C_drewN HC1.out _) HY.out).mono ?_); rintro e w' ⟨rfl, n8, rfl⟩) | (go_at_call 25; (with_reducible refine (at_calls12 (w.heap.size + 1) A1 c1 l1 z _ (drew_cell c0 _) (Kd.C_drewN HC1.out _) HZ.out).mono ?_); rintro e wc ⟨rfl, n12, hn⟩; have hbc : Below w1.heap.size w1 wc := (by rw [hn]; repeat (first | exact Below.refl _ _ | refine pw_below_drewN ?_ _)); clear hn; have HPc := Aside0.mk (HP1.out.later hbc); have HCc := Aside0.mk (Kd.C_below HC1.out hbc); clear hbc c0 HP1 HC1; have d0 : (wc.alloc (.cells #[.int .i64 x, .int .i64 y, .int .i64 z] 25)).cell? ⟨w.heap.size, 0, none⟩ = some (.int .i64 a0_0) := cell_al _ ((blk_cell HPc.out.bg 0).trans rfl); have d1 : (wc.alloc (.cells #[.int .i64 x, .int .i64 y, .int .i64 z] 25)).cell? ⟨w.heap.size, 1, none⟩ = some (.int .i64 a0_1) := cell_al _ ((blk_cell HPc.out.bg 1).trans rfl); have d2 : (wc.alloc (.cells #[.int .i64 x, .int .i64 y, .int .i64 z] 25)).cell? ⟨w.heap.size, 2, none⟩ = some (.int .i64 a0_2) := cell_al _ ((blk_cell HPc.out.bg 2).trans rfl); have d3 : (wc.alloc (.cells #[.int .i64 x, .int .i64 y, .int .i64 z] 25)).cell? ⟨w.heap.size, 3, none⟩ = some (.int .i64 a0_3) := cell_al _ ((blk_cell HPc.out.bg 3).trans rfl); have d4 : (wc.alloc (.cells #[.int .i64 x, .int .i64 y, .int .i64 z] 25)).cell? ⟨w.heap.size, 4, none⟩ = some (.int .i64 a0_4) := cell_al _ ((blk_cell HPc.out.bg 4).trans rfl); have hz0 : w.heap.size + 1 + 1 < wc.heap.size := blk_lt HPc.out.br)  | (go_at_call 10; (refine (head_Bytes.calls a0_0 a0_1 a0_2 a0_3 a0_4 x y z q1 _ _ HQ0.out).mono ?_); rintro e w3 ⟨v, rfl, hR, hb⟩; have HB1 := Aside0.mk (below_step (below_alloc (Below.refl _ wc) _) hb); have HP3 := Aside0.mk (HPc.out.later HB1.out); have HO := Aside0.mk hR; have B9 := Aside0.mk (blk_below (blk_new wc (.cells #[.int .i64 x, .int .i64 y, .int .i64 z] 25)) hb); have HC3 := Aside0.mk (Kd.C_below HCc.out HB1.out); clear hR hb d0 d1 d2 d3 d4 hz0; have c0 : w3.cell? ⟨w.heap.size + 1, 0, none⟩ = some (.slice A1 l1.length c1) := (blk_cell HP3.out.bd 0).trans rfl; obtain ⟨A2, c2, eo⟩ := Kd.R_slice HO.out; subst eo; have b0 : w3.cell? ⟨wc.heap.size, 0, none⟩ = some (.int .i64 x) := (blk_cell B9.out 0).trans rfl; have b1 : w3.cell? ⟨wc.heap.size, 1, none⟩ = some (.int .i64 y) := (blk_cell B9.out 1).trans rfl; have b2 : w3.cell? ⟨wc.heap.size, 2, none⟩ = some (.int .i64 z) := (blk_cell B9.out 2).trans rfl; have f0 : w3.cell? ⟨w.heap.size + 1 + 1, 0, none⟩ = some (.int .i64 0) := (blk_cell HP3.out.br 0).trans rfl; have k0 := blk_frozen HP3.out.br 0; have f1 : w3.cell? ⟨w.heap.size + 1 + 1, 1, none⟩ = some (.int .i64 0) := (blk_cell HP3.out.br 1).trans rfl; have k1 := blk_frozen HP3.out.br 1; have f2 : w3.cell? ⟨w.heap.size + 1 + 1, 2, none⟩ = some (.int .i64 0) := (blk_cell HP3.out.br 2).trans rfl; have k2 := blk_frozen HP3.out.br 2)  | (go_at_call 26; (refine (bytes_Equal.calls A2 c2 q1 A1 c1 l1 false _ (Kd.R_reads' HO.out).2.2 (Kd.R_reads' HO.out).2.1 HC3.out HCC.out HE.out).mono ?_); rintro e w4 ⟨rfl, ⟨n4, rfl⟩⟩; have HP4 := Aside0.mk (HP3.out.later (pw_below_drewN (Below.refl w3.heap.size w3) n4))))
          have HQ := Aside0.mk (set3 HP4.out.br (.int .i64 0) (.int .i64 0) (.int .i64 0))
          have HBQ := Aside0.mk (set3_below (Nat.le_trans (Nat.le_add_right _ 2) (Nat.le_refl _) : w.heap.size ≤ w.heap.size + 1 + 1) HP4.out.below (.int .i64 0) (.int .i64 0) (.int .i64 0))
          generalize hq : (((w3.drewN n4).setCell ⟨w.heap.size + 1 + 1, 0, none⟩ (.int .i64 0)).setCell ⟨w.heap.size + 1 + 1, 1, none⟩ (.int .i64 0)).setCell ⟨w.heap.size + 1 + 1, 2, none⟩ (.int .i64 0) = W2 at HQ HBQ ⊢
          have g0 : W2.cell? ⟨w.heap.size + 1 + 1, 0, none⟩ = some (.int .i64 0) := (blk_cell HQ.out 0).trans rfl
          have g1 : W2.cell? ⟨w.heap.size + 1 + 1, 1, none⟩ = some (.int .i64 0) := (blk_cell HQ.out 1).trans rfl
          have g2 : W2.cell? ⟨w.heap.size + 1 + 1, 2, none⟩ = some (.int .i64 0) := (blk_cell HQ.out 2).trans rfl
          exact bodyPost_ret (v := .tuple #[.agg #[(.int .i64 0), (.int .i64 0), (.int .i64 0)], .int .i64 4]) (by simp [results, Try.results17, go_sem, g0, g1, g2]) rfl ⟨rfl, HBQ.out⟩
      · rw [if_neg h2] at h
        simp only [Option.some.injEq, Prod.mk.injEq] at h
        obtain ⟨rfl, rfl, rfl, rfl⟩ := h
        have he1 : (q2 == 0) = false := beq_eq_false_iff_ne.2 h2
        have he2 : (q2 != 0) = true := bne_iff_ne.2 h2
        clear h2
        go_enter Try.func17, Try.ntmps17
        go_wp2_with (first | (go_at_call 20; (refine (ecc_Room.calls _ _ _ _ _ (l1.length : Int) 0 _ HR.out).mono ?_); rintro e w1 ⟨rfl, hb⟩; rw [← HW.out] at hb; have HP1 := Aside0.mk (HP.out.later hb); have HC1 := Aside0.mk (Kd.C_below HC.out HP1.out.below); clear hb; have c0 : w1.cell? ⟨w.heap.size + 1, 0, none⟩ = some (.slice A1 l1.length c1) := (blk_cell HP1.out.bd 0).trans rfl)  | (go_at_call 25; (with_reducible refine (at_calls4 (w.heap.size + 1) A1 c1 l1 x _ c0 HC1.out HX.out).mono ?_); rintro e w' ⟨rfl, n4, rfl⟩) | (go_at_call 25; (with_reducible refine (at_calls8 (w.heap.size + 1) A1 c1 l1 y _ (drew_cell c0 _) (Kd.C_drewN HC1.out _) HY.out).mono ?_); rintro e w' ⟨rfl, n8, rfl⟩) | (go_at_call 25; (with_reducible refine (at_calls12 (w.heap.size + 1) A1 c1 l1 z _ (drew_cell c0 _) (Kd.C_drewN HC1.out _) HZ.out).mono ?_); rintro e wc ⟨rfl, n12, hn⟩; have hbc : Below w1.heap.size w1 wc := (by rw [hn]; repeat (first | exact Below.refl _ _ | refine pw_below_drewN ?_ _)); clear hn; have HPc := Aside0.mk (HP1.out.later hbc); have HCc := Aside0.mk (Kd.C_below HC1.out hbc); clear hbc c0 HP1 HC1; have d0 : (wc.alloc (.cells #[.int .i64 x, .int .i64 y, .int .i64 z] 25)).cell? ⟨w.heap.size, 0, none⟩ = some (.int .i64 a0_0) := cell_al _ ((blk_cell HPc.out.bg 0).trans rfl); have d1 : (wc.alloc (.cells #[.int .i64 x, .int .i64 y, .int .i64 z] 25)).cell? ⟨w.heap.size, 1, none⟩ = some (.int .i64 a0_1) := cell_al _ ((blk_cell HPc.out.bg 1).trans rfl); have d2 : (wc.alloc (.cells #[.int .i64 x, .int .i64 y, .int .i64 z] 25)).cell? ⟨w.heap.size, 2, none⟩ = some (.int .i64 a0_2) := cell_al _ ((blk_cell HPc.out.bg 2).trans rfl); have d3 : (wc.alloc (.cells #[.int .i64 x, .int .i64 y, .int .i64 z] 25)).cell? ⟨w.heap.size, 3, none⟩ = some (.int .i64 a0_3) := cell_al _ ((blk_cell HPc.out.bg 3).trans rfl); have d4 : (wc.alloc (.cells #[.int .i64 x, .int .i64 y, .int .i64 z] 25)).cell? ⟨w.heap.size, 4, none⟩ = some (.int .i64 a0_4) := cell_al _ ((blk_cell HPc.out.bg 4).trans rfl); have hz0 : w.heap.size + 1 + 1 < wc.heap.size := blk_lt HPc.out.br)  | (go_at_call 10; (refine (head_Bytes.calls a0_0 a0_1 a0_2 a0_3 a0_4 x y z q1 _ _ HQ0.out).mono ?_); rintro e w3 ⟨v, rfl, hR, hb⟩; have HB1 := Aside0.mk (below_step (below_alloc (Below.refl _ wc) _) hb); have HP3 := Aside0.mk (HPc.out.later HB1.out); have HO := Aside0.mk hR; have B9 := Aside0.mk (blk_below (blk_new wc (.cells #[.int .i64 x, .int .i64 y, .int .i64 z] 25)) hb); have HC3 := Aside0.mk (Kd.C_below HCc.out HB1.out); clear hR hb d0 d1 d2 d3 d4 hz0; have c0 : w3.cell? ⟨w.heap.size + 1, 0, none⟩ = some (.slice A1 l1.length c1) := (blk_cell HP3.out.bd 0).trans rfl; obtain ⟨A2, c2, eo⟩ := Kd.R_slice HO.out; subst eo; have b0 : w3.cell? ⟨wc.heap.size, 0, none⟩ = some (.int .i64 x) := (blk_cell B9.out 0).trans rfl; have b1 : w3.cell? ⟨wc.heap.size, 1, none⟩ = some (.int .i64 y) := (blk_cell B9.out 1).trans rfl; have b2 : w3.cell? ⟨wc.heap.size, 2, none⟩ = some (.int .i64 z) := (blk_cell B9.out 2).trans rfl; have f0 : w3.cell? ⟨w.heap.size + 1 + 1, 0, none⟩ = some (.int .i64 0) := (blk_cell HP3.out.br 0).trans rfl; have k0 := blk_frozen HP3.out.br 0; have f1 : w3.cell? ⟨w.heap.size + 1 + 1, 1, none⟩ = some (.int .i64 0) := (blk_cell HP3.out.br 1).trans rfl; have k1 := blk_frozen HP3.out.br 1; have f2 : w3.cell? ⟨w.heap.size + 1 + 1, 2, none⟩ = some (.int .i64 0) := (blk_cell HP3.out.br 2).trans rfl; have k2 := blk_frozen HP3.out.br 2) )
        have HQ := Aside0.mk (set3 HP3.out.br (.int .i64 0) (.int .i64 0) (.int .i64 0))
        have HBQ := Aside0.mk (set3_below (Nat.le_trans (Nat.le_add_right _ 2) (Nat.le_refl _) : w.heap.size ≤ w.heap.size + 1 + 1) HP3.out.below (.int .i64 0) (.int .i64 0) (.int .i64 0))
        generalize hq : ((w3.setCell ⟨w.heap.size + 1 + 1, 0, none⟩ (.int .i64 0)).setCell ⟨w.heap.size + 1 + 1, 1, none⟩ (.int .i64 0)).setCell ⟨w.heap.size + 1 + 1, 2, none⟩ (.int .i64 0) = W2 at HQ HBQ ⊢
        have g0 : W2.cell? ⟨w.heap.size + 1 + 1, 0, none⟩ = some (.int .i64 0) := (blk_cell HQ.out 0).trans rfl
        have g1 : W2.cell? ⟨w.heap.size + 1 + 1, 1, none⟩ = some (.int .i64 0) := (blk_cell HQ.out 1).trans rfl
        have g2 : W2.cell? ⟨w.heap.size + 1 + 1, 2, none⟩ = some (.int .i64 0) := (blk_cell HQ.out 2).trans rfl
        exact bodyPost_ret (v := .tuple #[.agg #[(.int .i64 0), (.int .i64 0), (.int .i64 0)], .int .i64 4]) (by simp [results, Try.results17, go_sem, g0, g1, g2]) rfl ⟨rfl, HBQ.out⟩
    · rw [if_neg hl] at h
      simp only [Option.some.injEq, Prod.mk.injEq] at h
      obtain ⟨rfl, rfl, rfl, rfl⟩ := h
      have he1 : ((l1.length : Int) == room) = false := beq_eq_false_iff_ne.2 hl
      have he2 : ((l1.length : Int) != room) = true := bne_iff_ne.2 hl
      clear hl
      go_enter Try.func17, Try.ntmps17
      go_wp2_with (first | (go_at_call 20; (refine (ecc_Room.calls _ _ _ _ _ room 0 _ HR.out).mono ?_); rintro e w1 ⟨rfl, hb⟩; rw [← HW.out] at hb; have HP1 := Aside0.mk (HP.out.later hb); have HC1 := Aside0.mk (Kd.C_below HC.out HP1.out.below); clear hb; have c0 : w1.cell? ⟨w.heap.size + 1, 0, none⟩ = some (.slice A1 l1.length c1) := (blk_cell HP1.out.bd 0).trans rfl; have f0 : w1.cell? ⟨w.heap.size + 1 + 1, 0, none⟩ = some (.int .i64 0) := (blk_cell HP1.out.br 0).trans rfl; have k0 := blk_frozen HP1.out.br 0; have f1 : w1.cell? ⟨w.heap.size + 1 + 1, 1, none⟩ = some (.int .i64 0) := (blk_cell HP1.out.br 1).trans rfl; have k1 := blk_frozen HP1.out.br 1; have f2 : w1.cell? ⟨w.heap.size + 1 + 1, 2, none⟩ = some (.int .i64 0) := (blk_cell HP1.out.br 2).trans rfl; have k2 := blk_frozen HP1.out.br 2))
      have HQ := Aside0.mk (set3 HP1.out.br (.int .i64 0) (.int .i64 0) (.int .i64 0))
      have HBQ := Aside0.mk (set3_below (Nat.le_trans (Nat.le_add_right _ 2) (Nat.le_refl _) : w.heap.size ≤ w.heap.size + 1 + 1) HP1.out.below (.int .i64 0) (.int .i64 0) (.int .i64 0))
      generalize hq : ((w1.setCell ⟨w.heap.size + 1 + 1, 0, none⟩ (.int .i64 0)).setCell ⟨w.heap.size + 1 + 1, 1, none⟩ (.int .i64 0)).setCell ⟨w.heap.size + 1 + 1, 2, none⟩ (.int .i64 0) = W2 at HQ HBQ ⊢
      have g0 : W2.cell? ⟨w.heap.size + 1 + 1, 0, none⟩ = some (.int .i64 0) := (blk_cell HQ.out 0).trans rfl
      have g1 : W2.cell? ⟨w.heap.size + 1 + 1, 1, none⟩ = some (.int .i64 0) := (blk_cell HQ.out 1).trans rfl
      have g2 : W2.cell? ⟨w.heap.size + 1 + 1, 2, none⟩ = some (.int .i64 0) := (blk_cell HQ.out 2).trans rfl
      exact bodyPost_ret (v := .tuple #[.agg #[(.int .i64 0), (.int .i64 0), (.int .i64 0)], .int .i64 1]) (by simp [results, Try.results17, go_sem, g0, g1, g2]) rfl ⟨rfl, HBQ.out⟩

  · rw [if_neg he] at h
    simp only [Option.some.injEq, Prod.mk.injEq] at h
    obtain ⟨rfl, rfl, rfl, rfl⟩ := h
    have he1 : (er == 0) = false := beq_eq_false_iff_ne.2 he
    have he2 : (er != 0) = true := bne_iff_ne.2 he
    clear he
    go_enter Try.func17, Try.ntmps17
    go_wp2_with (first | (go_at_call 20; (refine (ecc_Room.calls _ _ _ _ _ room er _ HR.out).mono ?_); rintro e w1 ⟨rfl, hb⟩; rw [← HW.out] at hb; have HP1 := Aside0.mk (HP.out.later hb); clear hb; have c0 : w1.cell? ⟨w.heap.size + 1, 0, none⟩ = some (.slice A1 l1.length c1) := (blk_cell HP1.out.bd 0).trans rfl; have f0 : w1.cell? ⟨w.heap.size + 1 + 1, 0, none⟩ = some (.int .i64 0) := (blk_cell HP1.out.br 0).trans rfl; have f1 : w1.cell? ⟨w.heap.size + 1 + 1, 1, none⟩ = some (.int .i64 0) := (blk_cell HP1.out.br 1).trans rfl; have f2 : w1.cell? ⟨w.heap.size + 1 + 1, 2, none⟩ = some (.int .i64 0) := (blk_cell HP1.out.br 2).trans rfl; have k0 := blk_frozen HP1.out.br 0; have k1 := blk_frozen HP1.out.br 1; have k2 := blk_frozen HP1.out.br 2))
    have HQ := Aside0.mk (set3 HP1.out.br (.int .i64 0) (.int .i64 0) (.int .i64 0))
    have HBQ := Aside0.mk (set3_below (Nat.le_trans (Nat.le_add_right _ 2) (Nat.le_refl _) : w.heap.size ≤ w.heap.size + 1 + 1) HP1.out.below (.int .i64 0) (.int .i64 0) (.int .i64 0))
    generalize hq : ((w1.setCell ⟨w.heap.size + 1 + 1, 0, none⟩ (.int .i64 0)).setCell ⟨w.heap.size + 1 + 1, 1, none⟩ (.int .i64 0)).setCell ⟨w.heap.size + 1 + 1, 2, none⟩ (.int .i64 0) = W2 at HQ HBQ ⊢
    have g0 : W2.cell? ⟨w.heap.size + 1 + 1, 0, none⟩ = some (.int .i64 0) := (blk_cell HQ.out 0).trans rfl
    have g1 : W2.cell? ⟨w.heap.size + 1 + 1, 1, none⟩ = some (.int .i64 0) := (blk_cell HQ.out 1).trans rfl
    have g2 : W2.cell? ⟨w.heap.size + 1 + 1, 2, none⟩ = some (.int .i64 0) := (blk_cell HQ.out 2).trans rfl
    exact bodyPost_ret (v := .tuple #[.agg #[.int .i64 0, .int .i64 0, .int .i64 0], .int .i64 1]) (by simp [results, Try.results17, go_sem, g0, g1, g2]) rfl ⟨rfl, HBQ.out⟩

/-! ### casematelaw09_tiny: function 23 -/
def casematelaw09_tiny.f  : Option (Int × Int × Int × Int × Int) := some (1, 3, 1, 16, 1)
set_option maxHeartbeats 8000000 in
set_option maxRecDepth 100000 in
theorem casematelaw09_tiny.calls  (r1 : Int) (r2 : Int) (r3 : Int) (r4 : Int) (r5 : Int) (w : World) (h : casematelaw09_tiny.f  = some (r1, r2, r3, r4, r5)) :
    Calls Try.prog 23 #[] w fun e w' => e = .returned (.agg #[.int .i64 r1, .int .i64 r2, .int .i64 r3, .int .i64 r4, .int .i64 r5]) ∧ Below w.heap.size w w' := by
  have hu23 := Try.underlying23
  have HB := Aside0.mk (Below.refl w.heap.size w)
  have H : (some (1, 3, 1, 16, 1)) = some (r1, r2, r3, r4, r5) := h
  clear h
  simp only [Option.some.injEq, Prod.mk.injEq] at H
  obtain ⟨rfl, rfl, rfl, rfl, rfl⟩ := H
  go_enter Try.func23, Try.ntmps23
  go_wp2_with (first | ((with_reducible refine gate_dst (N := 0) rfl ?_); refine box_event ?hg (N := 0) ?hd (cs := #[.int .i64 0, .int .i64 0, .int .i64 0, .int .i64 0, .int .i64 0]) (t := 23) ?hr ?_; (case hd => rfl); (case hg => rfl); (case hr => first | (go_simp; done) | (go_simp; rfl)); intro gb122 hg w1 hbox hb; have n0_ := Aside0.mk (below_step (by repeat (first | (with_reducible first | exact HB.out | apply below_alloc | apply pw_below_drewN | apply below_drew1) | exact HB.out)) hb); have n1_ := Aside0.mk (hbox); have n2_ := Aside0.mk ((by rw [hg]; exact (below_size (by repeat (first | (with_reducible first | exact HB.out | apply below_alloc | apply pw_below_drewN | apply below_drew1) | exact HB.out))) : w.heap.size ≤ gb122)); have n3_ := Aside0.mk ((by rw [hg]; exact (below_size (by repeat (first | (with_reducible first | exact HB.out | apply below_alloc | apply pw_below_drewN | apply below_drew1) | exact HB.out))) : w.heap.size ≤ gb122)); clear HB; have HB := n0_; have BK122 := n1_; have GW122 := n2_; have GE122 := n3_; clear n0_ n1_ n2_ n3_; clear hb hbox hg; have hcz2_0 : w1.cell? ⟨gb122, 0, none⟩ = some (.int .i64 0) := (blk_cell BK122.out 0).trans rfl; have hcz2_1 : w1.cell? ⟨gb122, 1, none⟩ = some (.int .i64 0) := (blk_cell BK122.out 1).trans rfl; have hcz2_2 : w1.cell? ⟨gb122, 2, none⟩ = some (.int .i64 0) := (blk_cell BK122.out 2).trans rfl; have hcz2_3 : w1.cell? ⟨gb122, 3, none⟩ = some (.int .i64 0) := (blk_cell BK122.out 3).trans rfl; have hcz2_4 : w1.cell? ⟨gb122, 4, none⟩ = some (.int .i64 0) := (blk_cell BK122.out 4).trans rfl; have hfz2_0 := blk_frozen BK122.out 0; have hfz2_1 := blk_frozen BK122.out 1; have hfz2_2 := blk_frozen BK122.out 2; have hfz2_3 := blk_frozen BK122.out 3; have hfz2_4 := blk_frozen BK122.out 4))
  refine bodyPost_ret (results_cell_row rfl _ _ gb122 23 #[.int .i64 1, .int .i64 3, .int .i64 1, .int .i64 16, .int .i64 1] (0, 0) _ rfl (by (with_reducible repeat (first | refine blk_drewN ?_ _ | refine blk_drew ?_ | refine blk_alloc ?_ _)); refine blk_put (cs := #[.int .i64 1, .int .i64 3, .int .i64 1, .int .i64 16, .int .i64 0]) ?_ 4 _ rfl; (with_reducible repeat (first | refine blk_drewN ?_ _ | refine blk_drew ?_ | refine blk_alloc ?_ _)); refine blk_put (cs := #[.int .i64 1, .int .i64 3, .int .i64 1, .int .i64 0, .int .i64 0]) ?_ 3 _ rfl; (with_reducible repeat (first | refine blk_drewN ?_ _ | refine blk_drew ?_ | refine blk_alloc ?_ _)); refine blk_put (cs := #[.int .i64 1, .int .i64 3, .int .i64 0, .int .i64 0, .int .i64 0]) ?_ 2 _ rfl; (with_reducible repeat (first | refine blk_drewN ?_ _ | refine blk_drew ?_ | refine blk_alloc ?_ _)); refine blk_put (cs := #[.int .i64 1, .int .i64 0, .int .i64 0, .int .i64 0, .int .i64 0]) ?_ 1 _ rfl; (with_reducible repeat (first | refine blk_drewN ?_ _ | refine blk_drew ?_ | refine blk_alloc ?_ _)); refine blk_put (cs := #[.int .i64 0, .int .i64 0, .int .i64 0, .int .i64 0, .int .i64 0]) ?_ 0 _ rfl; (with_reducible repeat (first | refine blk_drewN ?_ _ | refine blk_drew ?_ | refine blk_alloc ?_ _)); exact BK122.out) Try.underlying23 rfl (by kernel_rfl)) rfl ?_
  exact ⟨by first | rfl | (simp [errW_none, errW_some] <;> rfl) | (simp [*, errW_none, errW_some] <;> rfl), by repeat (first | (with_reducible first | exact HB.out | apply below_alloc | apply pw_below_drewN | apply below_drew1 | refine below_set ?_ GE122.out) | exact HB.out)⟩

end Go.Proofs.Ytlaadaigffmibaa.P

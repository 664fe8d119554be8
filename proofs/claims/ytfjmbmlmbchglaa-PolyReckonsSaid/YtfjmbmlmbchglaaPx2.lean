/- What Go functions of the translation come to, as plain functions, and that their calls come to just that. No condition but that the plain function answers. (Written by a program of this session.) -/
import Derived.Test.YtfjmbmlmbchglaaPx0
import Derived.Test.YtfjmbmlmbchglaaPx1
namespace Go.Proofs.Ytfjmbmlmbchglaa.P
open Go.RowKit Go.Proofs.YtfjmbmlmbchglaaW.PrintWords Go.Proofs.YtfjmbmlmbchglaaW.PrintLast Go.Proofs.YtfjmbmlmbchglaaW.PrintMore
attribute [local go_sem] max2_int min2_int max_two min_two max_three min_three max_four min_four   -- for this text's walks alone
set_option linter.unusedVariables false
set_option linter.unusedSimpArgs false

/-! ### poly_build: function 33 -/
theorem ginfo_int : (Try.prog.info? 3).map (fun i => (i.zero, i.size, i.bytes)) = some (some (.int .i64 0), 1, 8) := by kernel_rfl
/-- out[i] ^= a, out in a box. -/
theorem put_calls (B g i n cap : Nat) (x a : Int) (w : World) (hb : w.cell? ⟨B, 0, none⟩ = some (.slice (some ⟨g, 0, none⟩) n cap)) (hi : i < n) (hm : n ≤ 9223372036854775807) (hx : w.cell? ⟨g, i, none⟩ = some (.int .i64 x)) (hf : w.frozen? ⟨g, i, none⟩ = false) :
    Calls Try.prog 46 #[.int .i64 (i : Int), .int .i64 a, .pointer (some ⟨B, 0, none⟩)] w fun e w' => e = .returned (.tuple #[]) ∧ w' = w.setCell ⟨g, i, none⟩ (.int .i64 (Go.bits .xor .i64 x a)) := by
  go_enter Try.func46, Try.ntmps46
  go_wp2
  go_end0
  exact ⟨rfl, rfl⟩
theorem rd_nat' (xs : List Int) (i : Nat) : rd xs (i : Int) = xs.getD i 0 := by unfold rd; rw [Int.toNat_natCast]
/-- What norm answers: how many are left. -/
def NormAns (l : List Int) (A : Option Addr) (c : Nat) (w : World) (e : Ending) (w' : World) : Prop := ∃ m : Nat, m ≤ l.length ∧ e = .returned (.slice A m c) ∧ (∀ j, m ≤ j → l.getD j 0 = 0) ∧ (0 < m → l.getD (m - 1) 0 ≠ 0) ∧ w = w'
theorem norm_calls (A : Option Addr) (c : Nat) (l : List Int) (w : World) (hr : Kd.C (Kd.int .i64) w A l.length l) (hc : l.length ≤ c) :
    Calls Try.prog 31 #[.slice A l.length c] w (NormAns l A c w) := by
  have hm : l.length ≤ 9223372036854775807 := hr.2.1
  go_enter Try.func31, Try.ntmps31
  go_wp2
  go_loop [0] (fun v => ∃ m : Nat, m ≤ l.length ∧ v = .slice A m c ∧ (∀ j, m ≤ j → l.getD j 0 = 0)) (fun v => match v with | .slice _ m _ => m | _ => 0)
  case atStart => exact ⟨l.length, Nat.le_refl _, rfl, fun j hj => by simp [List.getElem?_eq_none hj]⟩
  case round =>
    obtain ⟨m, hml, rfl, hz⟩ := hrel
    have HZ := Aside0.mk hz
    clear hz
    by_cases h0 : 0 < m
    · obtain ⟨ad, rfl, hx0⟩ := Kd.at_int hr ((m - 1 : Nat) : Int) (by omega) (by omega)
      obtain ⟨z, hz⟩ : ∃ z, z = l.getD (m - 1) 0 := ⟨_, rfl⟩
      have hx : w.cell? (ad.add (m - 1)) = some (.int .i64 z) := by
        have := hx0
        rw [rd_nat', Int.toNat_natCast] at this
        rw [hz]; exact this
      have HV := Aside0.mk hz
      have hd : decide (0 < (m : Int)) = true := decide_eq_true (by omega)
      have hd2 : decide (0 < m) = true := decide_eq_true h0
      clear hx0 hz
      by_cases hz0 : z = 0
      · have hb : (z == 0) = true := beq_iff_eq.2 hz0
        have H0 := Aside0.mk hz0
        clear hz0
        go_wp2
        go_round
        case rel =>
          refine ⟨m - 1, by omega, rfl, fun j hj => ?_⟩
          by_cases e : j = m - 1
          · subst e; rw [← HV.out, H0.out]
          · exact HZ.out j (by omega)
        case measure => show m - 1 < m; omega
      · have hb : (z == 0) = false := beq_eq_false_iff_ne.2 hz0
        have H0 := Aside0.mk hz0
        clear hz0
        go_wp2
        go_ret
        exact ⟨m, hml, rfl, HZ.out, fun _ => by rw [← HV.out]; exact H0.out, rfl⟩
    · have hm0 : m = 0 := by omega
      subst hm0
      go_wp2
      go_ret
      exact ⟨0, hml, rfl, HZ.out, fun h => absurd h (by omega), rfl⟩

/-- A row of the call's own, behind a box that holds it. -/
structure PutSt (w0 : World) (B g cap : Nat) (l : List Int) (w : World) : Prop where
  box : w.heap[B]? = some (.cells #[.slice (some ⟨g, 0, none⟩) l.length cap] 22 (0, 0))
  row : w.ownsRow w0.heap.size 3 1 (.slice (some ⟨g, 0, none⟩) l.length cap) l.length (encs (Value.int .i64) l)
  below : Below w0.heap.size w0 w
  ge : w0.heap.size ≤ B
  ne : g ≠ B
theorem PutSt.drewN {w0 : World} {B g cap : Nat} {l : List Int} {w : World} (h : PutSt w0 B g cap l w) (n : Nat) : PutSt w0 B g cap l (w.drewN n) :=
  ⟨h.box, own_move h.row (fun _ _ => rfl), pw_below_drewN h.below n, h.ge, h.ne⟩
theorem PutSt.maxl {w0 : World} {B g cap : Nat} {l : List Int} {w : World} (h : PutSt w0 B g cap l w) : l.length ≤ 9223372036854775807 ∧ l.length ≤ cap := by
  rcases h.row.2 with ⟨h', _⟩ | ⟨g', cap', cur, h', _, hh, h1, h2, _⟩
  · cases h'
  · have : cap = cap' := by injection h'
    subst this
    unfold maxLen at h2
    omega
theorem PutSt.cells {w0 : World} {B g cap : Nat} {l : List Int} {w : World} (h : PutSt w0 B g cap l w) : w.cell? ⟨B, 0, none⟩ = some (.slice (some ⟨g, 0, none⟩) l.length cap) := by
  rw [cell_of_row w B _ _ _ _ h.box]; rfl
theorem PutSt.at {w0 : World} {B g cap : Nat} {l : List Int} {w : World} (h : PutSt w0 B g cap l w) {i : Nat} (hi : i < l.length) : w.cell? ⟨g, i, none⟩ = some (.int .i64 (l.getD i 0)) ∧ w.frozen? ⟨g, i, none⟩ = false := by
  have := own_at_of (enc := Value.int .i64) (d := (0 : Int)) h.row (i : Int) (by omega) (by omega)
  simpa [rdOf] using this
theorem PutSt.set {w0 : World} {B g cap : Nat} {l : List Int} {w : World} (h : PutSt w0 B g cap l w) (i : Nat) (x : Int) : PutSt w0 B g cap (l.set i x) (w.setCell ⟨g, i, none⟩ (.int .i64 x)) := by
  have := own_store_of (enc := Value.int .i64) h.row (i : Int) x
  rw [Int.toNat_natCast] at this
  have hg : w0.heap.size ≤ g := own_base h.row g (by simp [Value.ownBlock])
  refine ⟨?_, by rw [List.length_set]; exact this.1, h.below.setCell (p := ⟨g, i, none⟩) hg _, h.ge, h.ne⟩
  rw [List.length_set]
  exact (Below.heap_setCell w ⟨g, i, none⟩ _ B (fun e => h.ne e.symm)).trans h.box
theorem put_st {w0 : World} {B g cap : Nat} {l : List Int} {w : World} (h : PutSt w0 B g cap l w) (i : Nat) (hi : i < l.length) (a : Int) :
    Calls Try.prog 46 #[.int .i64 (i : Int), .int .i64 a, .pointer (some ⟨B, 0, none⟩)] w fun e w' => e = .returned (.tuple #[]) ∧ PutSt w0 B g cap (l.set i (Go.bits .xor .i64 (l.getD i 0) a)) w' := by
  refine (put_calls B g i l.length cap (l.getD i 0) a w h.cells hi h.maxl.1 (h.at hi).1 (h.at hi).2).mono ?_
  rintro e w' ⟨rfl, rfl⟩
  exact ⟨rfl, h.set i _⟩
def layL (m : Int → Option Int) : List Int → Nat → List Int → Option (List Int)
  | [], _, l => some l
  | a :: p, i, l => (m a).bind fun t => if i < l.length then layL m p (i + 1) (l.set i (Go.bits .xor .i64 (l.getD i 0) t)) else none
theorem lay_calls (k : Nat) (w0 : World) (B g cap : Nat) (A : Option Addr) (c : Nat) (p : List Int) (hr : Kd.C (Kd.int .i64) w0 A p.length p) (from_ : Nat) (by_ : Int) (l r : List Int) (w : World) (hst : PutSt w0 B g cap l w) (h : layL (fun a => poly_mul.f k a by_) p from_ l = some r) :
    Calls Try.prog 35 #[.func (.func 46) #[] #[.pointer (some ⟨B, 0, none⟩)], .slice A p.length c, .int .i64 (from_ : Int), .int .i64 by_] w fun e w' => e = .returned (.tuple #[]) ∧ PutSt w0 B g cap r w' := by
  have hpm : p.length ≤ 9223372036854775807 := hr.2.1
  have HR := Aside0.mk hr
  have HS := Aside0.mk hst
  have HL := Aside0.mk h
  clear hr hst h
  go_enter Try.func35, Try.ntmps35
  go_wp2
  go_loopw [12] (fun i w' => ∃ (j : Nat) (lj : List Int), j ≤ p.length ∧ i = .int .i64 (j : Int) ∧ Aside0 (PutSt w0 B g cap lj w') ∧ Aside0 (layL (fun a => poly_mul.f k a by_) (p.drop j) (from_ + j) lj = some r)) (fun i _ => p.length - (intOf i).toNat)
  case atStart => exact ⟨0, l, Nat.zero_le _, rfl, HS, HL⟩
  case round =>
    clear HS HL
    obtain ⟨j, lj, hj, rfl, HS, HL⟩ := hrel
    by_cases hlt : j < p.length
    · have hd : p.drop j = p[j] :: p.drop (j + 1) := List.drop_eq_getElem_cons hlt
      have HL' := HL.out
      rw [hd] at HL'
      simp only [layL] at HL'
      obtain ⟨t, ht, HL2⟩ := Option.bind_eq_some_iff.1 HL'
      by_cases hin : from_ + j < lj.length
      · rw [if_pos hin] at HL2
        have HT := Aside0.mk ht
        have HN := Aside0.mk HL2
        have hmx := HS.out.maxl.1
        obtain ⟨ad, hA, hx0⟩ := Kd.at_int (Kd.C_below HR.out HS.out.below) (j : Int) (by omega) (by omega)
        have hx : wr.cell? (ad.add j) = some (.int .i64 p[j]) := by
          have := hx0
          rw [rd_nat', Int.toNat_natCast] at this
          rw [this]; simp [hlt]
        have HA := Aside0.mk hA
        subst hA
        clear hx0 HL2 HL' ht hd HL
        have hb1 : (from_ : Int) + (j : Int) ≤ 9223372036854775807 := by omega
        generalize p[j] = pj at HT hx
        have hlt' : decide ((j : Int) < (p.length : Int)) = true := decide_eq_true (by omega)
        go_wp2_with (first | (go_at_call 30; (with_reducible refine (poly_mul.calls k pj by_ t _ HT.out).mono ?_); rintro e w' ⟨rfl, ⟨nd, rfl⟩⟩) | (go_at_call 46; have Hq := Aside0.mk (put_st (HS.out.drewN nd) (from_ + j) hin t); refine Hq.out.mono ?_; rintro e w' ⟨rfl, hs⟩; have HS2 := Aside0.mk hs; clear hs))
        go_roundw
        case rel =>
          refine ⟨j + 1, _, by omega, by go_num, HS2, ?_⟩
          have := HN.out
          rw [show from_ + j + 1 = from_ + (j + 1) from by omega] at this
          exact ⟨this⟩
        case measure => simp [intOf]; omega
      · rw [if_neg hin] at HL2; exact absurd HL2 (by simp)
    · have hje : j = p.length := by omega
      subst hje
      have HL' := HL.out
      rw [List.drop_length] at HL'
      have e := Option.some.inj HL'
      have HE := Aside0.mk e
      clear HL HL' e hlt
      have hlt' : decide ((p.length : Int) < (p.length : Int)) = false := by simp
      go_wp2
      go_end0
      exact ⟨rfl, by rw [← HE.out]; exact HS.out⟩

def normN (l : List Int) : Nat → Nat
  | 0 => 0
  | n + 1 => if l.getD n 0 = 0 then normN l n else n + 1
theorem normN_of {l : List Int} {m : Nat} (hz : ∀ j, m ≤ j → l.getD j 0 = 0) (hn : 0 < m → l.getD (m - 1) 0 ≠ 0) : ∀ n, m ≤ n → normN l n = m
  | 0, h => by have : m = 0 := by omega
               subst this; rfl
  | n + 1, h => by
    unfold normN
    by_cases e : m = n + 1
    · subst e; have := hn (by omega); rw [Nat.add_sub_cancel] at this; rw [if_neg this]
    · rw [if_pos (hz n (by omega))]; exact normN_of hz hn n (by omega)
def fin (l : List Int) : List Int := l.take (normN l l.length)
theorem made_form {w : World} {base n : Nat} {ok : Nat → Prop} {v : Value} {m : Nat} (h : (Kd.int .i64).R 3 w base ok v (List.replicate ((m : Int)).toNat 0)) (hb : ∃ b, v.ownBlock = some b ∧ n ≤ b) :
    ∃ g cap, v = .slice (some ⟨g, 0, none⟩) m cap ∧ base ≤ g ∧ n ≤ g ∧ g < w.heap.size ∧ w.ownsRow base 3 1 (.slice (some ⟨g, 0, none⟩) m cap) m (encs (Value.int .i64) (List.replicate m 0)) := by
  obtain ⟨b, hb, hle⟩ := hb
  have ho := Kd.own_of_R h
  rw [Int.toNat_natCast, List.length_replicate] at ho
  have hlt := own_lt ho b hb
  rcases ho.2 with ⟨rfl, _⟩ | ⟨g, cap, cur, rfl, hg, hh, _⟩
  · simp [Value.ownBlock] at hb
  · obtain rfl : g = b := by simpa [Value.ownBlock] using hb
    exact ⟨g, cap, rfl, hg, hle, hlt, ho⟩
theorem C_one {w W : World} {A : Option Addr} {c b : Nat} {l : List Int} (hr : Kd.C (Kd.int .i64) w A l.length l) (hc : l.length ≤ c) (hB : Below w.heap.size w W) (hcell : W.cell? ⟨b, 0, none⟩ = some (.slice A l.length c)) :
    Kd.C (Kd.slice 3 (Kd.int .i64)) W (some ⟨b, 0, none⟩) 1 [l] := by
  refine ⟨rfl, by omega, fun _ => ⟨_, rfl, fun j p hj => ?_⟩⟩
  have hj0 : j = 0 := by
    cases j with
    | zero => rfl
    | succ j => simp at hj
  subst hj0
  obtain rfl : l = p := by simpa using hj
  refine ⟨[.slice A l.length c], rfl, ⟨A, c, rfl, hc, Kd.C_below hr hB⟩, fun i u hu => ?_⟩
  cases i with
  | zero =>
    obtain rfl : .slice A l.length c = u := by simpa using hu
    rw [Nat.zero_mul, Nat.add_zero, add_plain]; exact hcell
  | succ i => simp at hu

theorem PutSt.start {W w5 : World} {n g cap : Nat} (ho : w5.ownsRow W.heap.size 3 1 (.slice (some ⟨g, 0, none⟩) n cap) n (encs (Value.int .i64) (List.replicate n 0))) (hb : Below W.heap.size W w5) (hg : g < w5.heap.size) :
    PutSt W w5.heap.size g cap (List.replicate n 0) (w5.alloc (.cells #[.slice (some ⟨g, 0, none⟩) n cap] 22)) := by
  refine ⟨?_, ?_, hb.alloc hb.size _, hb.size, by omega⟩
  · rw [List.length_replicate]; exact heap_alloc_new w5 _
  · rw [List.length_replicate]; exact ho.alloc _
theorem PutSt.maxc {w0 : World} {B g cap : Nat} {l : List Int} {w : World} (h : PutSt w0 B g cap l w) : cap ≤ 9223372036854775807 := by
  rcases h.row.2 with ⟨h', _⟩ | ⟨g', cap', cur, h', _, hh, h1, h2, _⟩
  · cases h'
  · have : cap = cap' := by injection h'
    subst this
    unfold maxLen at h2
    omega
theorem PutSt.reads {w0 : World} {B g cap : Nat} {l : List Int} {w : World} (h : PutSt w0 B g cap l w) : Kd.C (Kd.int .i64) w (some ⟨g, 0, none⟩) l.length l := by
  obtain ⟨A, c, he, _, hc⟩ := Kd.R_reads (Kd.R_of_own (h1 := fun _ => rfl) h.row (ok := fun _ => True) (fun _ _ => trivial))
  have : A = some ⟨g, 0, none⟩ := by injection he with h1 h2 h3; exact h1.symm
  rw [← this]; exact hc
theorem PutSt.cut {w0 : World} {B g cap : Nat} {l : List Int} {w : World} (h : PutSt w0 B g cap l w) {m : Nat} (hm : m ≤ l.length) (hz : ∀ j, m ≤ j → l.getD j 0 = 0) (hn : 0 < m → l.getD (m - 1) 0 ≠ 0) :
    m = (fin l).length ∧ w.ownsRow w0.heap.size 3 1 (.slice (some ⟨g, 0, none⟩) (fin l).length cap) (fin l).length (encs (Value.int .i64) (fin l)) := by
  have h1 := own_take h.row hm
  have h2 : fin l = l.take m := by unfold fin; rw [normN_of hz hn l.length hm]
  have h3 : (encs (Value.int .i64) l).take (m * 1) = encs (Value.int .i64) (l.take m) := by rw [Nat.mul_one]; simp [encs, List.map_take]
  rw [h3] at h1
  have h4 : (l.take m).length = m := by rw [List.length_take]; omega
  rw [h2, h4]
  exact ⟨rfl, h1⟩

/-- What build answers. -/
def BuildAns (W : World) (r : List Int) (e : Ending) (w' : World) : Prop := ∃ g cap : Nat, e = .returned (.slice (some ⟨g, 0, none⟩) (fin r).length cap) ∧ w'.ownsRow W.heap.size 3 1 (.slice (some ⟨g, 0, none⟩) (fin r).length cap) (fin r).length (encs (Value.int .i64) (fin r)) ∧ Below W.heap.size W w'
theorem layL_mono {m m' : Int → Option Int} (h : ∀ a, LeO (m a) (m' a)) : ∀ (p : List Int) (i : Nat) (l : List Int), LeO (layL m p i l) (layL m' p i l)
  | [], _, _ => LeO.refl _
  | a :: p, i, l => by
    unfold layL
    refine LeO.bind (h a) (fun t => LeO.ite (layL_mono h p _ _) (LeO.none _))
theorem box_at {W W1 : World} {b : Nat} {v : Value} (hb : Below W.heap.size W W1) (hc : W.cell? ⟨b, 0, none⟩ = some v) : W1.cell? ⟨b, 0, none⟩ = some v := (hb.cell (World.block_lt_of_cell? W _ hc)).trans hc
theorem C_two {w W : World} {A A' : Option Addr} {c c' b : Nat} {l l' : List Int} (hr : Kd.C (Kd.int .i64) w A l.length l) (hc : l.length ≤ c) (hr' : Kd.C (Kd.int .i64) w A' l'.length l') (hc' : l'.length ≤ c') (hB : Below w.heap.size w W) (hcell : W.cell? ⟨b, 0, none⟩ = some (.slice A l.length c)) (hcell' : W.cell? ⟨b, 1, none⟩ = some (.slice A' l'.length c')) :
    Kd.C (Kd.slice 3 (Kd.int .i64)) W (some ⟨b, 0, none⟩) 2 [l, l'] := by
  refine ⟨rfl, by omega, fun _ => ⟨_, rfl, fun j p hj => ?_⟩⟩
  have hj0 : j = 0 ∨ j = 1 := by
    match j, hj with
    | 0, _ => exact .inl rfl
    | 1, _ => exact .inr rfl
    | j + 2, hj => simp at hj
  rcases hj0 with rfl | rfl
  · obtain rfl : l = p := by simpa using hj
    refine ⟨[.slice A l.length c], rfl, ⟨A, c, rfl, hc, Kd.C_below hr hB⟩, fun i u hu => ?_⟩
    cases i with
    | zero =>
      obtain rfl : .slice A l.length c = u := by simpa using hu
      rw [Nat.zero_mul, Nat.add_zero, add_plain]; exact hcell
    | succ i => simp at hu
  · obtain rfl : l' = p := by simpa using hj
    refine ⟨[.slice A' l'.length c'], rfl, ⟨A', c', rfl, hc', Kd.C_below hr' hB⟩, fun i u hu => ?_⟩
    cases i with
    | zero =>
      obtain rfl : .slice A' l'.length c' = u := by simpa using hu
      rw [Nat.add_zero, add_plain]; exact hcell'
    | succ i => simp at hu
theorem build_calls_Norm (n : Nat) (W : World) (r : List Int) (hn : n ≤ 35184372088832) (b0 : Nat)
    (H : ∀ (B g cap : Nat) (W1 : World), PutSt W B g cap (List.replicate n 0) W1 → Calls Try.prog 37 #[.func (.func 46) #[] #[.pointer (some ⟨B, 0, none⟩)], .pointer (some ⟨b0, 0, none⟩)] W1 fun e w' => e = .returned (.tuple #[]) ∧ PutSt W B g cap r w') :
    Calls Try.prog 33 #[.int .i64 (n : Int), .func (.func 37) #[] #[.pointer (some ⟨b0, 0, none⟩)]] W (BuildAns W r) := by
  have HH := Aside0.mk H
  clear H
  go_enter Try.func33, Try.ntmps33
  go_wp2_with (first | ((with_reducible refine gate_dst (N := 7) rfl ?_); refine Kd.R_make (Kd.int .i64) W.heap.size 3 rfl (N := 7) rfl 22 _ _ rfl (n : Int) rfl rfl Try.underlying22 (.int .i64 0) 8 ginfo_int rfl (by decide) (by omega) 0 (ok := fun _ => True) (okp := fun _ => True) rfl (fun _ hk => hk) trivial (by omega) (by rw [Int.toNat_natCast]; omega) (Below.refl _ _) (Nat.le_refl _) ?_; intro v w5 ho6 hb hg_ hnew_; obtain ⟨g, cap, rfl, hg1, hg2, hg3, ho7⟩ := made_form ho6 hnew_; have HO := Aside0.mk ho7; have HB := Aside0.mk hb; have HG := Aside0.mk hg3; clear ho6 ho7 hb hg_ hnew_ hg1 hg2 hg3))
  have HP := Aside0.mk (PutSt.start HO.out HB.out HG.out)
  refine (HH.out w5.heap.size g cap _ HP.out).mono ?_
  clear HP HO HB HG HH
  rintro e w' ⟨rfl, hs⟩
  have HS := Aside0.mk hs
  have hbc := hs.cells
  clear hs
  go_wp2_with (first | (go_at_call 31; have Hq := Aside0.mk (norm_calls (some ⟨g, 0, none⟩) cap r w' HS.out.reads HS.out.maxl.2); refine Hq.out.mono ?_; rintro e w'' ⟨m, hm, rfl, hz, hn0, rfl⟩; have HZ := Aside0.mk hz; have HN := Aside0.mk hn0; clear hz hn0 Hq))
  go_ret
  obtain ⟨h1, h2⟩ := HS.out.cut hm HZ.out HN.out
  exact ⟨g, cap, by rw [h1]; rfl, h2, HS.out.below⟩
theorem build_calls_Add (n : Nat) (W : World) (r : List Int) (hn : n ≤ 35184372088832) (b0 : Nat) (b1 : Nat)
    (H : ∀ (B g cap : Nat) (W1 : World), PutSt W B g cap (List.replicate n 0) W1 → Calls Try.prog 38 #[.func (.func 46) #[] #[.pointer (some ⟨B, 0, none⟩)], .pointer (some ⟨b0, 0, none⟩), .pointer (some ⟨b1, 0, none⟩)] W1 fun e w' => e = .returned (.tuple #[]) ∧ PutSt W B g cap r w') :
    Calls Try.prog 33 #[.int .i64 (n : Int), .func (.func 38) #[] #[.pointer (some ⟨b0, 0, none⟩), .pointer (some ⟨b1, 0, none⟩)]] W (BuildAns W r) := by
  have HH := Aside0.mk H
  clear H
  go_enter Try.func33, Try.ntmps33
  go_wp2_with (first | ((with_reducible refine gate_dst (N := 7) rfl ?_); refine Kd.R_make (Kd.int .i64) W.heap.size 3 rfl (N := 7) rfl 22 _ _ rfl (n : Int) rfl rfl Try.underlying22 (.int .i64 0) 8 ginfo_int rfl (by decide) (by omega) 0 (ok := fun _ => True) (okp := fun _ => True) rfl (fun _ hk => hk) trivial (by omega) (by rw [Int.toNat_natCast]; omega) (Below.refl _ _) (Nat.le_refl _) ?_; intro v w5 ho6 hb hg_ hnew_; obtain ⟨g, cap, rfl, hg1, hg2, hg3, ho7⟩ := made_form ho6 hnew_; have HO := Aside0.mk ho7; have HB := Aside0.mk hb; have HG := Aside0.mk hg3; clear ho6 ho7 hb hg_ hnew_ hg1 hg2 hg3))
  have HP := Aside0.mk (PutSt.start HO.out HB.out HG.out)
  refine (HH.out w5.heap.size g cap _ HP.out).mono ?_
  clear HP HO HB HG HH
  rintro e w' ⟨rfl, hs⟩
  have HS := Aside0.mk hs
  have hbc := hs.cells
  clear hs
  go_wp2_with (first | (go_at_call 31; have Hq := Aside0.mk (norm_calls (some ⟨g, 0, none⟩) cap r w' HS.out.reads HS.out.maxl.2); refine Hq.out.mono ?_; rintro e w'' ⟨m, hm, rfl, hz, hn0, rfl⟩; have HZ := Aside0.mk hz; have HN := Aside0.mk hn0; clear hz hn0 Hq))
  go_ret
  obtain ⟨h1, h2⟩ := HS.out.cut hm HZ.out HN.out
  exact ⟨g, cap, by rw [h1]; rfl, h2, HS.out.below⟩
theorem build_calls_Mul (n : Nat) (W : World) (r : List Int) (hn : n ≤ 35184372088832) (b0 : Nat) (b1 : Nat)
    (H : ∀ (B g cap : Nat) (W1 : World), PutSt W B g cap (List.replicate n 0) W1 → Calls Try.prog 39 #[.func (.func 46) #[] #[.pointer (some ⟨B, 0, none⟩)], .pointer (some ⟨b0, 0, none⟩), .pointer (some ⟨b1, 0, none⟩)] W1 fun e w' => e = .returned (.tuple #[]) ∧ PutSt W B g cap r w') :
    Calls Try.prog 33 #[.int .i64 (n : Int), .func (.func 39) #[] #[.pointer (some ⟨b0, 0, none⟩), .pointer (some ⟨b1, 0, none⟩)]] W (BuildAns W r) := by
  have HH := Aside0.mk H
  clear H
  go_enter Try.func33, Try.ntmps33
  go_wp2_with (first | ((with_reducible refine gate_dst (N := 7) rfl ?_); refine Kd.R_make (Kd.int .i64) W.heap.size 3 rfl (N := 7) rfl 22 _ _ rfl (n : Int) rfl rfl Try.underlying22 (.int .i64 0) 8 ginfo_int rfl (by decide) (by omega) 0 (ok := fun _ => True) (okp := fun _ => True) rfl (fun _ hk => hk) trivial (by omega) (by rw [Int.toNat_natCast]; omega) (Below.refl _ _) (Nat.le_refl _) ?_; intro v w5 ho6 hb hg_ hnew_; obtain ⟨g, cap, rfl, hg1, hg2, hg3, ho7⟩ := made_form ho6 hnew_; have HO := Aside0.mk ho7; have HB := Aside0.mk hb; have HG := Aside0.mk hg3; clear ho6 ho7 hb hg_ hnew_ hg1 hg2 hg3))
  have HP := Aside0.mk (PutSt.start HO.out HB.out HG.out)
  refine (HH.out w5.heap.size g cap _ HP.out).mono ?_
  clear HP HO HB HG HH
  rintro e w' ⟨rfl, hs⟩
  have HS := Aside0.mk hs
  have hbc := hs.cells
  clear hs
  go_wp2_with (first | (go_at_call 31; have Hq := Aside0.mk (norm_calls (some ⟨g, 0, none⟩) cap r w' HS.out.reads HS.out.maxl.2); refine Hq.out.mono ?_; rintro e w'' ⟨m, hm, rfl, hz, hn0, rfl⟩; have HZ := Aside0.mk hz; have HN := Aside0.mk hn0; clear hz hn0 Hq))
  go_ret
  obtain ⟨h1, h2⟩ := HS.out.cut hm HZ.out HN.out
  exact ⟨g, cap, by rw [h1]; rfl, h2, HS.out.below⟩
theorem build_calls_Derive (n : Nat) (W : World) (r : List Int) (hn : n ≤ 35184372088832) (b0 : Nat)
    (H : ∀ (B g cap : Nat) (W1 : World), PutSt W B g cap (List.replicate n 0) W1 → Calls Try.prog 40 #[.func (.func 46) #[] #[.pointer (some ⟨B, 0, none⟩)], .pointer (some ⟨b0, 0, none⟩)] W1 fun e w' => e = .returned (.tuple #[]) ∧ PutSt W B g cap r w') :
    Calls Try.prog 33 #[.int .i64 (n : Int), .func (.func 40) #[] #[.pointer (some ⟨b0, 0, none⟩)]] W (BuildAns W r) := by
  have HH := Aside0.mk H
  clear H
  go_enter Try.func33, Try.ntmps33
  go_wp2_with (first | ((with_reducible refine gate_dst (N := 7) rfl ?_); refine Kd.R_make (Kd.int .i64) W.heap.size 3 rfl (N := 7) rfl 22 _ _ rfl (n : Int) rfl rfl Try.underlying22 (.int .i64 0) 8 ginfo_int rfl (by decide) (by omega) 0 (ok := fun _ => True) (okp := fun _ => True) rfl (fun _ hk => hk) trivial (by omega) (by rw [Int.toNat_natCast]; omega) (Below.refl _ _) (Nat.le_refl _) ?_; intro v w5 ho6 hb hg_ hnew_; obtain ⟨g, cap, rfl, hg1, hg2, hg3, ho7⟩ := made_form ho6 hnew_; have HO := Aside0.mk ho7; have HB := Aside0.mk hb; have HG := Aside0.mk hg3; clear ho6 ho7 hb hg_ hnew_ hg1 hg2 hg3))
  have HP := Aside0.mk (PutSt.start HO.out HB.out HG.out)
  refine (HH.out w5.heap.size g cap _ HP.out).mono ?_
  clear HP HO HB HG HH
  rintro e w' ⟨rfl, hs⟩
  have HS := Aside0.mk hs
  have hbc := hs.cells
  clear hs
  go_wp2_with (first | (go_at_call 31; have Hq := Aside0.mk (norm_calls (some ⟨g, 0, none⟩) cap r w' HS.out.reads HS.out.maxl.2); refine Hq.out.mono ?_; rintro e w'' ⟨m, hm, rfl, hz, hn0, rfl⟩; have HZ := Aside0.mk hz; have HN := Aside0.mk hn0; clear hz hn0 Hq))
  go_ret
  obtain ⟨h1, h2⟩ := HS.out.cut hm HZ.out HN.out
  exact ⟨g, cap, by rw [h1]; rfl, h2, HS.out.below⟩

/-! ### poly_Mul: function 21 -/
def mulL (m : Int → Int → Option Int) (q : List Int) : List Int → Nat → List Int → Option (List Int)
  | [], _, l => some l
  | a :: p, i, l => (layL (fun x => m x a) q i l).bind fun l' => mulL m q p (i + 1) l'
theorem mulL_mono {m m' : Int → Int → Option Int} (h : ∀ x a, LeO (m x a) (m' x a)) (q : List Int) : ∀ (p : List Int) (i : Nat) (l : List Int), LeO (mulL m q p i l) (mulL m' q p i l)
  | [], _, _ => LeO.refl _
  | a :: p, i, l => by
    unfold mulL
    exact LeO.bind (layL_mono (fun x => h x a) q i l) (fun l' => mulL_mono h q p (i + 1) l')
set_option maxHeartbeats 1000000 in
theorem mul1_calls (k : Nat) (W : World) (B g cap : Nat) (b0 b1 : Nat) (A : Option Addr) (c : Nat) (p : List Int) (hr : Kd.C (Kd.int .i64) W A p.length p) (hb0 : W.cell? ⟨b0, 0, none⟩ = some (.slice A p.length c)) (A' : Option Addr) (c' : Nat) (q : List Int) (hr' : Kd.C (Kd.int .i64) W A' q.length q) (hb1 : W.cell? ⟨b1, 0, none⟩ = some (.slice A' q.length c')) (l r : List Int) (W1 : World) (hst : PutSt W B g cap l W1) (h : mulL (poly_mul.f k) q p 0 l = some r) :
    Calls Try.prog 39 #[.func (.func 46) #[] #[.pointer (some ⟨B, 0, none⟩)], .pointer (some ⟨b0, 0, none⟩), .pointer (some ⟨b1, 0, none⟩)] W1 fun e w' => e = .returned (.tuple #[]) ∧ PutSt W B g cap r w' := by
  have hpm : p.length ≤ 9223372036854775807 := hr.2.1
  have hbx := box_at hst.below hb0
  have HR := Aside0.mk hr
  have HR' := Aside0.mk hr'
  have HS := Aside0.mk hst
  have HL := Aside0.mk h
  have HB := Aside0.mk hb1
  clear hr hr' hst h hb1 hb0
  go_enter Try.func39, Try.ntmps39
  go_wp2
  clear hbx
  go_loopw [8] (fun i w' => ∃ (j : Nat) (lj : List Int), j ≤ p.length ∧ i = .int .i64 (j : Int) ∧ Aside0 (PutSt W B g cap lj w') ∧ Aside0 (mulL (poly_mul.f k) q (p.drop j) j lj = some r)) (fun i _ => p.length - (intOf i).toNat)
  case atStart => exact ⟨0, l, Nat.zero_le _, rfl, HS, HL⟩
  case round =>
    clear HS HL
    obtain ⟨j, lj, hj, rfl, HS, HL⟩ := hrel
    by_cases hlt : j < p.length
    · have hd : p.drop j = p[j] :: p.drop (j + 1) := List.drop_eq_getElem_cons hlt
      have HL' := HL.out
      rw [hd] at HL'
      simp only [mulL] at HL'
      obtain ⟨t, ht, HL2⟩ := Option.bind_eq_some_iff.1 HL'
      have HT := Aside0.mk ht
      have HN := Aside0.mk HL2
      obtain ⟨ad, hA, hx0⟩ := Kd.at_int (Kd.C_below HR.out HS.out.below) (j : Int) (by omega) (by omega)
      have hx : wr.cell? (ad.add j) = some (.int .i64 p[j]) := by
        have := hx0
        rw [rd_nat', Int.toNat_natCast] at this
        rw [this]; simp [hlt]
      have hbx := box_at HS.out.below HB.out
      subst hA
      clear hx0 HL2 HL' ht hd HL
      generalize p[j] = pj at HT hx
      have hlt' : decide ((j : Int) < (p.length : Int)) = true := decide_eq_true (by omega)
      go_wp2_with (first | (go_at_call 35; have Hq := Aside0.mk (lay_calls k W B g cap A' c' q HR'.out j pj lj t _ HS.out HT.out); refine Hq.out.mono ?_; rintro e w' ⟨rfl, hs⟩; have HS2 := Aside0.mk hs; clear hs Hq))
      go_roundw
      case rel => exact ⟨j + 1, _, by omega, by go_num, HS2, HN⟩
      case measure => simp [intOf]; omega
    · have hje : j = p.length := by omega
      subst hje
      have HL' := HL.out
      rw [List.drop_length] at HL'
      have e := Option.some.inj HL'
      have HE := Aside0.mk e
      clear HL HL' e hlt
      have hlt' : decide ((p.length : Int) < (p.length : Int)) = false := by simp
      go_wp2
      go_end0
      exact ⟨rfl, by rw [← HE.out]; exact HS.out⟩
def poly_Mul.L (k : Nat) (l0 l1 : List Int) : Option (List Int) := mulL (poly_mul.f k) l1 l0 0 (List.replicate (l0.length + l1.length) 0)
def poly_Mul.f (k : Nat) (l0 l1 : List Int) : Option (List Int × Int) := (poly_is.f k [l0, l1]).bind fun b => if b = true then (if l0.length + l1.length ≤ 35184372088832 then (poly_Mul.L k l0 l1).bind fun l => some (fin l, 0) else none) else some ([], 1)
theorem poly_Mul.mono : ∀ a0 a1 k, LeO (poly_Mul.f k a0 a1) (poly_Mul.f (k + 1) a0 a1) := by
  intro a0 a1 k
  unfold poly_Mul.f
  exact LeO.bind (poly_is.mono _ _) (fun b => LeO.ite (LeO.ite (LeO.bind (mulL_mono (fun x a => poly_mul.mono _ _ _) _ _ _ _) (fun l => LeO.refl _)) (LeO.refl _)) (LeO.refl _))
set_option maxHeartbeats 1000000 in
theorem poly_Mul.calls_yes (k : Nat) (A0 : Option Addr) (c0 : Nat) (l0 : List Int) (A1 : Option Addr) (c1 : Nat) (l1 : List Int) (l : List Int) (w : World) (hr0 : Kd.C (Kd.int .i64) w A0 l0.length l0) (hc0 : l0.length ≤ c0) (hr1 : Kd.C (Kd.int .i64) w A1 l1.length l1) (hc1 : l1.length ≤ c1) (hb : poly_is.f k [l0, l1] = some true) (hl : l0.length + l1.length ≤ 35184372088832) (hlay : poly_Mul.L k l0 l1 = some l) :
    Calls Try.prog 21 #[.slice A0 l0.length c0, .slice A1 l1.length c1] w fun e w' => ∃ g cap : Nat, e = .returned (.tuple #[.slice (some ⟨g, 0, none⟩) (fin l).length cap, .int .i64 0]) ∧ w'.ownsRow w.heap.size 3 1 (.slice (some ⟨g, 0, none⟩) (fin l).length cap) (fin l).length (encs (Value.int .i64) (fin l)) ∧ Below w.heap.size w w' := by
  have HR := Aside0.mk hr0
  have HC := Aside0.mk hc0
  have HR1 := Aside0.mk hr1
  have HC1 := Aside0.mk hc1
  have HI := Aside0.mk hb
  have HL := Aside0.mk hlay
  clear hr0 hc0 hr1 hc1 hb hlay
  go_enter Try.func21, Try.ntmps21
  go_wp2_with fail
  have hB2 : Below w.heap.size w (((w.alloc (.cells #[.slice A0 l0.length c0] 22)).alloc (.cells #[.slice A1 l1.length c1] 22)).alloc (.cells #[.slice A0 l0.length c0, .slice A1 l1.length c1] 22)) := below_alloc (below_alloc (below_alloc (Below.refl _ _) _) _) _
  have hc2 : (((w.alloc (.cells #[.slice A0 l0.length c0] 22)).alloc (.cells #[.slice A1 l1.length c1] 22)).alloc (.cells #[.slice A0 l0.length c0, .slice A1 l1.length c1] 22)).cell? ⟨w.heap.size + 1 + 1, 0, none⟩ = some (.slice A0 l0.length c0) := by go_simp
  have hc3 : (((w.alloc (.cells #[.slice A0 l0.length c0] 22)).alloc (.cells #[.slice A1 l1.length c1] 22)).alloc (.cells #[.slice A0 l0.length c0, .slice A1 l1.length c1] 22)).cell? ⟨w.heap.size + 1 + 1, 1, none⟩ = some (.slice A1 l1.length c1) := by go_simp
  have HX := Aside0.mk (C_two HR.out HC.out HR1.out HC1.out hB2 hc2 hc3)
  clear hB2 hc2 hc3
  refine (poly_is.calls k _ 2 [l0, l1] true _ HX.out (Nat.le_refl _) HI.out).mono ?_
  clear HX
  rintro e w' ⟨rfl, ⟨nd, rfl⟩⟩
  have hB3 : Below w.heap.size w ((((w.alloc (.cells #[.slice A0 l0.length c0] 22)).alloc (.cells #[.slice A1 l1.length c1] 22)).alloc (.cells #[.slice A0 l0.length c0, .slice A1 l1.length c1] 22)).drewN nd) := pw_below_drewN (below_alloc (below_alloc (below_alloc (Below.refl _ _) _) _) _) nd
  have hb3 : ((((w.alloc (.cells #[.slice A0 l0.length c0] 22)).alloc (.cells #[.slice A1 l1.length c1] 22)).alloc (.cells #[.slice A0 l0.length c0, .slice A1 l1.length c1] 22)).drewN nd).cell? ⟨w.heap.size, 0, none⟩ = some (.slice A0 l0.length c0) := by go_simp
  have hb4 : ((((w.alloc (.cells #[.slice A0 l0.length c0] 22)).alloc (.cells #[.slice A1 l1.length c1] 22)).alloc (.cells #[.slice A0 l0.length c0, .slice A1 l1.length c1] 22)).drewN nd).cell? ⟨w.heap.size + 1, 0, none⟩ = some (.slice A1 l1.length c1) := by go_simp
  have HB3 := Aside0.mk hB3
  have Hb3 := Aside0.mk hb3
  have Hb4 := Aside0.mk hb4
  clear hB3 hb3 hb4
  have hb5 : (l0.length : Int) + (l1.length : Int) ≤ 9223372036854775807 := by omega
  go_wp2_with fail
  have Hq := Aside0.mk (build_calls_Mul (l0.length + l1.length) _ l hl w.heap.size (w.heap.size + 1) (fun B g cap W1 hst => mul1_calls k _ B g cap w.heap.size (w.heap.size + 1) A0 c0 l0 (Kd.C_below HR.out HB3.out) Hb3.out A1 c1 l1 (Kd.C_below HR1.out HB3.out) Hb4.out _ l W1 hst HL.out))
  refine Hq.out.mono ?_
  clear Hq
  rintro e w' ⟨g, cap, rfl, ho, hb⟩
  have HO := Aside0.mk (own_weaken ho HB3.out.size)
  have HB := Aside0.mk (below_then HB3.out HB3.out.size hb)
  clear ho hb HB3 Hb3 Hb4
  go_wp2
  go_ret2
  exact ⟨g, cap, rfl, HO.out, HB.out⟩
set_option maxHeartbeats 1000000 in
theorem poly_Mul.calls (k : Nat) (A0 : Option Addr) (c0 : Nat) (l0 : List Int) (A1 : Option Addr) (c1 : Nat) (l1 : List Int) (r1 : List Int) (r2 : Int) (w : World) (hr0 : Kd.C (Kd.int .i64) w A0 l0.length l0) (hc0 : l0.length ≤ c0) (hr1 : Kd.C (Kd.int .i64) w A1 l1.length l1) (hc1 : l1.length ≤ c1) (h : poly_Mul.f k l0 l1 = some (r1, r2)) :
    Calls Try.prog 21 #[.slice A0 l0.length c0, .slice A1 l1.length c1] w fun e w' => ∃ v0_ : Value, e = .returned (.tuple #[v0_, .int .i64 r2]) ∧ Kd.R (Kd.int .i64) 3 w' w.heap.size (fun _ => True) v0_ r1 ∧ Below w.heap.size w w' := by
  unfold poly_Mul.f at h
  obtain ⟨b, hb, h⟩ := Option.bind_eq_some_iff.1 h
  cases b with
  | false =>
    have HI := Aside0.mk hb
    have HR := Aside0.mk hr0
    have HC := Aside0.mk hc0
    have HR1 := Aside0.mk hr1
    have HC1 := Aside0.mk hc1
    rw [if_neg (by simp)] at h
    simp only [Option.some.injEq, Prod.mk.injEq] at h
    obtain ⟨rfl, rfl⟩ := h
    clear hr0 hc0 hr1 hc1 hb
    go_enter Try.func21, Try.ntmps21
    go_wp2_with fail
    have hB2 : Below w.heap.size w (((w.alloc (.cells #[.slice A0 l0.length c0] 22)).alloc (.cells #[.slice A1 l1.length c1] 22)).alloc (.cells #[.slice A0 l0.length c0, .slice A1 l1.length c1] 22)) := below_alloc (below_alloc (below_alloc (Below.refl _ _) _) _) _
    have hc2 : (((w.alloc (.cells #[.slice A0 l0.length c0] 22)).alloc (.cells #[.slice A1 l1.length c1] 22)).alloc (.cells #[.slice A0 l0.length c0, .slice A1 l1.length c1] 22)).cell? ⟨w.heap.size + 1 + 1, 0, none⟩ = some (.slice A0 l0.length c0) := by go_simp
    have hc3 : (((w.alloc (.cells #[.slice A0 l0.length c0] 22)).alloc (.cells #[.slice A1 l1.length c1] 22)).alloc (.cells #[.slice A0 l0.length c0, .slice A1 l1.length c1] 22)).cell? ⟨w.heap.size + 1 + 1, 1, none⟩ = some (.slice A1 l1.length c1) := by go_simp
    have HX := Aside0.mk (C_two HR.out HC.out HR1.out HC1.out hB2 hc2 hc3)
    clear hB2 hc2 hc3
    refine (poly_is.calls k _ 2 [l0, l1] false _ HX.out (Nat.le_refl _) HI.out).mono ?_
    clear HX
    rintro e w' ⟨rfl, ⟨nd, rfl⟩⟩
    go_wp2
    go_ret2
    exact ⟨_, rfl, Kd.R_nil _ _ _ _ _, pw_below_drewN (below_alloc (below_alloc (below_alloc (Below.refl _ _) _) _) _) nd⟩
  | true =>
    rw [if_pos rfl] at h
    by_cases hl : l0.length + l1.length ≤ 35184372088832
    · rw [if_pos hl] at h
      obtain ⟨l, hlay, h⟩ := Option.bind_eq_some_iff.1 h
      simp only [Option.some.injEq, Prod.mk.injEq] at h
      obtain ⟨rfl, rfl⟩ := h
      refine (poly_Mul.calls_yes k A0 c0 l0 A1 c1 l1 l w hr0 hc0 hr1 hc1 hb hl hlay).mono ?_
      rintro e w' ⟨g, cap, rfl, ho, hb⟩
      exact ⟨_, rfl, Kd.R_of_own (h1 := fun _ => rfl) ho (fun _ _ => trivial), hb⟩
    · rw [if_neg hl] at h; exact absurd h (by simp)

/-! ### casematelaw03_mul: function 11 -/
def casematelaw03_mul.f (k : Nat) (l0 : List Int) (l1 : List Int) : Option (List Int) := (poly_Mul.f k l0 l1).bind fun bt118 => (some bt118.1)
theorem casematelaw03_mul.mono : ∀ a0 a1 k, LeO (casematelaw03_mul.f k a0 a1) (casematelaw03_mul.f (k + 1) a0 a1) := by
  intro a0 a1 k
  unfold casematelaw03_mul.f
  repeat' first
      | (with_reducible exact poly_Mul.mono _ _ _)
      | (with_reducible exact LeO.refl _)
      | (with_reducible exact LeO.none _)
      | (with_reducible refine LeO.ite ?_ ?_)
      | (with_reducible refine LeO.bind ?_ (fun _ => ?_))
      | exact poly_Mul.mono _ _ _
      | exact LeO.none _
      | refine LeO.ite ?_ ?_
      | refine LeO.bind ?_ (fun _ => ?_)
set_option maxHeartbeats 8000000 in
set_option maxRecDepth 100000 in
theorem casematelaw03_mul.calls (k : Nat) (A0 : Option Addr) (c0 : Nat) (l0 : List Int) (A1 : Option Addr) (c1 : Nat) (l1 : List Int) (r : List Int) (w : World) (hr0 : Kd.C (Kd.int .i64) w A0 l0.length l0) (hc0 : l0.length ≤ c0) (hr1 : Kd.C (Kd.int .i64) w A1 l1.length l1) (hc1 : l1.length ≤ c1) (h : casematelaw03_mul.f k l0 l1 = some r) :
    Calls Try.prog 11 #[.slice A0 l0.length c0, .slice A1 l1.length c1] w fun e w' => ∃ v0_ : Value, e = .returned (v0_) ∧ Kd.R (Kd.int .i64) 3 w' w.heap.size (fun _ => True) v0_ r ∧ Below w.heap.size w w' := by
  have HR0 := Aside0.mk hr0
  have HC0 := Aside0.mk hc0
  clear hr0 hc0
  have HR1 := Aside0.mk hr1
  have HC1 := Aside0.mk hc1
  clear hr1 hc1
  have HB := Aside0.mk (Below.refl w.heap.size w)
  have H : ((poly_Mul.f k l0 l1).bind fun bt118 => (some bt118.1)) = some r := h
  clear h
  replace H := Option.bind_eq_some_iff.mp H
  obtain ⟨⟨t118, t119⟩, A30, H⟩ := H
  replace H : (some t118) = some r := H
  have A3 := Aside0.mk A30
  clear A30
  obtain rfl := Option.some.inj H
  go_enter Try.func11, Try.ntmps11
  go_wp2_with (first | ((with_reducible refine gate_callee (f := 21) rfl ?_); refine goesL_ (some 10) rfl rfl Try.func21 (by kernel_rfl) rfl #[.slice A0 l0.length c0, .slice A1 l1.length c1] rfl (by (try simp only [List.map_toArray, List.map_cons, List.map_nil]); first | done | rfl | (simp only [List.length_drop, List.length_take]; rfl)) ?_; (with_reducible refine (poly_Mul.calls k _ _ l0 _ _ l1 t118 t119 _ ?side1 ?side2 ?side3 ?side4 A3.out).mono ?_); (case side1 => repeat (first | exact HR0.out | (with_reducible refine Kd.C_alloc ?_ _) | (with_reducible refine Kd.C_drewN ?_ _) | (with_reducible refine Kd.C_drew ?_))); (case side2 => exact HC0.out); (case side3 => repeat (first | exact HR1.out | (with_reducible refine Kd.C_alloc ?_ _) | (with_reducible refine Kd.C_drewN ?_ _) | (with_reducible refine Kd.C_drew ?_))); (case side4 => exact HC1.out); rintro e w4 ⟨v120, rfl, ho0, hb⟩; refine ⟨_, rfl, ?_⟩; have n0_ := Aside0.mk (Kd.R_lower ho0 (below_size (by repeat (first | (with_reducible first | exact HB.out | apply below_alloc | apply pw_below_drewN | apply below_drew1) | exact HB.out)))); have n1_ := Aside0.mk (below_step (by repeat (first | (with_reducible first | exact HB.out | apply below_alloc | apply pw_below_drewN | apply below_drew1) | exact HB.out)) hb); clear HB; have HO121 := n0_; have HB := n1_; clear n0_ n1_; (try clear hb); (try clear hb2); (try clear hk); (try clear hi); (try clear ho0)))
  go_ret
  exact ⟨_, by first | rfl | (simp [errW_none, errW_some] <;> rfl) | (simp [*, errW_none, errW_some] <;> rfl), by (with_reducible repeat (first | apply Kd.R_alloc | apply Kd.R_drewN | apply Kd.R_drew)); exact HO121.out, by repeat (first | (with_reducible first | exact HB.out | apply below_alloc | apply pw_below_drewN | apply below_drew1) | exact HB.out)⟩

/-! ### poly_Eval: function 12 -/
def poly_Eval.l0 : Nat → List Int → Int → Int → Int → Option (Int × Int)
  | 0, _, _, _, _ => none
  | k + 1, x0, x1, x6, x7 => if x7 ≥ 0 then ((poly_mul.f k x6 x1).bind fun t129 => (if 0 ≤ x7 then (if x7 < (x0.length : Int) then (poly_Eval.l0 k x0 x1 (Go.bits .xor .i64 t129 (rd x0 x7)) (wrap64 (x7 - 1))) else (none)) else (none))) else (some (x6, 0))
def poly_Eval.f (k : Nat) (l0 : List Int) (a1 : Int) : Option (Int × Int) := (poly_is.f k (([l0, (([a1] : List Int))] : List (List Int)))).bind fun t128 => (if t128 = true then (poly_Eval.l0 k l0 a1 0 (wrap64 ((l0.length : Int) - 1))) else (some (0, 1)))
theorem poly_Eval.mono_l : ∀ k, (∀ y0 y1 y2 y3, LeO (poly_Eval.l0 k y0 y1 y2 y3) (poly_Eval.l0 (k + 1) y0 y1 y2 y3))
  | 0 => fun _ _ _ _ r h => by simp [poly_Eval.l0] at h
  | k + 1 => by
    have ih0 := poly_Eval.mono_l k
    · intro y0 y1 y2 y3
      unfold poly_Eval.l0
      repeat' first
      | (with_reducible exact ih0 _ _ _ _)
      | (with_reducible exact poly_is.mono _ _)
      | (with_reducible exact poly_mul.mono _ _ _)
      | (with_reducible exact LeO.refl _)
      | (with_reducible exact LeO.none _)
      | (with_reducible refine LeO.ite ?_ ?_)
      | (with_reducible refine LeO.bind ?_ (fun _ => ?_))
      | exact ih0 _ _ _ _
      | exact poly_is.mono _ _
      | exact poly_mul.mono _ _ _
      | exact LeO.none _
      | refine LeO.ite ?_ ?_
      | refine LeO.bind ?_ (fun _ => ?_)
theorem poly_Eval.mono : ∀ a0 a1 k, LeO (poly_Eval.f k a0 a1) (poly_Eval.f (k + 1) a0 a1) := by
  intro a0 a1 k
  have ih0 := poly_Eval.mono_l k
  unfold poly_Eval.f
  repeat' first
      | (with_reducible exact ih0 _ _ _ _)
      | (with_reducible exact poly_is.mono _ _)
      | (with_reducible exact poly_mul.mono _ _ _)
      | (with_reducible exact LeO.refl _)
      | (with_reducible exact LeO.none _)
      | (with_reducible refine LeO.ite ?_ ?_)
      | (with_reducible refine LeO.bind ?_ (fun _ => ?_))
      | exact ih0 _ _ _ _
      | exact poly_is.mono _ _
      | exact poly_mul.mono _ _ _
      | exact LeO.none _
      | refine LeO.ite ?_ ?_
      | refine LeO.bind ?_ (fun _ => ?_)
set_option maxHeartbeats 8000000 in
set_option maxRecDepth 100000 in
theorem poly_Eval.calls (k : Nat) (P0_ : Nat → Prop) (A0 : Option Addr) (c0 : Nat) (l0 : List Int) (a1 : Int) (r1 : Int) (r2 : Int) (w : World) (hs0 : Kd.V (Kd.int .i64) 3 w w.heap.size (fun k_ => P0_ k_) (.slice A0 l0.length c0) l0) (h : poly_Eval.f k l0 a1 = some (r1, r2)) :
    Calls Try.prog 12 #[.slice A0 l0.length c0, .int .i64 a1] w fun e w' => e = .returned (.tuple #[.int .i64 r1, .int .i64 r2]) ∧ Below w.heap.size w w' := by
  have HO0 := Aside0.mk (show Kd.V (Kd.int .i64) 3 w w.heap.size (fun k_ => (P0_ k_ ∨ w.heap.size ≤ k_)) (.slice A0 l0.length c0) l0 from Kd.V_mono hs0 (fun k_ hk => .inl hk))
  have HB := Aside0.mk (Below.refl w.heap.size w)
  have H : ((poly_is.f k (([l0, (([a1] : List Int))] : List (List Int)))).bind fun t128 => (if t128 = true then (poly_Eval.l0 k l0 a1 0 (wrap64 ((l0.length : Int) - 1))) else (some (0, 1)))) = some (r1, r2) := h
  clear h
  obtain ⟨y122, hy122⟩ : ∃ y_ : List Int, y_ = (([a1] : List Int)) := ⟨_, rfl⟩
  replace H : ((poly_is.f k (([l0, y122] : List (List Int)))).bind fun t128 => (if t128 = true then (poly_Eval.l0 k l0 a1 0 (wrap64 ((l0.length : Int) - 1))) else (some (0, 1)))) = some (r1, r2) := by first | (rw [hy122]; with_reducible exact H) | (have H2_ := (Option.bind_some _ _).symm.trans H; rw [hy122]; with_reducible exact H2_) | (have H2_ := (Option.bind_some _ _).symm.trans H; with_reducible exact H2_) | with_reducible exact H | (rw [hy122]; exact H) | exact H
  have Ny122 := Aside0.mk hy122
  clear hy122
  obtain ⟨y125, hy125⟩ : ∃ y_ : List (List Int), y_ = (([l0, y122] : List (List Int))) := ⟨_, rfl⟩
  replace H : ((poly_is.f k y125).bind fun t128 => (if t128 = true then (poly_Eval.l0 k l0 a1 0 (wrap64 ((l0.length : Int) - 1))) else (some (0, 1)))) = some (r1, r2) := by first | (rw [hy125]; with_reducible exact H) | (have H2_ := (Option.bind_some _ _).symm.trans H; rw [hy125]; with_reducible exact H2_) | (have H2_ := (Option.bind_some _ _).symm.trans H; with_reducible exact H2_) | with_reducible exact H | (rw [hy125]; exact H) | exact H
  have Ny125 := Aside0.mk hy125
  clear hy125
  replace H := Option.bind_eq_some_iff.mp H
  obtain ⟨t128, A30, H⟩ := H
  replace H : (if t128 = true then (poly_Eval.l0 k l0 a1 0 (wrap64 ((l0.length : Int) - 1))) else (some (0, 1))) = some (r1, r2) := H
  have A3 := Aside0.mk A30
  clear A30
  by_cases c4 : t128 = true
  · subst c4
    have H1 : (poly_Eval.l0 k l0 a1 0 (wrap64 ((l0.length : Int) - 1))) = some (r1, r2) := by rw [if_pos rfl] at H; exact H
    clear H
    have H := H1
    clear H1
    have H' := Aside0.mk H
    clear H
    go_enter Try.func12, Try.ntmps12
    go_wp2_with (first | ((with_reducible refine gate_dst (N := 10) rfl ?_); refine Kd.R_lit (Kd.int .i64) _ 3 ?hg (N := 10) ?hd (xs := ([a1] : List Int)) (inner := [.int .i64 a1]) (ok := fun _ => True) (okp := fun _ => True) ?hr ?hp (fun _ hk => hk) trivial (Below.refl _ _) (Nat.le_refl _) (by simp) ?_; (case hd => rfl); (case hg => rfl); (case hr => first | (go_simp; done) | (go_simp; rfl)); (case hp => exact (Reps.one (show Kd.M (Kd.int .i64) _ _ _ a1 [.int .i64 a1] from rfl) (Reps.none _ _))); intro v123 w5 ho6 hb hg_ hnew_; clear hg_ hnew_; (first | rw [← Ny122.out] at ho6 | (simp only [Int.reduceToNat] at ho6; rw [← Ny122.out] at ho6)); have n0_ := Aside0.mk (Kd.V_elder' (by (with_reducible repeat (first | apply Kd.V_alloc | apply Kd.V_drewN | apply Kd.V_drew)); exact HO0.out) (Kd.R_base ho6) hb); have n1_ := Aside0.mk (Kd.R_lower (Kd.R_newM (M := fun k_ => (w.heap.size ≤ k_)) ho6 (below_size (by repeat (first | (with_reducible first | exact HB.out | apply below_alloc | apply pw_below_drewN | apply below_drew1) | exact HB.out))) (fun k_ h_ => h_)) (below_size (by repeat (first | (with_reducible first | exact HB.out | apply below_alloc | apply pw_below_drewN | apply below_drew1) | exact HB.out)))); have n2_ := Aside0.mk (below_step (by repeat (first | (with_reducible first | exact HB.out | apply below_alloc | apply pw_below_drewN | apply below_drew1) | exact HB.out)) hb); clear HO0; clear HB; have HO0 := n0_; have HO124 := n1_; have HB := n2_; clear n0_ n1_ n2_; clear hb ho6; obtain ⟨Ao7, co7, eo7⟩ := Kd.R_slice HO124.out; subst eo7) | ((with_reducible refine gate_dst (N := 11) rfl ?_); refine Kd.N_lit (Kd.slice 3 (Kd.int .i64)) _ 22 ?hg (N' := 11) ?hd (xs := ([l0, y122] : List (List Int))) (inner := [.slice A0 l0.length c0, .slice Ao7 y122.length co7]) (ok := (fun k_ => (P0_ k_ ∨ w.heap.size ≤ k_))) (okp := (fun k_ => (P0_ k_ ∨ w.heap.size ≤ k_))) ?hr ?hp (fun _ hk => hk) ((show ∀ k_, w5.heap.size ≤ k_ → (fun k_ => (P0_ k_ ∨ w.heap.size ≤ k_)) k_ from fun k_ hk => (.inr (Nat.le_trans (below_size (by repeat (first | (with_reducible first | exact HB.out | apply below_alloc | apply pw_below_drewN | apply below_drew1) | exact HB.out))) hk))) _ (Nat.le_refl _)) (Below.refl _ _) (Nat.le_refl _) (by simp) ?_; (case hd => rfl); (case hg => rfl); (case hr => first | (go_simp; done) | (go_simp; rfl)); (case hp => exact (Reps.one (show Kd.FK (Kd.slice 3 (Kd.int .i64)) _ _ l0 [.slice A0 l0.length c0] from (Kd.FK_slice_mk (Kd.V_reads' (Kd.V_mono (ok' := (fun k_ => (P0_ k_ ∨ w.heap.size ≤ k_))) (HO0.out) (fun k_ hk => hk.1))).2.1 (Kd.V_F (Kd.V_mono (ok' := (fun k_ => (P0_ k_ ∨ w.heap.size ≤ k_))) (HO0.out) (fun k_ hk => hk.1))))) (Reps.one (show Kd.FK (Kd.slice 3 (Kd.int .i64)) _ _ y122 [.slice Ao7 y122.length co7] from (Kd.FK_slice_mk (Kd.R_reads' (Kd.R_mono (ok' := (fun k_ => (P0_ k_ ∨ w.heap.size ≤ k_))) (HO124.out) (fun k_ hk => (.inr (hk.1))))).2.1 (Kd.R_F (Kd.R_mono (ok' := (fun k_ => (P0_ k_ ∨ w.heap.size ≤ k_))) (HO124.out) (fun k_ hk => (.inr (hk.1))))))) (Reps.none _ _)))); intro v126 w8 ho9 hb hg_ hnew_; clear hg_ hnew_; (first | rw [← Ny125.out] at ho9 | (simp only [Int.reduceToNat] at ho9; rw [← Ny125.out] at ho9)); have n0_ := Aside0.mk (Kd.V_elder' (by (with_reducible repeat (first | apply Kd.V_alloc | apply Kd.V_drewN | apply Kd.V_drew)); exact HO0.out) (Kd.N_base ho9) hb); have n1_ := Aside0.mk (Kd.N_lower ho9 (below_size (by repeat (first | (with_reducible first | exact HB.out | apply below_alloc | apply pw_below_drewN | apply below_drew1) | exact HB.out)))); have n2_ := Aside0.mk (below_step (by repeat (first | (with_reducible first | exact HB.out | apply below_alloc | apply pw_below_drewN | apply below_drew1) | exact HB.out)) hb); clear HO0; clear HB; clear HO124; have HO0 := n0_; have HO127 := n1_; have HB := n2_; clear n0_ n1_ n2_; clear hb ho9; obtain ⟨Ao10, co10, eo10⟩ := Kd.N_slice HO127.out; subst eo10) | (go_at_call 29; (with_reducible refine (poly_is.calls k _ _ y125 true _ ?side1 ?side2 A3.out).mono ?_); (case side1 => repeat (first | exact (Kd.N_reads' HO127.out).2.2 | (with_reducible refine Kd.C_alloc ?_ _) | (with_reducible refine Kd.C_drewN ?_ _) | (with_reducible refine Kd.C_drew ?_))); (case side2 => exact (Kd.N_reads' HO127.out).2.1); rintro e w' ⟨rfl, ⟨nd, rfl⟩⟩; (try first | exact ⟨rfl, _, World.drewN_drewN _ _ _⟩ | exact ⟨rfl, _, Eq.trans (World.drewN_drewN _ _ _) (congrArg (World.drewN _) (Nat.add_assoc _ _ _))⟩)))
    repeat (go_quiet (first | ((with_reducible refine gate_dst (N := 10) rfl ?_); refine Kd.R_lit (Kd.int .i64) _ 3 ?hg (N := 10) ?hd (xs := ([a1] : List Int)) (inner := [.int .i64 a1]) (ok := fun _ => True) (okp := fun _ => True) ?hr ?hp (fun _ hk => hk) trivial (Below.refl _ _) (Nat.le_refl _) (by simp) ?_; (case hd => rfl); (case hg => rfl); (case hr => first | (go_simp; done) | (go_simp; rfl)); (case hp => exact (Reps.one (show Kd.M (Kd.int .i64) _ _ _ a1 [.int .i64 a1] from rfl) (Reps.none _ _))); intro v123 w5 ho6 hb hg_ hnew_; clear hg_ hnew_; (first | rw [← Ny122.out] at ho6 | (simp only [Int.reduceToNat] at ho6; rw [← Ny122.out] at ho6)); have n0_ := Aside0.mk (Kd.V_elder' (by (with_reducible repeat (first | apply Kd.V_alloc | apply Kd.V_drewN | apply Kd.V_drew)); exact HO0.out) (Kd.R_base ho6) hb); have n1_ := Aside0.mk (Kd.R_lower (Kd.R_newM (M := fun k_ => (w.heap.size ≤ k_)) ho6 (below_size (by repeat (first | (with_reducible first | exact HB.out | apply below_alloc | apply pw_below_drewN | apply below_drew1) | exact HB.out))) (fun k_ h_ => h_)) (below_size (by repeat (first | (with_reducible first | exact HB.out | apply below_alloc | apply pw_below_drewN | apply below_drew1) | exact HB.out)))); have n2_ := Aside0.mk (below_step (by repeat (first | (with_reducible first | exact HB.out | apply below_alloc | apply pw_below_drewN | apply below_drew1) | exact HB.out)) hb); clear HO0; clear HB; have HO0 := n0_; have HO124 := n1_; have HB := n2_; clear n0_ n1_ n2_; clear hb ho6; obtain ⟨Ao7, co7, eo7⟩ := Kd.R_slice HO124.out; subst eo7) | ((with_reducible refine gate_dst (N := 11) rfl ?_); refine Kd.N_lit (Kd.slice 3 (Kd.int .i64)) _ 22 ?hg (N' := 11) ?hd (xs := ([l0, y122] : List (List Int))) (inner := [.slice A0 l0.length c0, .slice Ao7 y122.length co7]) (ok := (fun k_ => (P0_ k_ ∨ w.heap.size ≤ k_))) (okp := (fun k_ => (P0_ k_ ∨ w.heap.size ≤ k_))) ?hr ?hp (fun _ hk => hk) ((show ∀ k_, w5.heap.size ≤ k_ → (fun k_ => (P0_ k_ ∨ w.heap.size ≤ k_)) k_ from fun k_ hk => (.inr (Nat.le_trans (below_size (by repeat (first | (with_reducible first | exact HB.out | apply below_alloc | apply pw_below_drewN | apply below_drew1) | exact HB.out))) hk))) _ (Nat.le_refl _)) (Below.refl _ _) (Nat.le_refl _) (by simp) ?_; (case hd => rfl); (case hg => rfl); (case hr => first | (go_simp; done) | (go_simp; rfl)); (case hp => exact (Reps.one (show Kd.FK (Kd.slice 3 (Kd.int .i64)) _ _ l0 [.slice A0 l0.length c0] from (Kd.FK_slice_mk (Kd.V_reads' (Kd.V_mono (ok' := (fun k_ => (P0_ k_ ∨ w.heap.size ≤ k_))) (HO0.out) (fun k_ hk => hk.1))).2.1 (Kd.V_F (Kd.V_mono (ok' := (fun k_ => (P0_ k_ ∨ w.heap.size ≤ k_))) (HO0.out) (fun k_ hk => hk.1))))) (Reps.one (show Kd.FK (Kd.slice 3 (Kd.int .i64)) _ _ y122 [.slice Ao7 y122.length co7] from (Kd.FK_slice_mk (Kd.R_reads' (Kd.R_mono (ok' := (fun k_ => (P0_ k_ ∨ w.heap.size ≤ k_))) (HO124.out) (fun k_ hk => (.inr (hk.1))))).2.1 (Kd.R_F (Kd.R_mono (ok' := (fun k_ => (P0_ k_ ∨ w.heap.size ≤ k_))) (HO124.out) (fun k_ hk => (.inr (hk.1))))))) (Reps.none _ _)))); intro v126 w8 ho9 hb hg_ hnew_; clear hg_ hnew_; (first | rw [← Ny125.out] at ho9 | (simp only [Int.reduceToNat] at ho9; rw [← Ny125.out] at ho9)); have n0_ := Aside0.mk (Kd.V_elder' (by (with_reducible repeat (first | apply Kd.V_alloc | apply Kd.V_drewN | apply Kd.V_drew)); exact HO0.out) (Kd.N_base ho9) hb); have n1_ := Aside0.mk (Kd.N_lower ho9 (below_size (by repeat (first | (with_reducible first | exact HB.out | apply below_alloc | apply pw_below_drewN | apply below_drew1) | exact HB.out)))); have n2_ := Aside0.mk (below_step (by repeat (first | (with_reducible first | exact HB.out | apply below_alloc | apply pw_below_drewN | apply below_drew1) | exact HB.out)) hb); clear HO0; clear HB; clear HO124; have HO0 := n0_; have HO127 := n1_; have HB := n2_; clear n0_ n1_ n2_; clear hb ho9; obtain ⟨Ao10, co10, eo10⟩ := Kd.N_slice HO127.out; subst eo10) | (go_at_call 29; (with_reducible refine (poly_is.calls k _ _ y125 true _ ?side1 ?side2 A3.out).mono ?_); (case side1 => repeat (first | exact (Kd.N_reads' HO127.out).2.2 | (with_reducible refine Kd.C_alloc ?_ _) | (with_reducible refine Kd.C_drewN ?_ _) | (with_reducible refine Kd.C_drew ?_))); (case side2 => exact (Kd.N_reads' HO127.out).2.1); rintro e w' ⟨rfl, ⟨nd, rfl⟩⟩; (try first | exact ⟨rfl, _, World.drewN_drewN _ _ _⟩ | exact ⟨rfl, _, Eq.trans (World.drewN_drewN _ _ _) (congrArg (World.drewN _) (Nat.add_assoc _ _ _))⟩))); try go_wp2_with (first | ((with_reducible refine gate_dst (N := 10) rfl ?_); refine Kd.R_lit (Kd.int .i64) _ 3 ?hg (N := 10) ?hd (xs := ([a1] : List Int)) (inner := [.int .i64 a1]) (ok := fun _ => True) (okp := fun _ => True) ?hr ?hp (fun _ hk => hk) trivial (Below.refl _ _) (Nat.le_refl _) (by simp) ?_; (case hd => rfl); (case hg => rfl); (case hr => first | (go_simp; done) | (go_simp; rfl)); (case hp => exact (Reps.one (show Kd.M (Kd.int .i64) _ _ _ a1 [.int .i64 a1] from rfl) (Reps.none _ _))); intro v123 w5 ho6 hb hg_ hnew_; clear hg_ hnew_; (first | rw [← Ny122.out] at ho6 | (simp only [Int.reduceToNat] at ho6; rw [← Ny122.out] at ho6)); have n0_ := Aside0.mk (Kd.V_elder' (by (with_reducible repeat (first | apply Kd.V_alloc | apply Kd.V_drewN | apply Kd.V_drew)); exact HO0.out) (Kd.R_base ho6) hb); have n1_ := Aside0.mk (Kd.R_lower (Kd.R_newM (M := fun k_ => (w.heap.size ≤ k_)) ho6 (below_size (by repeat (first | (with_reducible first | exact HB.out | apply below_alloc | apply pw_below_drewN | apply below_drew1) | exact HB.out))) (fun k_ h_ => h_)) (below_size (by repeat (first | (with_reducible first | exact HB.out | apply below_alloc | apply pw_below_drewN | apply below_drew1) | exact HB.out)))); have n2_ := Aside0.mk (below_step (by repeat (first | (with_reducible first | exact HB.out | apply below_alloc | apply pw_below_drewN | apply below_drew1) | exact HB.out)) hb); clear HO0; clear HB; have HO0 := n0_; have HO124 := n1_; have HB := n2_; clear n0_ n1_ n2_; clear hb ho6; obtain ⟨Ao7, co7, eo7⟩ := Kd.R_slice HO124.out; subst eo7) | ((with_reducible refine gate_dst (N := 11) rfl ?_); refine Kd.N_lit (Kd.slice 3 (Kd.int .i64)) _ 22 ?hg (N' := 11) ?hd (xs := ([l0, y122] : List (List Int))) (inner := [.slice A0 l0.length c0, .slice Ao7 y122.length co7]) (ok := (fun k_ => (P0_ k_ ∨ w.heap.size ≤ k_))) (okp := (fun k_ => (P0_ k_ ∨ w.heap.size ≤ k_))) ?hr ?hp (fun _ hk => hk) ((show ∀ k_, w5.heap.size ≤ k_ → (fun k_ => (P0_ k_ ∨ w.heap.size ≤ k_)) k_ from fun k_ hk => (.inr (Nat.le_trans (below_size (by repeat (first | (with_reducible first | exact HB.out | apply below_alloc | apply pw_below_drewN | apply below_drew1) | exact HB.out))) hk))) _ (Nat.le_refl _)) (Below.refl _ _) (Nat.le_refl _) (by simp) ?_; (case hd => rfl); (case hg => rfl); (case hr => first | (go_simp; done) | (go_simp; rfl)); (case hp => exact (Reps.one (show Kd.FK (Kd.slice 3 (Kd.int .i64)) _ _ l0 [.slice A0 l0.length c0] from (Kd.FK_slice_mk (Kd.V_reads' (Kd.V_mono (ok' := (fun k_ => (P0_ k_ ∨ w.heap.size ≤ k_))) (HO0.out) (fun k_ hk => hk.1))).2.1 (Kd.V_F (Kd.V_mono (ok' := (fun k_ => (P0_ k_ ∨ w.heap.size ≤ k_))) (HO0.out) (fun k_ hk => hk.1))))) (Reps.one (show Kd.FK (Kd.slice 3 (Kd.int .i64)) _ _ y122 [.slice Ao7 y122.length co7] from (Kd.FK_slice_mk (Kd.R_reads' (Kd.R_mono (ok' := (fun k_ => (P0_ k_ ∨ w.heap.size ≤ k_))) (HO124.out) (fun k_ hk => (.inr (hk.1))))).2.1 (Kd.R_F (Kd.R_mono (ok' := (fun k_ => (P0_ k_ ∨ w.heap.size ≤ k_))) (HO124.out) (fun k_ hk => (.inr (hk.1))))))) (Reps.none _ _)))); intro v126 w8 ho9 hb hg_ hnew_; clear hg_ hnew_; (first | rw [← Ny125.out] at ho9 | (simp only [Int.reduceToNat] at ho9; rw [← Ny125.out] at ho9)); have n0_ := Aside0.mk (Kd.V_elder' (by (with_reducible repeat (first | apply Kd.V_alloc | apply Kd.V_drewN | apply Kd.V_drew)); exact HO0.out) (Kd.N_base ho9) hb); have n1_ := Aside0.mk (Kd.N_lower ho9 (below_size (by repeat (first | (with_reducible first | exact HB.out | apply below_alloc | apply pw_below_drewN | apply below_drew1) | exact HB.out)))); have n2_ := Aside0.mk (below_step (by repeat (first | (with_reducible first | exact HB.out | apply below_alloc | apply pw_below_drewN | apply below_drew1) | exact HB.out)) hb); clear HO0; clear HB; clear HO124; have HO0 := n0_; have HO127 := n1_; have HB := n2_; clear n0_ n1_ n2_; clear hb ho9; obtain ⟨Ao10, co10, eo10⟩ := Kd.N_slice HO127.out; subst eo10) | (go_at_call 29; (with_reducible refine (poly_is.calls k _ _ y125 true _ ?side1 ?side2 A3.out).mono ?_); (case side1 => repeat (first | exact (Kd.N_reads' HO127.out).2.2 | (with_reducible refine Kd.C_alloc ?_ _) | (with_reducible refine Kd.C_drewN ?_ _) | (with_reducible refine Kd.C_drew ?_))); (case side2 => exact (Kd.N_reads' HO127.out).2.1); rintro e w' ⟨rfl, ⟨nd, rfl⟩⟩; (try first | exact ⟨rfl, _, World.drewN_drewN _ _ _⟩ | exact ⟨rfl, _, Eq.trans (World.drewN_drewN _ _ _) (congrArg (World.drewN _) (Nat.add_assoc _ _ _))⟩))))
    go_loopg [6, 7] k (fun kq v6 v7 w' => ∃ (x6_1 : Int) (x7_1 : Int), v6 = .int .i64 x6_1 ∧ v7 = .int .i64 x7_1 ∧ Aside0 (poly_Eval.l0 kq l0 a1 x6_1 x7_1 = some (r1, r2)) ∧ Aside0 (kq ≤ k) ∧ Aside0 (Kd.V (Kd.int .i64) 3 w' w.heap.size (fun k_ => (P0_ k_ ∨ w.heap.size ≤ k_)) (.slice A0 l0.length c0) l0) ∧ Aside0 (Below w.heap.size w w'))
    case atStart => exact ⟨(0), (wrap64 ((l0.length : Int) - 1)), (by first | rfl | (simp; done) | (simp [*]; done)), (by first | rfl | (simp; done) | (simp [*]; done)), H', ⟨Nat.le_refl _⟩, ⟨by (with_reducible repeat (first | apply Kd.V_alloc | apply Kd.V_drewN | apply Kd.V_drew)); exact Kd.V_mono HO0.out (fun _ hk => hk.1.1)⟩, ⟨by repeat (first | (with_reducible first | exact HB.out | apply below_alloc | apply pw_below_drewN | apply below_drew1) | exact HB.out)⟩⟩
    case round =>
      clear H'
      try clear c1
      try clear p2
      try clear c4
      try clear p6
      obtain ⟨x6_1, x7_1, rfl, rfl, HA, HK1, HO_0, HB⟩ := hrel
      cases gk with
      | zero => exact absurd HA.out (by simp [poly_Eval.l0])
      | succ k1 =>
        have H := HA.out
        clear HA
        simp only [poly_Eval.l0] at H
        by_cases c11 : x7_1 ≥ 0
        · rw [if_pos c11] at H
          have c11b0 : decide (0 ≤ x7_1) = true := decide_eq_true c11
          clear c11
          replace H := Option.bind_eq_some_iff.mp H
          obtain ⟨t129, A120, H⟩ := H
          replace H : (if 0 ≤ x7_1 then (if x7_1 < (l0.length : Int) then (poly_Eval.l0 k1 l0 a1 (Go.bits .xor .i64 t129 (rd l0 x7_1)) (wrap64 (x7_1 - 1))) else (none)) else (none)) = some (r1, r2) := H
          have A12 := Aside0.mk A120
          clear A120
          by_cases c13 : 0 ≤ x7_1
          · rw [if_pos c13] at H
            have c13b0 : decide (0 ≤ x7_1) = true := decide_eq_true c13
            clear c13
            by_cases c14 : x7_1 < (l0.length : Int)
            · rw [if_pos c14] at H
              have c14b0 : decide (x7_1 < (l0.length : Int)) = true := decide_eq_true c14
              clear c14
              have H' := Aside0.mk H
              clear H
              go_wp2_with (first | (go_at_call 30; (with_reducible refine (poly_mul.calls k1 x6_1 a1 t129 _ A12.out).mono ?_); rintro e w' ⟨rfl, ⟨nd, rfl⟩⟩; (try first | exact ⟨rfl, _, World.drewN_drewN _ _ _⟩ | exact ⟨rfl, _, Eq.trans (World.drewN_drewN _ _ _) (congrArg (World.drewN _) (Nat.add_assoc _ _ _))⟩); have p130 : 0 ≤ (x7_1 : Int) := of_decide_eq_true (by first | (with_reducible assumption) | assumption); have q130 : x7_1 < (l0.length : Int) := of_decide_eq_true (by first | (with_reducible assumption) | assumption); obtain ⟨ad130, e130, hx130_0⟩ := Kd.at_int (Kd.V_reads' HO_0.out).2.2 x7_1 p130 q130; cases e130; replace p130 := eq_true p130; replace q130 := eq_true q130))
              repeat (go_quiet (first | (go_at_call 30; (with_reducible refine (poly_mul.calls k1 x6_1 a1 t129 _ A12.out).mono ?_); rintro e w' ⟨rfl, ⟨nd, rfl⟩⟩; (try first | exact ⟨rfl, _, World.drewN_drewN _ _ _⟩ | exact ⟨rfl, _, Eq.trans (World.drewN_drewN _ _ _) (congrArg (World.drewN _) (Nat.add_assoc _ _ _))⟩); have p130 : 0 ≤ (x7_1 : Int) := of_decide_eq_true (by first | (with_reducible assumption) | assumption); have q130 : x7_1 < (l0.length : Int) := of_decide_eq_true (by first | (with_reducible assumption) | assumption); obtain ⟨ad130, e130, hx130_0⟩ := Kd.at_int (Kd.V_reads' HO_0.out).2.2 x7_1 p130 q130; cases e130; replace p130 := eq_true p130; replace q130 := eq_true q130)); try go_wp2_with (first | (go_at_call 30; (with_reducible refine (poly_mul.calls k1 x6_1 a1 t129 _ A12.out).mono ?_); rintro e w' ⟨rfl, ⟨nd, rfl⟩⟩; (try first | exact ⟨rfl, _, World.drewN_drewN _ _ _⟩ | exact ⟨rfl, _, Eq.trans (World.drewN_drewN _ _ _) (congrArg (World.drewN _) (Nat.add_assoc _ _ _))⟩); have p130 : 0 ≤ (x7_1 : Int) := of_decide_eq_true (by first | (with_reducible assumption) | assumption); have q130 : x7_1 < (l0.length : Int) := of_decide_eq_true (by first | (with_reducible assumption) | assumption); obtain ⟨ad130, e130, hx130_0⟩ := Kd.at_int (Kd.V_reads' HO_0.out).2.2 x7_1 p130 q130; cases e130; replace p130 := eq_true p130; replace q130 := eq_true q130)))
              go_roundg k1
              case measure => have := HK1.out; omega
              case rel => exact ⟨(Go.bits .xor .i64 t129 (rd l0 x7_1)), (wrap64 (x7_1 - 1)), (by first | rfl | (simp; done) | (simp [*]; done)), (by first | rfl | (simp; done) | (simp [*]; done)), H', ⟨by have := HK1.out; omega⟩, ⟨by (with_reducible repeat (first | apply Kd.V_alloc | apply Kd.V_drewN | apply Kd.V_drew)); exact HO_0.out⟩, ⟨by repeat (first | (with_reducible first | exact HB.out | apply below_alloc | apply pw_below_drewN | apply below_drew1) | exact HB.out)⟩⟩
            · rw [if_neg c14] at H
              exact absurd H (by simp)
          · rw [if_neg c13] at H
            exact absurd H (by simp)
        · rw [if_neg c11] at H
          have c11b0 : decide (0 ≤ x7_1) = false := decide_eq_false c11
          clear c11
          simp only [Option.some.injEq, Prod.mk.injEq] at H
          obtain ⟨rfl, rfl⟩ := H
          go_wp2
          repeat (go_quiet (fail); try go_wp2)
          go_ret2
          exact ⟨by first | rfl | (simp [errW_none, errW_some] <;> rfl) | (simp [*, errW_none, errW_some] <;> rfl), by repeat (first | (with_reducible first | exact HB.out | apply below_alloc | apply pw_below_drewN | apply below_drew1) | exact HB.out)⟩
  · replace c4 := Bool.eq_false_iff.mpr c4
    subst c4
    have H1 : (some (0, 1)) = some (r1, r2) := by rw [if_neg (show ¬ (false = true) by decide)] at H; exact H
    clear H
    have H := H1
    clear H1
    simp only [Option.some.injEq, Prod.mk.injEq] at H
    obtain ⟨rfl, rfl⟩ := H
    go_enter Try.func12, Try.ntmps12
    go_wp2_with (first | ((with_reducible refine gate_dst (N := 10) rfl ?_); refine Kd.R_lit (Kd.int .i64) _ 3 ?hg (N := 10) ?hd (xs := ([a1] : List Int)) (inner := [.int .i64 a1]) (ok := fun _ => True) (okp := fun _ => True) ?hr ?hp (fun _ hk => hk) trivial (Below.refl _ _) (Nat.le_refl _) (by simp) ?_; (case hd => rfl); (case hg => rfl); (case hr => first | (go_simp; done) | (go_simp; rfl)); (case hp => exact (Reps.one (show Kd.M (Kd.int .i64) _ _ _ a1 [.int .i64 a1] from rfl) (Reps.none _ _))); intro v123 w15 ho16 hb hg_ hnew_; clear hg_ hnew_; (first | rw [← Ny122.out] at ho16 | (simp only [Int.reduceToNat] at ho16; rw [← Ny122.out] at ho16)); have n0_ := Aside0.mk (Kd.V_elder' (by (with_reducible repeat (first | apply Kd.V_alloc | apply Kd.V_drewN | apply Kd.V_drew)); exact HO0.out) (Kd.R_base ho16) hb); have n1_ := Aside0.mk (Kd.R_lower (Kd.R_newM (M := fun k_ => (w.heap.size ≤ k_)) ho16 (below_size (by repeat (first | (with_reducible first | exact HB.out | apply below_alloc | apply pw_below_drewN | apply below_drew1) | exact HB.out))) (fun k_ h_ => h_)) (below_size (by repeat (first | (with_reducible first | exact HB.out | apply below_alloc | apply pw_below_drewN | apply below_drew1) | exact HB.out)))); have n2_ := Aside0.mk (below_step (by repeat (first | (with_reducible first | exact HB.out | apply below_alloc | apply pw_below_drewN | apply below_drew1) | exact HB.out)) hb); clear HO0; clear HB; have HO0 := n0_; have HO124 := n1_; have HB := n2_; clear n0_ n1_ n2_; clear hb ho16; obtain ⟨Ao17, co17, eo17⟩ := Kd.R_slice HO124.out; subst eo17) | ((with_reducible refine gate_dst (N := 11) rfl ?_); refine Kd.N_lit (Kd.slice 3 (Kd.int .i64)) _ 22 ?hg (N' := 11) ?hd (xs := ([l0, y122] : List (List Int))) (inner := [.slice A0 l0.length c0, .slice Ao17 y122.length co17]) (ok := (fun k_ => (P0_ k_ ∨ w.heap.size ≤ k_))) (okp := (fun k_ => (P0_ k_ ∨ w.heap.size ≤ k_))) ?hr ?hp (fun _ hk => hk) ((show ∀ k_, w15.heap.size ≤ k_ → (fun k_ => (P0_ k_ ∨ w.heap.size ≤ k_)) k_ from fun k_ hk => (.inr (Nat.le_trans (below_size (by repeat (first | (with_reducible first | exact HB.out | apply below_alloc | apply pw_below_drewN | apply below_drew1) | exact HB.out))) hk))) _ (Nat.le_refl _)) (Below.refl _ _) (Nat.le_refl _) (by simp) ?_; (case hd => rfl); (case hg => rfl); (case hr => first | (go_simp; done) | (go_simp; rfl)); (case hp => exact (Reps.one (show Kd.FK (Kd.slice 3 (Kd.int .i64)) _ _ l0 [.slice A0 l0.length c0] from (Kd.FK_slice_mk (Kd.V_reads' (Kd.V_mono (ok' := (fun k_ => (P0_ k_ ∨ w.heap.size ≤ k_))) (HO0.out) (fun k_ hk => hk.1))).2.1 (Kd.V_F (Kd.V_mono (ok' := (fun k_ => (P0_ k_ ∨ w.heap.size ≤ k_))) (HO0.out) (fun k_ hk => hk.1))))) (Reps.one (show Kd.FK (Kd.slice 3 (Kd.int .i64)) _ _ y122 [.slice Ao17 y122.length co17] from (Kd.FK_slice_mk (Kd.R_reads' (Kd.R_mono (ok' := (fun k_ => (P0_ k_ ∨ w.heap.size ≤ k_))) (HO124.out) (fun k_ hk => (.inr (hk.1))))).2.1 (Kd.R_F (Kd.R_mono (ok' := (fun k_ => (P0_ k_ ∨ w.heap.size ≤ k_))) (HO124.out) (fun k_ hk => (.inr (hk.1))))))) (Reps.none _ _)))); intro v126 w18 ho19 hb hg_ hnew_; clear hg_ hnew_; (first | rw [← Ny125.out] at ho19 | (simp only [Int.reduceToNat] at ho19; rw [← Ny125.out] at ho19)); have n0_ := Aside0.mk (Kd.V_elder' (by (with_reducible repeat (first | apply Kd.V_alloc | apply Kd.V_drewN | apply Kd.V_drew)); exact HO0.out) (Kd.N_base ho19) hb); have n1_ := Aside0.mk (Kd.N_lower ho19 (below_size (by repeat (first | (with_reducible first | exact HB.out | apply below_alloc | apply pw_below_drewN | apply below_drew1) | exact HB.out)))); have n2_ := Aside0.mk (below_step (by repeat (first | (with_reducible first | exact HB.out | apply below_alloc | apply pw_below_drewN | apply below_drew1) | exact HB.out)) hb); clear HO0; clear HB; clear HO124; have HO0 := n0_; have HO127 := n1_; have HB := n2_; clear n0_ n1_ n2_; clear hb ho19; obtain ⟨Ao20, co20, eo20⟩ := Kd.N_slice HO127.out; subst eo20) | (go_at_call 29; (with_reducible refine (poly_is.calls k _ _ y125 false _ ?side1 ?side2 A3.out).mono ?_); (case side1 => repeat (first | exact (Kd.N_reads' HO127.out).2.2 | (with_reducible refine Kd.C_alloc ?_ _) | (with_reducible refine Kd.C_drewN ?_ _) | (with_reducible refine Kd.C_drew ?_))); (case side2 => exact (Kd.N_reads' HO127.out).2.1); rintro e w' ⟨rfl, ⟨nd, rfl⟩⟩; (try first | exact ⟨rfl, _, World.drewN_drewN _ _ _⟩ | exact ⟨rfl, _, Eq.trans (World.drewN_drewN _ _ _) (congrArg (World.drewN _) (Nat.add_assoc _ _ _))⟩)))
    repeat (go_quiet (first | ((with_reducible refine gate_dst (N := 10) rfl ?_); refine Kd.R_lit (Kd.int .i64) _ 3 ?hg (N := 10) ?hd (xs := ([a1] : List Int)) (inner := [.int .i64 a1]) (ok := fun _ => True) (okp := fun _ => True) ?hr ?hp (fun _ hk => hk) trivial (Below.refl _ _) (Nat.le_refl _) (by simp) ?_; (case hd => rfl); (case hg => rfl); (case hr => first | (go_simp; done) | (go_simp; rfl)); (case hp => exact (Reps.one (show Kd.M (Kd.int .i64) _ _ _ a1 [.int .i64 a1] from rfl) (Reps.none _ _))); intro v123 w15 ho16 hb hg_ hnew_; clear hg_ hnew_; (first | rw [← Ny122.out] at ho16 | (simp only [Int.reduceToNat] at ho16; rw [← Ny122.out] at ho16)); have n0_ := Aside0.mk (Kd.V_elder' (by (with_reducible repeat (first | apply Kd.V_alloc | apply Kd.V_drewN | apply Kd.V_drew)); exact HO0.out) (Kd.R_base ho16) hb); have n1_ := Aside0.mk (Kd.R_lower (Kd.R_newM (M := fun k_ => (w.heap.size ≤ k_)) ho16 (below_size (by repeat (first | (with_reducible first | exact HB.out | apply below_alloc | apply pw_below_drewN | apply below_drew1) | exact HB.out))) (fun k_ h_ => h_)) (below_size (by repeat (first | (with_reducible first | exact HB.out | apply below_alloc | apply pw_below_drewN | apply below_drew1) | exact HB.out)))); have n2_ := Aside0.mk (below_step (by repeat (first | (with_reducible first | exact HB.out | apply below_alloc | apply pw_below_drewN | apply below_drew1) | exact HB.out)) hb); clear HO0; clear HB; have HO0 := n0_; have HO124 := n1_; have HB := n2_; clear n0_ n1_ n2_; clear hb ho16; obtain ⟨Ao17, co17, eo17⟩ := Kd.R_slice HO124.out; subst eo17) | ((with_reducible refine gate_dst (N := 11) rfl ?_); refine Kd.N_lit (Kd.slice 3 (Kd.int .i64)) _ 22 ?hg (N' := 11) ?hd (xs := ([l0, y122] : List (List Int))) (inner := [.slice A0 l0.length c0, .slice Ao17 y122.length co17]) (ok := (fun k_ => (P0_ k_ ∨ w.heap.size ≤ k_))) (okp := (fun k_ => (P0_ k_ ∨ w.heap.size ≤ k_))) ?hr ?hp (fun _ hk => hk) ((show ∀ k_, w15.heap.size ≤ k_ → (fun k_ => (P0_ k_ ∨ w.heap.size ≤ k_)) k_ from fun k_ hk => (.inr (Nat.le_trans (below_size (by repeat (first | (with_reducible first | exact HB.out | apply below_alloc | apply pw_below_drewN | apply below_drew1) | exact HB.out))) hk))) _ (Nat.le_refl _)) (Below.refl _ _) (Nat.le_refl _) (by simp) ?_; (case hd => rfl); (case hg => rfl); (case hr => first | (go_simp; done) | (go_simp; rfl)); (case hp => exact (Reps.one (show Kd.FK (Kd.slice 3 (Kd.int .i64)) _ _ l0 [.slice A0 l0.length c0] from (Kd.FK_slice_mk (Kd.V_reads' (Kd.V_mono (ok' := (fun k_ => (P0_ k_ ∨ w.heap.size ≤ k_))) (HO0.out) (fun k_ hk => hk.1))).2.1 (Kd.V_F (Kd.V_mono (ok' := (fun k_ => (P0_ k_ ∨ w.heap.size ≤ k_))) (HO0.out) (fun k_ hk => hk.1))))) (Reps.one (show Kd.FK (Kd.slice 3 (Kd.int .i64)) _ _ y122 [.slice Ao17 y122.length co17] from (Kd.FK_slice_mk (Kd.R_reads' (Kd.R_mono (ok' := (fun k_ => (P0_ k_ ∨ w.heap.size ≤ k_))) (HO124.out) (fun k_ hk => (.inr (hk.1))))).2.1 (Kd.R_F (Kd.R_mono (ok' := (fun k_ => (P0_ k_ ∨ w.heap.size ≤ k_))) (HO124.out) (fun k_ hk => (.inr (hk.1))))))) (Reps.none _ _)))); intro v126 w18 ho19 hb hg_ hnew_; clear hg_ hnew_; (first | rw [← Ny125.out] at ho19 | (simp only [Int.reduceToNat] at ho19; rw [← Ny125.out] at ho19)); have n0_ := Aside0.mk (Kd.V_elder' (by (with_reducible repeat (first | apply Kd.V_alloc | apply Kd.V_drewN | apply Kd.V_drew)); exact HO0.out) (Kd.N_base ho19) hb); have n1_ := Aside0.mk (Kd.N_lower ho19 (below_size (by repeat (first | (with_reducible first | exact HB.out | apply below_alloc | apply pw_below_drewN | apply below_drew1) | exact HB.out)))); have n2_ := Aside0.mk (below_step (by repeat (first | (with_reducible first | exact HB.out | apply below_alloc | apply pw_below_drewN | apply below_drew1) | exact HB.out)) hb); clear HO0; clear HB; clear HO124; have HO0 := n0_; have HO127 := n1_; have HB := n2_; clear n0_ n1_ n2_; clear hb ho19; obtain ⟨Ao20, co20, eo20⟩ := Kd.N_slice HO127.out; subst eo20) | (go_at_call 29; (with_reducible refine (poly_is.calls k _ _ y125 false _ ?side1 ?side2 A3.out).mono ?_); (case side1 => repeat (first | exact (Kd.N_reads' HO127.out).2.2 | (with_reducible refine Kd.C_alloc ?_ _) | (with_reducible refine Kd.C_drewN ?_ _) | (with_reducible refine Kd.C_drew ?_))); (case side2 => exact (Kd.N_reads' HO127.out).2.1); rintro e w' ⟨rfl, ⟨nd, rfl⟩⟩; (try first | exact ⟨rfl, _, World.drewN_drewN _ _ _⟩ | exact ⟨rfl, _, Eq.trans (World.drewN_drewN _ _ _) (congrArg (World.drewN _) (Nat.add_assoc _ _ _))⟩))); try go_wp2_with (first | ((with_reducible refine gate_dst (N := 10) rfl ?_); refine Kd.R_lit (Kd.int .i64) _ 3 ?hg (N := 10) ?hd (xs := ([a1] : List Int)) (inner := [.int .i64 a1]) (ok := fun _ => True) (okp := fun _ => True) ?hr ?hp (fun _ hk => hk) trivial (Below.refl _ _) (Nat.le_refl _) (by simp) ?_; (case hd => rfl); (case hg => rfl); (case hr => first | (go_simp; done) | (go_simp; rfl)); (case hp => exact (Reps.one (show Kd.M (Kd.int .i64) _ _ _ a1 [.int .i64 a1] from rfl) (Reps.none _ _))); intro v123 w15 ho16 hb hg_ hnew_; clear hg_ hnew_; (first | rw [← Ny122.out] at ho16 | (simp only [Int.reduceToNat] at ho16; rw [← Ny122.out] at ho16)); have n0_ := Aside0.mk (Kd.V_elder' (by (with_reducible repeat (first | apply Kd.V_alloc | apply Kd.V_drewN | apply Kd.V_drew)); exact HO0.out) (Kd.R_base ho16) hb); have n1_ := Aside0.mk (Kd.R_lower (Kd.R_newM (M := fun k_ => (w.heap.size ≤ k_)) ho16 (below_size (by repeat (first | (with_reducible first | exact HB.out | apply below_alloc | apply pw_below_drewN | apply below_drew1) | exact HB.out))) (fun k_ h_ => h_)) (below_size (by repeat (first | (with_reducible first | exact HB.out | apply below_alloc | apply pw_below_drewN | apply below_drew1) | exact HB.out)))); have n2_ := Aside0.mk (below_step (by repeat (first | (with_reducible first | exact HB.out | apply below_alloc | apply pw_below_drewN | apply below_drew1) | exact HB.out)) hb); clear HO0; clear HB; have HO0 := n0_; have HO124 := n1_; have HB := n2_; clear n0_ n1_ n2_; clear hb ho16; obtain ⟨Ao17, co17, eo17⟩ := Kd.R_slice HO124.out; subst eo17) | ((with_reducible refine gate_dst (N := 11) rfl ?_); refine Kd.N_lit (Kd.slice 3 (Kd.int .i64)) _ 22 ?hg (N' := 11) ?hd (xs := ([l0, y122] : List (List Int))) (inner := [.slice A0 l0.length c0, .slice Ao17 y122.length co17]) (ok := (fun k_ => (P0_ k_ ∨ w.heap.size ≤ k_))) (okp := (fun k_ => (P0_ k_ ∨ w.heap.size ≤ k_))) ?hr ?hp (fun _ hk => hk) ((show ∀ k_, w15.heap.size ≤ k_ → (fun k_ => (P0_ k_ ∨ w.heap.size ≤ k_)) k_ from fun k_ hk => (.inr (Nat.le_trans (below_size (by repeat (first | (with_reducible first | exact HB.out | apply below_alloc | apply pw_below_drewN | apply below_drew1) | exact HB.out))) hk))) _ (Nat.le_refl _)) (Below.refl _ _) (Nat.le_refl _) (by simp) ?_; (case hd => rfl); (case hg => rfl); (case hr => first | (go_simp; done) | (go_simp; rfl)); (case hp => exact (Reps.one (show Kd.FK (Kd.slice 3 (Kd.int .i64)) _ _ l0 [.slice A0 l0.length c0] from (Kd.FK_slice_mk (Kd.V_reads' (Kd.V_mono (ok' := (fun k_ => (P0_ k_ ∨ w.heap.size ≤ k_))) (HO0.out) (fun k_ hk => hk.1))).2.1 (Kd.V_F (Kd.V_mono (ok' := (fun k_ => (P0_ k_ ∨ w.heap.size ≤ k_))) (HO0.out) (fun k_ hk => hk.1))))) (Reps.one (show Kd.FK (Kd.slice 3 (Kd.int .i64)) _ _ y122 [.slice Ao17 y122.length co17] from (Kd.FK_slice_mk (Kd.R_reads' (Kd.R_mono (ok' := (fun k_ => (P0_ k_ ∨ w.heap.size ≤ k_))) (HO124.out) (fun k_ hk => (.inr (hk.1))))).2.1 (Kd.R_F (Kd.R_mono (ok' := (fun k_ => (P0_ k_ ∨ w.heap.size ≤ k_))) (HO124.out) (fun k_ hk => (.inr (hk.1))))))) (Reps.none _ _)))); intro v126 w18 ho19 hb hg_ hnew_; clear hg_ hnew_; (first | rw [← Ny125.out] at ho19 | (simp only [Int.reduceToNat] at ho19; rw [← Ny125.out] at ho19)); have n0_ := Aside0.mk (Kd.V_elder' (by (with_reducible repeat (first | apply Kd.V_alloc | apply Kd.V_drewN | apply Kd.V_drew)); exact HO0.out) (Kd.N_base ho19) hb); have n1_ := Aside0.mk (Kd.N_lower ho19 (below_size (by repeat (first | (with_reducible first | exact HB.out | apply below_alloc | apply pw_below_drewN | apply below_drew1) | exact HB.out)))); have n2_ := Aside0.mk (below_step (by repeat (first | (with_reducible first | exact HB.out | apply below_alloc | apply pw_below_drewN | apply below_drew1) | exact HB.out)) hb); clear HO0; clear HB; clear HO124; have HO0 := n0_; have HO127 := n1_; have HB := n2_; clear n0_ n1_ n2_; clear hb ho19; obtain ⟨Ao20, co20, eo20⟩ := Kd.N_slice HO127.out; subst eo20) | (go_at_call 29; (with_reducible refine (poly_is.calls k _ _ y125 false _ ?side1 ?side2 A3.out).mono ?_); (case side1 => repeat (first | exact (Kd.N_reads' HO127.out).2.2 | (with_reducible refine Kd.C_alloc ?_ _) | (with_reducible refine Kd.C_drewN ?_ _) | (with_reducible refine Kd.C_drew ?_))); (case side2 => exact (Kd.N_reads' HO127.out).2.1); rintro e w' ⟨rfl, ⟨nd, rfl⟩⟩; (try first | exact ⟨rfl, _, World.drewN_drewN _ _ _⟩ | exact ⟨rfl, _, Eq.trans (World.drewN_drewN _ _ _) (congrArg (World.drewN _) (Nat.add_assoc _ _ _))⟩))))
    go_ret2
    exact ⟨by first | rfl | (simp [errW_none, errW_some] <;> rfl) | (simp [*, errW_none, errW_some] <;> rfl), by repeat (first | (with_reducible first | exact HB.out | apply below_alloc | apply pw_below_drewN | apply below_drew1) | exact HB.out)⟩

/-! ### poly_Norm: function 19 -/
theorem norm1_calls (k : Nat) (W : World) (B g cap : Nat) (b0 : Nat) (A : Option Addr) (c : Nat) (p : List Int) (hr : Kd.C (Kd.int .i64) W A p.length p) (hb0 : W.cell? ⟨b0, 0, none⟩ = some (.slice A p.length c)) (l r : List Int) (W1 : World) (hst : PutSt W B g cap l W1) (h : layL (fun a => poly_mul.f k a 1) p 0 l = some r) :
    Calls Try.prog 37 #[.func (.func 46) #[] #[.pointer (some ⟨B, 0, none⟩)], .pointer (some ⟨b0, 0, none⟩)] W1 fun e w' => e = .returned (.tuple #[]) ∧ PutSt W B g cap r w' := by
  have hbx := box_at hst.below hb0
  have Hq := Aside0.mk (lay_calls k W B g cap A c p hr 0 1 l r W1 hst h)
  clear hst h hr hb0
  go_enter Try.func37, Try.ntmps37
  go_wp2_with (first | (go_at_call 35; refine Hq.out.mono ?_; clear Hq; rintro e w' ⟨rfl, hs⟩; have HS := Aside0.mk hs; clear hs))
  go_end0
  exact ⟨rfl, HS.out⟩
def poly_Norm.f (k : Nat) (l0 : List Int) : Option (List Int × Int) := (poly_is.f k [l0]).bind fun b => if b = true then (if l0.length ≤ 35184372088832 then (layL (fun a => poly_mul.f k a 1) l0 0 (List.replicate l0.length 0)).bind fun l => some (fin l, 0) else none) else some ([], 1)
theorem poly_Norm.mono : ∀ a0 k, LeO (poly_Norm.f k a0) (poly_Norm.f (k + 1) a0) := by
  intro a0 k
  unfold poly_Norm.f
  exact LeO.bind (poly_is.mono _ _) (fun b => LeO.ite (LeO.ite (LeO.bind (layL_mono (fun a => poly_mul.mono _ _ _) _ _ _) (fun l => LeO.refl _)) (LeO.refl _)) (LeO.refl _))
set_option maxHeartbeats 1000000 in
theorem poly_Norm.calls_yes (k : Nat) (A0 : Option Addr) (c0 : Nat) (l0 l : List Int) (w : World) (hr0 : Kd.C (Kd.int .i64) w A0 l0.length l0) (hc0 : l0.length ≤ c0) (hb : poly_is.f k [l0] = some true) (hl : l0.length ≤ 35184372088832) (hlay : layL (fun a => poly_mul.f k a 1) l0 0 (List.replicate l0.length 0) = some l) :
    Calls Try.prog 19 #[.slice A0 l0.length c0] w fun e w' => ∃ g cap : Nat, e = .returned (.tuple #[.slice (some ⟨g, 0, none⟩) (fin l).length cap, .int .i64 0]) ∧ w'.ownsRow w.heap.size 3 1 (.slice (some ⟨g, 0, none⟩) (fin l).length cap) (fin l).length (encs (Value.int .i64) (fin l)) ∧ Below w.heap.size w w' := by
  have HR := Aside0.mk hr0
  have HC := Aside0.mk hc0
  have HI := Aside0.mk hb
  have HL := Aside0.mk hlay
  clear hr0 hc0 hb hlay
  go_enter Try.func19, Try.ntmps19
  go_wp2_with fail
  have hB2 : Below w.heap.size w ((w.alloc (.cells #[.slice A0 l0.length c0] 22)).alloc (.cells #[.slice A0 l0.length c0] 22)) := below_alloc (below_alloc (Below.refl _ _) _) _
  have hc2 : ((w.alloc (.cells #[.slice A0 l0.length c0] 22)).alloc (.cells #[.slice A0 l0.length c0] 22)).cell? ⟨w.heap.size + 1, 0, none⟩ = some (.slice A0 l0.length c0) := by go_simp
  have HX := Aside0.mk (C_one HR.out HC.out hB2 hc2)
  clear hB2 hc2
  refine (poly_is.calls k _ 1 [l0] true _ HX.out (Nat.le_refl _) HI.out).mono ?_
  clear HX
  rintro e w' ⟨rfl, ⟨nd, rfl⟩⟩
  have hB3 : Below w.heap.size w (((w.alloc (.cells #[.slice A0 l0.length c0] 22)).alloc (.cells #[.slice A0 l0.length c0] 22)).drewN nd) := pw_below_drewN (below_alloc (below_alloc (Below.refl _ _) _) _) nd
  have hb3 : (((w.alloc (.cells #[.slice A0 l0.length c0] 22)).alloc (.cells #[.slice A0 l0.length c0] 22)).drewN nd).cell? ⟨w.heap.size, 0, none⟩ = some (.slice A0 l0.length c0) := by go_simp
  have HB3 := Aside0.mk hB3
  have Hb3 := Aside0.mk hb3
  clear hB3 hb3
  go_wp2_with fail
  have Hq := Aside0.mk (build_calls_Norm l0.length _ l hl w.heap.size (fun B g cap W1 hst => norm1_calls k _ B g cap w.heap.size A0 c0 l0 (Kd.C_below HR.out HB3.out) Hb3.out _ l W1 hst HL.out))
  refine Hq.out.mono ?_
  clear Hq
  rintro e w' ⟨g, cap, rfl, ho, hb⟩
  have HO := Aside0.mk (own_weaken ho HB3.out.size)
  have HB := Aside0.mk (below_then HB3.out HB3.out.size hb)
  clear ho hb HB3 Hb3
  go_wp2
  go_ret2
  exact ⟨g, cap, rfl, HO.out, HB.out⟩
theorem poly_Norm.calls (k : Nat) (A0 : Option Addr) (c0 : Nat) (l0 : List Int) (r1 : List Int) (r2 : Int) (w : World) (hr0 : Kd.C (Kd.int .i64) w A0 l0.length l0) (hc0 : l0.length ≤ c0) (h : poly_Norm.f k l0 = some (r1, r2)) :
    Calls Try.prog 19 #[.slice A0 l0.length c0] w fun e w' => ∃ v0_ : Value, e = .returned (.tuple #[v0_, .int .i64 r2]) ∧ Kd.R (Kd.int .i64) 3 w' w.heap.size (fun _ => True) v0_ r1 ∧ Below w.heap.size w w' := by
  unfold poly_Norm.f at h
  obtain ⟨b, hb, h⟩ := Option.bind_eq_some_iff.1 h
  cases b with
  | false =>
    have HI := Aside0.mk hb
    have HR := Aside0.mk hr0
    have HC := Aside0.mk hc0
    rw [if_neg (by simp)] at h
    simp only [Option.some.injEq, Prod.mk.injEq] at h
    obtain ⟨rfl, rfl⟩ := h
    clear hr0 hc0 hb
    go_enter Try.func19, Try.ntmps19
    go_wp2_with fail
    have hB2 : Below w.heap.size w ((w.alloc (.cells #[.slice A0 l0.length c0] 22)).alloc (.cells #[.slice A0 l0.length c0] 22)) := below_alloc (below_alloc (Below.refl _ _) _) _
    have hc2 : ((w.alloc (.cells #[.slice A0 l0.length c0] 22)).alloc (.cells #[.slice A0 l0.length c0] 22)).cell? ⟨w.heap.size + 1, 0, none⟩ = some (.slice A0 l0.length c0) := by go_simp
    have HX := Aside0.mk (C_one HR.out HC.out hB2 hc2)
    clear hB2 hc2
    refine (poly_is.calls k _ 1 [l0] false _ HX.out (Nat.le_refl _) HI.out).mono ?_
    clear HX
    rintro e w' ⟨rfl, ⟨nd, rfl⟩⟩
    go_wp2
    go_ret2
    exact ⟨_, rfl, Kd.R_nil _ _ _ _ _, pw_below_drewN (below_alloc (below_alloc (Below.refl _ _) _) _) nd⟩
  | true =>
    rw [if_pos rfl] at h
    by_cases hl : l0.length ≤ 35184372088832
    · rw [if_pos hl] at h
      obtain ⟨l, hlay, h⟩ := Option.bind_eq_some_iff.1 h
      simp only [Option.some.injEq, Prod.mk.injEq] at h
      obtain ⟨rfl, rfl⟩ := h
      refine (poly_Norm.calls_yes k A0 c0 l0 l w hr0 hc0 hb hl hlay).mono ?_
      rintro e w' ⟨g, cap, rfl, ho, hb⟩
      exact ⟨_, rfl, Kd.R_of_own (h1 := fun _ => rfl) ho (fun _ _ => trivial), hb⟩
    · rw [if_neg hl] at h; exact absurd h (by simp)

/-! ### gf_pow: function 45 -/
def gf_pow.l0 : Nat → Int → Int → Int → Option (Int)
  | 0, _, _, _ => none
  | k + 1, x0, x1, x5 => if x1 > 0 then (if (Go.bits .and .i64 x1 1) = 1 then ((gf_mul.f k x5 x0).bind fun t131 => ((gf_mul.f k x0 x0).bind fun t132 => (gf_pow.l0 k t132 (x1 / 2) t131))) else ((gf_mul.f k x0 x0).bind fun t133 => (gf_pow.l0 k t133 (x1 / 2) x5))) else (some x5)
def gf_pow.f (k : Nat) (a0 : Int) (a1 : Int) : Option (Int) := gf_pow.l0 k a0 a1 1
theorem gf_pow.mono_l : ∀ k, (∀ y0 y1 y2, LeO (gf_pow.l0 k y0 y1 y2) (gf_pow.l0 (k + 1) y0 y1 y2))
  | 0 => fun _ _ _ r h => by simp [gf_pow.l0] at h
  | k + 1 => by
    have ih0 := gf_pow.mono_l k
    · intro y0 y1 y2
      unfold gf_pow.l0
      repeat' first
      | (with_reducible exact ih0 _ _ _)
      | (with_reducible exact gf_mul.mono _ _ _)
      | (with_reducible exact LeO.refl _)
      | (with_reducible exact LeO.none _)
      | (with_reducible refine LeO.ite ?_ ?_)
      | (with_reducible refine LeO.bind ?_ (fun _ => ?_))
      | exact ih0 _ _ _
      | exact gf_mul.mono _ _ _
      | exact LeO.none _
      | refine LeO.ite ?_ ?_
      | refine LeO.bind ?_ (fun _ => ?_)
theorem gf_pow.mono : ∀ a0 a1 k, LeO (gf_pow.f k a0 a1) (gf_pow.f (k + 1) a0 a1) := by
  intro a0 a1 k
  have ih0 := gf_pow.mono_l k
  unfold gf_pow.f
  repeat' first
      | (with_reducible exact ih0 _ _ _)
      | (with_reducible exact gf_mul.mono _ _ _)
      | (with_reducible exact LeO.refl _)
      | (with_reducible exact LeO.none _)
      | (with_reducible refine LeO.ite ?_ ?_)
      | (with_reducible refine LeO.bind ?_ (fun _ => ?_))
      | exact ih0 _ _ _
      | exact gf_mul.mono _ _ _
      | exact LeO.none _
      | refine LeO.ite ?_ ?_
      | refine LeO.bind ?_ (fun _ => ?_)
set_option maxHeartbeats 8000000 in
set_option maxRecDepth 100000 in
theorem gf_pow.calls (k : Nat) (a0 : Int) (a1 : Int) (r : Int) (w : World) (h : gf_pow.f k a0 a1 = some r) :
    Calls Try.prog 45 #[.int .i64 a0, .int .i64 a1] w fun e w' => e = .returned (.int .i64 r) ∧ Drawn0 w w' := by
  have H : (gf_pow.l0 k a0 a1 1) = some r := h
  clear h
  have H' := Aside0.mk H
  clear H
  go_enter Try.func45, Try.ntmps45
  go_wp2
  go_loopg [0, 1, 5] k (fun kq v0 v1 v5 w' => ∃ (x0_1 : Int) (x1_1 : Int) (x5_1 : Int), v0 = .int .i64 x0_1 ∧ v1 = .int .i64 x1_1 ∧ v5 = .int .i64 x5_1 ∧ Aside0 (gf_pow.l0 kq x0_1 x1_1 x5_1 = some r) ∧ Aside0 (kq ≤ k) ∧ Drawn0 w w')
  case atStart => exact ⟨(a0), (a1), (1), (by first | rfl | (simp; done) | (simp [*]; done)), (by first | rfl | (simp; done) | (simp [*]; done)), (by first | rfl | (simp; done) | (simp [*]; done)), H', ⟨Nat.le_refl _⟩, by repeat (first | exact Drawn0.refl _ | apply Drawn0.step)⟩
  case round =>
    clear H'
    try clear p2
    obtain ⟨x0_1, x1_1, x5_1, rfl, rfl, rfl, HA, HK1, ⟨m1, rfl⟩⟩ := hrel
    cases gk with
    | zero => exact absurd HA.out (by simp [gf_pow.l0])
    | succ k1 =>
      have H := HA.out
      clear HA
      simp only [gf_pow.l0] at H
      by_cases c3 : x1_1 > 0
      · rw [if_pos c3] at H
        have c3b0 : decide (0 < x1_1) = true := decide_eq_true c3
        clear c3
        by_cases c4 : (Go.bits .and .i64 x1_1 1) = 1
        · rw [if_pos c4] at H
          have c4b0 : ((Go.bits .and .i64 x1_1 1) == 1) = true := beq_iff_eq.mpr c4
          have c4b1 : ((Go.bits .and .i64 x1_1 1) != 1) = false := bne_eq_false_iff_eq.mpr c4
          clear c4
          replace H := Option.bind_eq_some_iff.mp H
          obtain ⟨t131, A50, H⟩ := H
          replace H : ((gf_mul.f k1 x0_1 x0_1).bind fun t132 => (gf_pow.l0 k1 t132 (x1_1 / 2) t131)) = some r := H
          have A5 := Aside0.mk A50
          clear A50
          replace H := Option.bind_eq_some_iff.mp H
          obtain ⟨t132, A60, H⟩ := H
          replace H : (gf_pow.l0 k1 t132 (x1_1 / 2) t131) = some r := H
          have A6 := Aside0.mk A60
          clear A60
          have H' := Aside0.mk H
          clear H
          go_wp2_with (first | ((with_reducible refine gate_callee (f := 47) rfl ?_); refine goesL_ (some 15) rfl rfl Try.func47 (by kernel_rfl) rfl #[.int .i64 x5_1, .int .i64 x0_1] rfl (by (try simp only [List.map_toArray, List.map_cons, List.map_nil]); first | done | rfl | (simp only [List.length_drop, List.length_take]; rfl)) ?_; (with_reducible refine (gf_mul.calls k1 x5_1 x0_1 t131 _ A5.out).mono ?_); rintro e w' ⟨rfl, ⟨nd, rfl⟩⟩; refine ⟨_, rfl, ?_⟩) | ((with_reducible refine gate_callee (f := 47) rfl ?_); refine goesL_ (some 18) rfl rfl Try.func47 (by kernel_rfl) rfl #[.int .i64 x0_1, .int .i64 x0_1] rfl (by (try simp only [List.map_toArray, List.map_cons, List.map_nil]); first | done | rfl | (simp only [List.length_drop, List.length_take]; rfl)) ?_; (with_reducible refine (gf_mul.calls k1 x0_1 x0_1 t132 _ A6.out).mono ?_); rintro e w' ⟨rfl, ⟨nd, rfl⟩⟩; refine ⟨_, rfl, ?_⟩))
          go_roundg k1
          case measure => have := HK1.out; omega
          case rel => exact ⟨(t132), (x1_1 / 2), (t131), (by first | rfl | (simp; done) | (simp [*]; done)), (by first | rfl | (simp; done) | (simp [*]; done)), (by first | rfl | (simp; done) | (simp [*]; done)), H', ⟨by have := HK1.out; omega⟩, by repeat (first | exact Drawn0.refl _ | apply Drawn0.step)⟩
        · rw [if_neg c4] at H
          have c4b0 : ((Go.bits .and .i64 x1_1 1) == 1) = false := beq_eq_false_iff_ne.mpr c4
          have c4b1 : ((Go.bits .and .i64 x1_1 1) != 1) = true := bne_iff_ne.mpr c4
          replace H := Option.bind_eq_some_iff.mp H
          obtain ⟨t133, A70, H⟩ := H
          replace H : (gf_pow.l0 k1 t133 (x1_1 / 2) x5_1) = some r := H
          have A7 := Aside0.mk A70
          clear A70
          have H' := Aside0.mk H
          clear H
          go_wp2_with (first | ((with_reducible refine gate_callee (f := 47) rfl ?_); refine goesL_ (some 18) rfl rfl Try.func47 (by kernel_rfl) rfl #[.int .i64 x0_1, .int .i64 x0_1] rfl (by (try simp only [List.map_toArray, List.map_cons, List.map_nil]); first | done | rfl | (simp only [List.length_drop, List.length_take]; rfl)) ?_; (with_reducible refine (gf_mul.calls k1 x0_1 x0_1 t133 _ A7.out).mono ?_); rintro e w' ⟨rfl, ⟨nd, rfl⟩⟩; refine ⟨_, rfl, ?_⟩))
          go_roundg k1
          case measure => have := HK1.out; omega
          case rel => exact ⟨(t133), (x1_1 / 2), (x5_1), (by first | rfl | (simp; done) | (simp [*]; done)), (by first | rfl | (simp; done) | (simp [*]; done)), (by first | rfl | (simp; done) | (simp [*]; done)), H', ⟨by have := HK1.out; omega⟩, by repeat (first | exact Drawn0.refl _ | apply Drawn0.step)⟩
      · rw [if_neg c3] at H
        have c3b0 : decide (0 < x1_1) = false := decide_eq_false c3
        clear c3
        obtain rfl := Option.some.inj H
        go_wp2
        go_ret
        exact ⟨by first | rfl | (simp; done) | (simp [*]; done), by repeat (first | exact Drawn0.refl _ | apply Drawn0.step)⟩

end Go.Proofs.Ytfjmbmlmbchglaa.P

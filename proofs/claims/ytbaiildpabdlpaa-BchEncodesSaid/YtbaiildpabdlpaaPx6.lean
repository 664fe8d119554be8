/- What Go functions of the translation come to, as plain functions, and that their calls come to just that. No condition but that the plain function answers. (Written by a program of this session.) -/
import Derived.Test.YtbaiildpabdlpaaPx0
import Derived.Test.YtbaiildpabdlpaaPx1
import Derived.Test.YtbaiildpabdlpaaPx3
import Derived.Test.YtbaiildpabdlpaaPx4
namespace Go.Proofs.Ytbaiildpabdlpaa.P
open Go.RowKit Go.Proofs.YtbaiildpabdlpaaW.PrintWords Go.Proofs.YtbaiildpabdlpaaW.PrintLast Go.Proofs.YtbaiildpabdlpaaW.PrintMore
attribute [local go_sem] max2_int min2_int max_two min_two max_three min_three max_four min_four   -- for this text's walks alone
set_option linter.unusedVariables false
set_option linter.unusedSimpArgs false
/-- The world below a block. -/
def cutW (W : World) (g : Nat) : World := { W with heap := W.heap.extract 0 g }
theorem cutW_size {W : World} {g : Nat} (h : g ≤ W.heap.size) : (cutW W g).heap.size = g := by simp [cutW]; omega
theorem cutW_blk (W : World) {g k : Nat} (h : k < g) : (cutW W g).heap[k]? = W.heap[k]? := by
  simp only [cutW, Array.getElem?_extract]
  by_cases hk : k < W.heap.size
  · rw [if_pos (by omega)]; simp
  · rw [if_neg (by omega), Array.getElem?_eq_none (by omega)]
theorem cutW_below {W : World} {g : Nat} (h : g ≤ W.heap.size) : Below (cutW W g).heap.size (cutW W g) W :=
  ⟨rfl, rfl, rfl, by rw [cutW_size h]; exact h, fun k hk => (cutW_blk W (by rwa [cutW_size h] at hk)).symm⟩
/-- A word: its block, and its two rows. -/
structure WSt (W : World) (base g : Nat) (t : Int) (d m : List Int) (gd cd gm cm : Nat) : Prop where
  blk : W.heap[g]? = some (.cells #[.int .i64 t, .slice (some ⟨gd, 0, none⟩) d.length cd, .slice (some ⟨gm, 0, none⟩) m.length cm] 67 (0, 0))
  od : W.ownsRow base 5 1 (.slice (some ⟨gd, 0, none⟩) d.length cd) d.length (encs (Value.int .u8) d)
  om : W.ownsRow base 5 1 (.slice (some ⟨gm, 0, none⟩) m.length cm) m.length (encs (Value.int .u8) m)
  ne : gd ≠ gm
  ltd : gd < g
  ltm : gm < g
theorem WSt.ged {W : World} {base g : Nat} {t : Int} {d m : List Int} {gd cd gm cm : Nat} (h : WSt W base g t d m gd cd gm cm) : base ≤ gd := own_base h.od gd (by simp [Value.ownBlock])
theorem WSt.gem {W : World} {base g : Nat} {t : Int} {d m : List Int} {gd cd gm cm : Nat} (h : WSt W base g t d m gd cd gm cm) : base ≤ gm := own_base h.om gm (by simp [Value.ownBlock])
theorem WSt.move {W W1 : World} {base g : Nat} {t : Int} {d m : List Int} {gd cd gm cm : Nat} (h : WSt W base g t d m gd cd gm cm) (hm : ∀ k, k = g ∨ k = gd ∨ k = gm → W1.heap[k]? = W.heap[k]?) : WSt W1 base g t d m gd cd gm cm :=
  ⟨(hm g (.inl rfl)).trans h.blk, own_move h.od (fun k hk => hm k (.inr (.inl (by simpa [Value.ownBlock] using hk.symm)))), own_move h.om (fun k hk => hm k (.inr (.inr (by simpa [Value.ownBlock] using hk.symm)))), h.ne, h.ltd, h.ltm⟩
theorem WSt.below {W W1 : World} {base g : Nat} {t : Int} {d m : List Int} {gd cd gm cm : Nat} (h : WSt W base g t d m gd cd gm cm) (hb : Below W.heap.size W W1) : WSt W1 base g t d m gd cd gm cm :=
  have hg := blk_lt h.blk
  h.move (fun k hk => hb.block k (by have := h.ltd; have := h.ltm; omega))
theorem WSt.len {W : World} {base g : Nat} {t : Int} {d m : List Int} {gd cd gm cm : Nat} (h : WSt W base g t d m gd cd gm cm) : d.length ≤ 9223372036854775807 ∧ m.length ≤ 9223372036854775807 := by
  have h1 := (Kd.R_reads' (Kd.R_of_own (h1 := fun _ => rfl) h.od (ok := fun _ => True) (fun _ _ => trivial))).2.2.2.1
  have h2 := (Kd.R_reads' (Kd.R_of_own (h1 := fun _ => rfl) h.om (ok := fun _ => True) (fun _ _ => trivial))).2.2.2.1
  exact ⟨h1, h2⟩
theorem C_cut {W : World} {base g gd cd : Nat} {d : List Int} (h : W.ownsRow base 5 1 (.slice (some ⟨gd, 0, none⟩) d.length cd) d.length (encs (Value.int .u8) d)) (hlt : gd < g) : Kd.C (Kd.int .u8) (cutW W g) (some ⟨gd, 0, none⟩) d.length d := by
  have hC := (Kd.R_reads' (Kd.R_of_own (h1 := fun _ => rfl) h (ok := fun _ => True) (fun _ _ => trivial))).2.2
  obtain ⟨h1, h2, h3⟩ := Kd.reads_of_C (d := (0 : Int)) hC
  refine Kd.C_of_reads (d := (0 : Int)) (h1 := fun _ => rfl) ⟨h1, h2, fun hn => ?_⟩
  obtain ⟨ad, hA, hc⟩ := h3 hn
  obtain rfl : (⟨gd, 0, none⟩ : Addr) = ad := Option.some.inj hA
  refine ⟨_, rfl, fun j hj => ?_⟩
  have := hc j hj
  rw [add_plain] at this ⊢
  rw [← this]
  simp only [World.cell?, cutW_blk W hlt]
/-- As the printed functions of a word want it. -/
theorem WSt.is {W : World} {base g : Nat} {t : Int} {d m : List Int} {gd cd gm cm : Nat} (h : WSt W base g t d m gd cd gm cm) : IsT67 (some ⟨gd, 0, none⟩) cd (some ⟨gm, 0, none⟩) cm (cutW W g) W g t d m :=
  ⟨h.blk, Nat.le_of_eq (cutW_size (Nat.le_of_lt (blk_lt h.blk))), C_cut h.od h.ltd, C_cut h.om h.ltm⟩
theorem WSt.back {W W1 : World} {base g : Nat} {t t1 : Int} {d m : List Int} {gd cd gm cm : Nat} {w0 : World} (h : WSt W base g t d m gd cd gm cm) (hi : IsT67 (some ⟨gd, 0, none⟩) cd (some ⟨gm, 0, none⟩) cm w0 W1 g t1 d m) (hk : KeepBut W W1 g none) : WSt W1 base g t1 d m gd cd gm cm :=
  have hg := blk_lt h.blk
  have hl := h.ltd
  have hl2 := h.ltm
  ⟨hi.1, own_move h.od (fun k hk' => by
      have : gd = k := by simpa [Value.ownBlock] using hk'
      exact hk.2 k (by omega) (by omega) (by simp)), own_move h.om (fun k hk' => by
      have : gm = k := by simpa [Value.ownBlock] using hk'
      exact hk.2 k (by omega) (by omega) (by simp)), h.ne, h.ltd, h.ltm⟩
theorem WSt.atm {W : World} {base g : Nat} {t : Int} {d m : List Int} {gd cd gm cm : Nat} (h : WSt W base g t d m gd cd gm cm) (i : Int) (h0 : 0 ≤ i) (h1 : i < m.length) : W.cell? ⟨gm, i.toNat, none⟩ = some (.int .u8 (rd m i)) ∧ W.frozen? ⟨gm, i.toNat, none⟩ = false :=
  own_at_of (enc := Value.int .u8) (d := (0 : Int)) h.om i h0 (by simpa using h1)
theorem WSt.atd {W : World} {base g : Nat} {t : Int} {d m : List Int} {gd cd gm cm : Nat} (h : WSt W base g t d m gd cd gm cm) (i : Int) (h0 : 0 ≤ i) (h1 : i < d.length) : W.cell? ⟨gd, i.toNat, none⟩ = some (.int .u8 (rd d i)) ∧ W.frozen? ⟨gd, i.toNat, none⟩ = false :=
  own_at_of (enc := Value.int .u8) (d := (0 : Int)) h.od i h0 (by simpa using h1)
theorem WSt.setm {W : World} {base g : Nat} {t : Int} {d m : List Int} {gd cd gm cm : Nat} (h : WSt W base g t d m gd cd gm cm) (i : Int) (x : Int) : WSt (W.setCell ⟨gm, i.toNat, none⟩ (.int .u8 x)) base g t d (m.set i.toNat x) gd cd gm cm := by
  have h1 := (own_store_of (enc := Value.int .u8) h.om i x).1
  have hn := h.ne
  have hl := h.ltm
  refine ⟨?_, own_move h.od (fun k hk => ?_), by rw [List.length_set]; exact h1, h.ne, h.ltd, h.ltm⟩
  · rw [List.length_set]
    exact (Below.heap_setCell W ⟨gm, i.toNat, none⟩ _ g (by show g ≠ gm; omega)).trans h.blk
  · have : gd = k := by simpa [Value.ownBlock] using hk
    exact Below.heap_setCell W ⟨gm, i.toNat, none⟩ _ k (by show k ≠ gm; omega)
theorem WSt.setd {W : World} {base g : Nat} {t : Int} {d m : List Int} {gd cd gm cm : Nat} (h : WSt W base g t d m gd cd gm cm) (i : Int) (x : Int) : WSt (W.setCell ⟨gd, i.toNat, none⟩ (.int .u8 x)) base g t (d.set i.toNat x) m gd cd gm cm := by
  have h1 := (own_store_of (enc := Value.int .u8) h.od i x).1
  have hn := h.ne
  have hl := h.ltd
  refine ⟨?_, by rw [List.length_set]; exact h1, own_move h.om (fun k hk => ?_), h.ne, h.ltd, h.ltm⟩
  · rw [List.length_set]
    exact (Below.heap_setCell W ⟨gd, i.toNat, none⟩ _ g (by show g ≠ gd; omega)).trans h.blk
  · have : gm = k := by simpa [Value.ownBlock] using hk
    exact Below.heap_setCell W ⟨gd, i.toNat, none⟩ _ k (by show k ≠ gd; omega)
theorem shl1_u8 (y : Int) : shl .u8 1 y = 2 ^ min y.toNat 8 % 256 := by
  unfold shl
  rw [Int.one_mul]
  rfl
/-- What stands above the last of the more bits is cleared. -/
def nwL : Nat → Int → List Int → Int → Option (List Int)
  | 0, _, _, _ => none
  | k + 1, n, m, i => if i < wrap64 (8 * n) then (if 0 ≤ wrap64 (Int.tdiv i 8) then (if wrap64 (Int.tdiv i 8) < (m.length : Int) then (if 0 ≤ Int.tmod i 8 then nwL k n (m.set (wrap64 (Int.tdiv i 8)).toNat (Go.bits .andNot .u8 (rd m (wrap64 (Int.tdiv i 8))) (shl .u8 1 (Int.tmod i 8)))) (wrap64 (i + 1)) else none) else none) else none) else some m
theorem nwL_mono : ∀ k n m i, LeO (nwL k n m i) (nwL (k + 1) n m i)
  | 0, _, _, _ => LeO.none _
  | k + 1, n, m, i => by
    unfold nwL
    exact LeO.ite (LeO.ite (LeO.ite (LeO.ite (nwL_mono k _ _ _) (LeO.refl _)) (LeO.refl _)) (LeO.refl _)) (LeO.refl _)
/-- What newWord comes to: none, if it is refused; else the more bytes. -/
def newW (k : Nat) (t : Int) (d m : List Int) : Option (Option (List Int)) := (bch_size.f t d).bind fun p => if p.2 = 0 then (if (m.length : Int) = p.1 then ((clone d).bind fun d' => (clone m).bind fun m' => (nwL k p.1 m' (wrap64 (13 * t))).bind fun r => some (some r)) else some none) else some none
theorem newW_mono (k : Nat) (t : Int) (d m : List Int) : LeO (newW k t d m) (newW (k + 1) t d m) := by
  unfold newW
  exact LeO.bind (LeO.refl _) (fun p => LeO.ite (LeO.ite (LeO.bind (LeO.refl _) (fun d' => LeO.bind (LeO.refl _) (fun m' => LeO.bind (nwL_mono _ _ _ _) (fun r => LeO.refl _)))) (LeO.refl _)) (LeO.refl _))
theorem clone_is {l r : List Int} (h : clone l = some r) : r = l ∧ 0 < l.length ∧ l.length ≤ 1000000 := by
  unfold clone at h
  by_cases h0 : 0 < l.length
  · rw [if_pos h0] at h
    by_cases h1 : l.length ≤ 1000000
    · rw [if_pos h1] at h; exact ⟨(Option.some.inj h).symm, h0, h1⟩
    · rw [if_neg h1] at h; exact absurd h (by simp)
  · rw [if_neg h0] at h; exact absurd h (by simp)
theorem clone_calls (A0 : Option Addr) (c0 : Nat) (l : List Int) (w : World) (hr0 : Kd.C (Kd.int .u8) w A0 l.length l) (hc0 : l.length ≤ c0) (h : clone l = some l) :
    Calls Try.prog 56 #[.slice A0 l.length c0] w fun e w' => ∃ g c : Nat, e = .returned (.slice (some ⟨g, 0, none⟩) l.length c) ∧ w.heap.size ≤ g ∧ w'.ownsRow w.heap.size 5 1 (.slice (some ⟨g, 0, none⟩) l.length c) l.length (encs (Value.int .u8) l) ∧ Below w.heap.size w w' := by
  refine (slices_Clone_byte_byte.calls A0 c0 l l w hr0 hc0 h).mono ?_
  rintro e w' ⟨v, rfl, hR, hB⟩
  have ho := Kd.own_of_R hR
  rcases ho.2 with ⟨_, h0⟩ | ⟨g, cap, _, rfl, hg, _⟩
  · have := (clone_is h).2.1
    omega
  · exact ⟨g, cap, rfl, hg, ho, hB⟩
set_option maxHeartbeats 2000000 in
set_option maxRecDepth 100000 in
theorem nw_no (t : Int) (A1 : Option Addr) (c1 : Nat) (d : List Int) (A2 : Option Addr) (c2 : Nat) (m : List Int) (n e : Int) (w : World) (hr1 : Kd.C (Kd.int .u8) w A1 d.length d) (hc1 : d.length ≤ c1) (hs : bch_size.f t d = some (n, e)) (hne : e ≠ 0 ∨ (m.length : Int) ≠ n) :
    Calls Try.prog 35 #[.int .i64 t, .slice A1 d.length c1, .slice A2 m.length c2] w fun e' w' => e' = .returned (.tuple #[.pointer none, .int .i64 1]) ∧ Below w.heap.size w w' := by
  have HS := Aside0.mk hs
  have HR1 := Aside0.mk hr1
  clear hs hr1
  by_cases he : e = 0
  · have he1 : (e == 0) = true := beq_iff_eq.2 he
    have he2 : (e != 0) = false := bne_eq_false_iff_eq.2 he
    have hn : (m.length : Int) ≠ n := hne.resolve_left (fun h => h he)
    have hn1 : ((m.length : Int) == n) = false := beq_eq_false_iff_ne.2 hn
    have hn2 : ((m.length : Int) != n) = true := bne_iff_ne.2 hn
    clear hne he hn
    go_enter Try.func35, Try.ntmps35
    go_wp2_with (first | (go_at_call 27; (with_reducible refine (bch_size.calls t A1 c1 d n e _ HR1.out hc1 HS.out).mono ?_); rintro e' w' ⟨rfl, ⟨nd, rfl⟩⟩))
    go_ret2
    exact ⟨rfl, pw_below_drewN (Below.refl _ _) nd⟩
  · have he1 : (e == 0) = false := beq_eq_false_iff_ne.2 he
    have he2 : (e != 0) = true := bne_iff_ne.2 he
    clear hne he
    go_enter Try.func35, Try.ntmps35
    go_wp2_with (first | (go_at_call 27; (with_reducible refine (bch_size.calls t A1 c1 d n e _ HR1.out hc1 HS.out).mono ?_); rintro e' w' ⟨rfl, ⟨nd, rfl⟩⟩))
    go_ret2
    exact ⟨rfl, pw_below_drewN (Below.refl _ _) nd⟩
set_option maxHeartbeats 2000000 in
set_option maxRecDepth 100000 in
theorem nw_yes (k : Nat) (t : Int) (A1 : Option Addr) (c1 : Nat) (d : List Int) (A2 : Option Addr) (c2 : Nat) (m : List Int) (n : Int) (r : List Int) (w : World) (hr1 : Kd.C (Kd.int .u8) w A1 d.length d) (hc1 : d.length ≤ c1) (hr2 : Kd.C (Kd.int .u8) w A2 m.length m) (hc2 : m.length ≤ c2) (hs : bch_size.f t d = some (n, 0)) (hn : (m.length : Int) = n) (hd : clone d = some d) (hm : clone m = some m) (hL : nwL k n m (wrap64 (13 * t)) = some r) :
    Calls Try.prog 35 #[.int .i64 t, .slice A1 d.length c1, .slice A2 m.length c2] w fun e' w' => ∃ g gd cd gm cm : Nat, e' = .returned (.tuple #[.pointer (some ⟨g, 0, none⟩), .int .i64 0]) ∧ WSt w' w.heap.size g t d r gd cd gm cm ∧ w.heap.size ≤ g ∧ Below w.heap.size w w' := by
  have HS := Aside0.mk hs
  have HR1 := Aside0.mk hr1
  have HR2 := Aside0.mk hr2
  have HD := Aside0.mk hd
  have HM := Aside0.mk hm
  have HL := Aside0.mk hL
  have hn1 : ((m.length : Int) == n) = true := beq_iff_eq.2 hn
  have hn2 : ((m.length : Int) != n) = false := bne_eq_false_iff_eq.2 hn
  clear hs hr1 hr2 hd hm hL hn
  have tok1 : True := trivial
  go_enter Try.func35, Try.ntmps35
  go_wp2_with (first | (go_at_call 27; (with_reducible refine (bch_size.calls t A1 c1 d n 0 _ HR1.out hc1 HS.out).mono ?_); rintro e' w' ⟨rfl, ⟨nd, rfl⟩⟩) | (go_at_call 56; have tok := tok1; clear tok1; (refine (clone_calls A1 c1 d _ (Kd.C_drewN HR1.out nd) hc1 HD.out).mono ?_); rintro e' w1 ⟨gd, cd, rfl, hg1, ho1, hb1⟩; have HG1 := Aside0.mk hg1; have HO1 := Aside0.mk ho1; have HB1 := Aside0.mk (below_step (pw_below_drewN (Below.refl _ w) nd) hb1); clear hg1 ho1 hb1; have tok2 : True := trivial) | (go_at_call 56; have tok := tok2; clear tok2; (refine (clone_calls A2 c2 m _ (Kd.C_below HR2.out HB1.out) hc2 HM.out).mono ?_); rintro e' w2 ⟨gm, cm, rfl, hg2, ho2, hb2⟩; have HG2 := Aside0.mk hg2; have HO2 := Aside0.mk ho2; have HB2 := Aside0.mk (below_step HB1.out hb2); have HB12 := Aside0.mk hb2; clear hg2 ho2 hb2))
  have hsz : w2.heap.size < (w2.alloc (.cells #[.int .i64 t, .slice (some ⟨gd, 0, none⟩) d.length cd, .slice (some ⟨gm, 0, none⟩) m.length cm] 67)).heap.size := by simp
  have h1 := HO1.out
  have h2 := HO2.out
  have l1 := own_lt h1 gd (by simp [Value.ownBlock])
  have l2 := own_lt h2 gm (by simp [Value.ownBlock])
  have l3 := own_base h2 gm (by simp [Value.ownBlock])
  have HW0 : WSt (w2.alloc (.cells #[.int .i64 t, .slice (some ⟨gd, 0, none⟩) d.length cd, .slice (some ⟨gm, 0, none⟩) m.length cm] 67)) w.heap.size w2.heap.size t d m gd cd gm cm :=
    ⟨heap_alloc_new w2 _, own_weaken (own_move (own_move h1 (fun k hk => HB12.out.block k (own_lt h1 k hk))) (fun k hk => Below.heap_alloc _ _ _ (by have := own_lt h1 k hk; have := HB12.out.size; omega))) (Nat.le_refl _), own_weaken (h2.alloc _) (by have := HB1.out.size; exact this), by omega, by have := HB12.out.size; omega, l2⟩
  have HW := Aside0.mk HW0
  have HBW := Aside0.mk (show Below w.heap.size w (w2.alloc (.cells #[.int .i64 t, .slice (some ⟨gd, 0, none⟩) d.length cd, .slice (some ⟨gm, 0, none⟩) m.length cm] 67)) from below_alloc HB2.out _)
  have HGE := Aside0.mk (show w.heap.size ≤ w2.heap.size from HB2.out.size)
  clear hsz h1 h2 l1 l2 l3 HW0
  generalize w2.alloc (.cells #[.int .i64 t, .slice (some ⟨gd, 0, none⟩) d.length cd, .slice (some ⟨gm, 0, none⟩) m.length cm] 67) = W3 at HW HBW ⊢
  go_loopg [11] k (fun kq v11 wr => ∃ (i : Int) (x : List Int), v11 = .int .i64 i ∧ Aside0 (nwL kq n x i = some r) ∧ Aside0 (kq ≤ k) ∧ Aside0 (WSt wr w.heap.size w2.heap.size t d x gd cd gm cm) ∧ Aside0 (Below w.heap.size w wr))
  case atStart => exact ⟨_, m, rfl, HL, ⟨Nat.le_refl _⟩, HW, HBW⟩
  case round =>
    clear HL HW HBW
    obtain ⟨i, x, rfl, HL, HK, HW, HB⟩ := hrel
    cases gk with
    | zero => exact absurd HL.out (by simp [nwL])
    | succ k1 =>
      have H := HL.out
      rw [nwL] at H
      by_cases c0 : i < wrap64 (8 * n)
      · rw [if_pos c0] at H
        have c0b : decide (i < wrap64 (8 * n)) = true := decide_eq_true c0
        obtain ⟨ji, hji⟩ : ∃ ji, wrap64 (Int.tdiv i 8) = ji := ⟨_, rfl⟩
        have hjiw : IntKind.i64.wrap (Int.tdiv i 8) = ji := (i64_w _).trans hji
        rw [hji] at H
        by_cases c1' : 0 ≤ ji
        · rw [if_pos c1'] at H
          by_cases c2' : ji < (x.length : Int)
          · rw [if_pos c2'] at H
            by_cases c3' : 0 ≤ Int.tmod i 8
            · rw [if_pos c3'] at H
              have HN := Aside0.mk H
              have hcell : wr.cell? ⟨w2.heap.size, 2, none⟩ = some (.slice (some ⟨gm, 0, none⟩) x.length cm) := (blk_cell HW.out.blk 2).trans rfl
              obtain ⟨hx, hf⟩ := HW.out.atm ji c1' c2'
              have hC3 := Aside0.mk c3'
              obtain ⟨v, hv⟩ : ∃ v, rd x ji = v := ⟨_, rfl⟩
              rw [hv] at hx
              have HV := Aside0.mk hv
              clear H c0 HL hv
              go_wp2_with fail
              go_region
              go_wp2
              go_roundg k1
              case measure => have := HK.out; omega
              case rel =>
                have e1 : shl .u8 1 (Int.tmod i 8) = 2 ^ min (Int.tmod i 8).toNat 8 % 256 := shl1_u8 _
                rw [← HV.out, ← e1]
                refine ⟨_, _, rfl, HN, ⟨by have := HK.out; omega⟩, ⟨?_⟩, ⟨?_⟩⟩
                · exact (HW.out.setm ji _).move (fun _ _ => rfl)
                · exact below_drew1 (HB.out.setCell (p := ⟨gm, ji.toNat, none⟩) HW.out.gem _)
            · rw [if_neg c3'] at H; exact absurd H (by simp)
          · rw [if_neg c2'] at H; exact absurd H (by simp)
        · rw [if_neg c1'] at H; exact absurd H (by simp)
      · rw [if_neg c0] at H
        have c0b : decide (i < wrap64 (8 * n)) = false := decide_eq_false c0
        obtain rfl := Option.some.inj H
        clear H c0 HL
        go_wp2
        go_ret2
        exact ⟨_, _, _, _, _, rfl, HW.out, HGE.out, HB.out⟩
def gf_Inv.f (k : Nat) (a0 : Int) : Option (Int × Int) := (gf_is.f a0).bind fun t203 => (if t203 = true then (if a0 = 0 then (some (0, 20)) else ((gf_pow.f k a0 8190).bind fun t204 => (some (t204, 0)))) else (some (0, 1)))
theorem gf_Inv.mono : ∀ a0 k, LeO (gf_Inv.f k a0) (gf_Inv.f (k + 1) a0) := by
  intro a0 k
  unfold gf_Inv.f
  repeat' first
      | (with_reducible exact gf_pow.mono _ _ _)
      | (with_reducible exact LeO.refl _)
      | (with_reducible exact LeO.none _)
      | (with_reducible refine LeO.ite ?_ ?_)
      | (with_reducible refine LeO.bind ?_ (fun _ => ?_))
      | exact gf_pow.mono _ _ _
      | exact LeO.none _
      | refine LeO.ite ?_ ?_
      | refine LeO.bind ?_ (fun _ => ?_)
set_option maxHeartbeats 8000000 in
set_option maxRecDepth 100000 in
theorem gf_Inv.calls (k : Nat) (a0 : Int) (r1 : Int) (r2 : Int) (w : World) (h : gf_Inv.f k a0 = some (r1, r2)) :
    Calls Try.prog 57 #[.int .i64 a0] w fun e w' => e = .returned (.tuple #[.int .i64 r1, .int .i64 r2]) ∧ Drawn0 w w' := by
  have H : ((gf_is.f a0).bind fun t203 => (if t203 = true then (if a0 = 0 then (some (0, 20)) else ((gf_pow.f k a0 8190).bind fun t204 => (some (t204, 0)))) else (some (0, 1)))) = some (r1, r2) := h
  clear h
  replace H := Option.bind_eq_some_iff.mp H
  obtain ⟨t203, A20, H⟩ := H
  replace H : (if t203 = true then (if a0 = 0 then (some (0, 20)) else ((gf_pow.f k a0 8190).bind fun t204 => (some (t204, 0)))) else (some (0, 1))) = some (r1, r2) := H
  have A2 := Aside0.mk A20
  clear A20
  by_cases c3 : t203 = true
  · subst c3
    have H1 : (if a0 = 0 then (some (0, 20)) else ((gf_pow.f k a0 8190).bind fun t204 => (some (t204, 0)))) = some (r1, r2) := by rw [if_pos rfl] at H; exact H
    clear H
    have H := H1
    clear H1
    by_cases c4 : a0 = 0
    · rw [if_pos c4] at H
      have c4b0 : (a0 == 0) = true := beq_iff_eq.mpr c4
      have c4b1 : (a0 != 0) = false := bne_eq_false_iff_eq.mpr c4
      clear c4
      simp only [Option.some.injEq, Prod.mk.injEq] at H
      obtain ⟨rfl, rfl⟩ := H
      go_enter Try.func57, Try.ntmps57
      go_wp2_with (first | ((with_reducible refine gate_callee (f := 67) rfl ?_); refine goesL_ (some 6) rfl rfl Try.func67 (by kernel_rfl) rfl #[.int .i64 a0] rfl (by (try simp only [List.map_toArray, List.map_cons, List.map_nil]); first | done | rfl | (simp only [List.length_drop, List.length_take]; rfl)) ?_; (with_reducible refine (gf_is.calls a0 true _ A2.out).mono ?_); rintro e w' ⟨rfl, ⟨nd, rfl⟩⟩; refine ⟨_, rfl, ?_⟩))
      go_ret2
      exact ⟨by first | rfl | (simp; done) | (simp [*]; done), by repeat (first | exact Drawn0.refl _ | apply Drawn0.step)⟩
    · rw [if_neg c4] at H
      have c4b0 : (a0 == 0) = false := beq_eq_false_iff_ne.mpr c4
      have c4b1 : (a0 != 0) = true := bne_iff_ne.mpr c4
      replace H := Option.bind_eq_some_iff.mp H
      obtain ⟨t204, A50, H⟩ := H
      replace H : (some (t204, 0)) = some (r1, r2) := H
      have A5 := Aside0.mk A50
      clear A50
      simp only [Option.some.injEq, Prod.mk.injEq] at H
      obtain ⟨rfl, rfl⟩ := H
      go_enter Try.func57, Try.ntmps57
      go_wp2_with (first | ((with_reducible refine gate_callee (f := 67) rfl ?_); refine goesL_ (some 6) rfl rfl Try.func67 (by kernel_rfl) rfl #[.int .i64 a0] rfl (by (try simp only [List.map_toArray, List.map_cons, List.map_nil]); first | done | rfl | (simp only [List.length_drop, List.length_take]; rfl)) ?_; (with_reducible refine (gf_is.calls a0 true _ A2.out).mono ?_); rintro e w' ⟨rfl, ⟨nd, rfl⟩⟩; refine ⟨_, rfl, ?_⟩) | ((with_reducible refine gate_callee (f := 60) rfl ?_); refine goesL_ (some 12) rfl rfl Try.func60 (by kernel_rfl) rfl #[.int .i64 a0, .int .i64 8190] rfl (by (try simp only [List.map_toArray, List.map_cons, List.map_nil]); first | done | rfl | (simp only [List.length_drop, List.length_take]; rfl)) ?_; (with_reducible refine (gf_pow.calls k a0 8190 t204 _ A5.out).mono ?_); rintro e w' ⟨rfl, ⟨nd, rfl⟩⟩; refine ⟨_, rfl, ?_⟩))
      go_ret2
      exact ⟨by first | rfl | (simp; done) | (simp [*]; done), by repeat (first | exact Drawn0.refl _ | apply Drawn0.step)⟩
  · replace c3 := Bool.eq_false_iff.mpr c3
    subst c3
    have H1 : (some (0, 1)) = some (r1, r2) := by rw [if_neg (show ¬ (false = true) by decide)] at H; exact H
    clear H
    have H := H1
    clear H1
    simp only [Option.some.injEq, Prod.mk.injEq] at H
    obtain ⟨rfl, rfl⟩ := H
    go_enter Try.func57, Try.ntmps57
    go_wp2_with (first | ((with_reducible refine gate_callee (f := 67) rfl ?_); refine goesL_ (some 6) rfl rfl Try.func67 (by kernel_rfl) rfl #[.int .i64 a0] rfl (by (try simp only [List.map_toArray, List.map_cons, List.map_nil]); first | done | rfl | (simp only [List.length_drop, List.length_take]; rfl)) ?_; (with_reducible refine (gf_is.calls a0 false _ A2.out).mono ?_); rintro e w' ⟨rfl, ⟨nd, rfl⟩⟩; refine ⟨_, rfl, ?_⟩))
    go_ret2
    exact ⟨by first | rfl | (simp; done) | (simp [*]; done), by repeat (first | exact Drawn0.refl _ | apply Drawn0.step)⟩
/-- An append of one number onto a row that is cut at its length: a new row. -/
theorem cut_append {ops : Array Oper} {rest : List Oper} {o : Oper} {a : Act} {Q : Exit → Act → World → Prop} {W : World} (s x : Operand) (hgd : o.guard = none)
    (ho : o.op = .call { callee := .builtin .append, args := #[s, x], argTypes := #[38, 38] })
    (ad : Addr) (xs : List Int) (hs : a.eval s = .slice (some ad) xs.length xs.length) (hxs : ∀ j u, (encs (Value.int .i64) xs)[j]? = some u → W.cell? (ad.add j) = some u)
    (b : Nat) (z : Int) (hx : a.eval x = .slice (some ⟨b, 0, none⟩) 1 1) (hz : W.cell? ⟨b, 0, none⟩ = some (.int .i64 z)) (hl : xs.length < 17592186044416)
    (h : ∀ v' w', Kd.R (Kd.int .i64) 3 w' W.heap.size (fun _ => True) v' (xs ++ [z]) → Below W.heap.size W w' → wpList Try.prog ops Q rest (a.put o.dst v') w') : wpList Try.prog ops Q (o :: rest) a W := by
  refine wpList_plain hgd fun K hK => ?_
  obtain ⟨i, hi, hz0, hz1, hz2⟩ := info_parts clinfo_i
  have hr := run_append_grow (P := Try.prog) W 38 o.type 3 i (.int .i64 0) Try.underlying38 hi hz0 ad xs.length xs.length (encs (Value.int .i64) xs) (by rw [hz1]; simp [encs]) hxs ⟨b, 0, none⟩ 1 1 [.int .i64 z] (by rw [hz1]; rfl) (fun j u hu => by
    cases j with
    | zero => obtain rfl : Value.int .i64 z = u := by simpa using hu
              exact hz
    | succ j => simp at hu) (by omega) (by omega) (growslice_fits (by omega) (by rw [hz2]; omega))
  have hge := grownCap_ge W (xs.length + 1) xs.length 3
  have hcm2 : grownCap W (xs.length + 1) xs.length 3 ≤ maxLen := grownCap_le_maxLen W (xs.length + 1) xs.length 3 (by unfold maxLen; omega)
  unfold Oper.wp execOp
  simp only [ho, resolve, invoke, builtin, Sem.run_bind, Sem.run_pure, Result.andThen_ok, List.map_toArray, List.map_cons, List.map_nil, hs, hx, hr]
  refine hK _ _ (h _ _ (Kd.R_of_own (h1 := fun _ => rfl) ⟨by simp [encs], .inr ⟨W.heap.size, _, _, by rw [List.length_append]; rfl, Nat.le_refl _, heap_alloc_new W.drew _, by rw [List.length_append]; exact hge, hcm2, ?_, ?_⟩⟩ (fun _ _ => trivial)) (below_alloc (below_drew1 (Below.refl _ _)) _))
  · have e1 : (Value.int IntKind.i64 0).cells.size = 1 := rfl
    simp only [Array.size_append, List.size_toArray, size_zeroCells, e1]
    simp [encs]
    omega
  · simp only [Array.toList_append, List.append_assoc]
    rw [← List.append_assoc, show (xs ++ [z]).length * 1 = (encs (Value.int .i64) xs ++ [Value.int .i64 z]).length from by simp [encs]]
    rw [List.take_left]
    simp [encs]
def slices_Clone_int_int.f (l0 : List Int) : Option (List Int) := clone l0
set_option maxHeartbeats 1000000 in
theorem slices_Clone_int_int.calls (A0 : Option Addr) (c0 : Nat) (l0 : List Int) (r : List Int) (w : World) (hr0 : Kd.C (Kd.int .i64) w A0 l0.length l0) (hc0 : l0.length ≤ c0) (h : slices_Clone_int_int.f l0 = some r) :
    Calls Try.prog 58 #[.slice A0 l0.length c0] w fun e w' => ∃ v0_ : Value, e = .returned (v0_) ∧ Kd.R (Kd.int .i64) 3 w' w.heap.size (fun _ => True) v0_ r ∧ Below w.heap.size w w' := by
  unfold slices_Clone_int_int.f clone at h
  by_cases h0 : 0 < l0.length
  · rw [if_pos h0] at h
    by_cases h1 : l0.length ≤ 1000000
    · rw [if_pos h1] at h
      obtain rfl := Option.some.inj h
      obtain ⟨i0, hi, hz0, hz1, hz2⟩ := info_parts clinfo_i
      have HI := Aside0.mk hi
      have HZ0 := Aside0.mk hz0
      have HZ1 := Aside0.mk hz1
      have HZ2 := Aside0.mk hz2
      obtain ⟨ad, rfl, hc⟩ := cl_cells hr0 rfl h0
      have HC := Aside0.mk hc
      have H0 := Aside0.mk h0
      have H1 := Aside0.mk h1
      clear hi hz0 hz1 hz2 hr0 hc h0 h1
      have kq := fun W => Lib.run_eql_slice_nil (P := Try.prog) W 38 3 (some ad) l0.length c0 0 0 Try.underlying38
      go_enter Try.func58, Try.ntmps58
      go_wp2_with (first | ((with_reducible refine gate_builtin (b := .append) (xs := #[.tmp 5, .tmp 6]) rfl ?_); at_builtin; (refine wpList_append_own _ rfl (.tmp 5) (.tmp 6) 38 rfl w.heap.size 3 i0 (.int .i64 0) 1 8 Try.underlying38 HI.out HZ0.out HZ1.out HZ2.out rfl (by decide) (.slice (some ⟨w.heap.size, 0, none⟩) 0 0) 0 [] rfl (cl_empty w 3) ad l0.length c0 (encs (Value.int .i64) l0) rfl (by simp [encs]) (fun j u hu => cl_al _ (HC.out j u hu)) (cl_one _) (by have := H1.out; unfold maxLen; omega) (by have := H1.out; omega) (by simp) ?_); (intro v' w1 ho' hb' hv'; have HO := Aside0.mk ho'; have HB := Aside0.mk (cl_below w 3 hb'); clear ho' hb' hv')))
      go_ret
      rw [Nat.zero_add, List.nil_append] at HO
      exact ⟨_, rfl, Kd.R_of_own (h1 := fun _ => rfl) HO.out (fun _ _ => trivial), HB.out⟩
    · rw [if_neg h1] at h; exact absurd h (by simp)
  · rw [if_neg h0] at h; exact absurd h (by simp)
end Go.Proofs.Ytbaiildpabdlpaa.P

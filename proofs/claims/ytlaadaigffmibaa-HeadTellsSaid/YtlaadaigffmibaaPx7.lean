/- What Go functions of the translation come to, as plain functions, and that their calls come to just that. No condition but that the plain function answers. (Written by a program of this session.) -/
import Derived.Test.YtlaadaigffmibaaPx0
import Derived.Test.YtlaadaigffmibaaPx2
import Derived.Test.YtlaadaigffmibaaPx4
namespace Go.Proofs.Ytlaadaigffmibaa.P
open Go.RowKit Go.Proofs.YtlaadaigffmibaaW.PrintWords Go.Proofs.YtlaadaigffmibaaW.PrintLast Go.Proofs.YtlaadaigffmibaaW.PrintMore
attribute [local go_sem] max2_int min2_int max_two min_two max_three min_three max_four min_four   -- for this text's walks alone
set_option linter.unusedVariables false
set_option linter.unusedSimpArgs false

/-! ### casemateref09_Four: function 24 -/
def casemateref09_Four.l0 : Nat → Int → List Int → Int → Option (List Int)
  | 0, _, _, _ => none
  | k + 1, x0, x3, x4 => if x4 < 4 then (if x3.length < 140737488355328 then (casemateref09_Four.l0 k (wrap64 (Int.tdiv x0 256)) (x3 ++ [(Int.tmod x0 256) % 256]) (wrap64 (x4 + 1))) else (none)) else (some x3)
def casemateref09_Four.f (k : Nat) (a0 : Int) : Option (List Int) := casemateref09_Four.l0 k a0 ([] : List Int) 0
theorem casemateref09_Four.mono_l : ∀ k, (∀ y0 y1 y2, LeO (casemateref09_Four.l0 k y0 y1 y2) (casemateref09_Four.l0 (k + 1) y0 y1 y2))
  | 0 => fun _ _ _ r h => by simp [casemateref09_Four.l0] at h
  | k + 1 => by
    have ih0 := casemateref09_Four.mono_l k
    · intro y0 y1 y2
      unfold casemateref09_Four.l0
      repeat' first
      | (with_reducible exact ih0 _ _ _)
      | (with_reducible exact LeO.refl _)
      | (with_reducible exact LeO.none _)
      | (with_reducible refine LeO.ite ?_ ?_)
      | (with_reducible refine LeO.bind ?_ (fun _ => ?_))
      | exact ih0 _ _ _
      | exact LeO.none _
      | refine LeO.ite ?_ ?_
      | refine LeO.bind ?_ (fun _ => ?_)
theorem casemateref09_Four.mono : ∀ a0 k, LeO (casemateref09_Four.f k a0) (casemateref09_Four.f (k + 1) a0) := by
  intro a0 k
  have ih0 := casemateref09_Four.mono_l k
  unfold casemateref09_Four.f
  repeat' first
      | (with_reducible exact ih0 _ _ _)
      | (with_reducible exact LeO.refl _)
      | (with_reducible exact LeO.none _)
      | (with_reducible refine LeO.ite ?_ ?_)
      | (with_reducible refine LeO.bind ?_ (fun _ => ?_))
      | exact ih0 _ _ _
      | exact LeO.none _
      | refine LeO.ite ?_ ?_
      | refine LeO.bind ?_ (fun _ => ?_)
set_option maxHeartbeats 8000000 in
set_option maxRecDepth 100000 in
theorem casemateref09_Four.calls (k : Nat) (a0 : Int) (r : List Int) (w : World) (h : casemateref09_Four.f k a0 = some r) :
    Calls Try.prog 24 #[.int .i64 a0] w fun e w' => ∃ v0_ : Value, e = .returned (v0_) ∧ Kd.R (Kd.int .u8) 5 w' w.heap.size (fun _ => True) v0_ r ∧ Below w.heap.size w w' := by
  have HB := Aside0.mk (Below.refl w.heap.size w)
  have H : (casemateref09_Four.l0 k a0 ([] : List Int) 0) = some r := h
  clear h
  have H' := Aside0.mk H
  clear H
  go_enter Try.func24, Try.ntmps24
  go_wp2
  go_loopg [0, 3, 4] k (fun kq v0 v3 v4 w' => ∃ (x0_1 : Int) (x3_1 : List Int) (x4_1 : Int), v0 = .int .i64 x0_1 ∧ v4 = .int .i64 x4_1 ∧ Aside0 (casemateref09_Four.l0 kq x0_1 x3_1 x4_1 = some r) ∧ Aside0 (kq ≤ k) ∧ Aside0 (Kd.R (Kd.int .u8) 5 w' w.heap.size (fun _ => True) v3 x3_1) ∧ Aside0 (Below w.heap.size w w'))
  case atStart => exact ⟨(a0), (([] : List Int)), (0), (by first | rfl | (simp; done) | (simp [*]; done)), (by first | rfl | (simp; done) | (simp [*]; done)), H', ⟨Nat.le_refl _⟩, ⟨by first | exact Kd.R_nil _ _ _ _ _ | exact Kd.N_nil _ _ _ _ _ | exact Kd.V_nil _ _ _ _ _ | exact Kd.Q_nil _ _ _ _ _ | exact Kd.S_nil _ _ _ _ _⟩, ⟨by repeat (first | (with_reducible first | exact HB.out | apply below_alloc | apply pw_below_drewN | apply below_drew1) | exact HB.out)⟩⟩
  case round =>
    clear H'
    obtain ⟨x0_1, x3_1, x4_1, rfl, rfl, HA, HK1, HO_3, HB⟩ := hrel
    cases gk with
    | zero => exact absurd HA.out (by simp [casemateref09_Four.l0])
    | succ k1 =>
      have H := HA.out
      clear HA
      simp only [casemateref09_Four.l0] at H
      by_cases c2 : x4_1 < 4
      · rw [if_pos c2] at H
        have c2b0 : decide (x4_1 < 4) = true := decide_eq_true c2
        clear c2
        by_cases c3 : x3_1.length < 140737488355328
        · rw [if_pos c3] at H
          have LMc3 := Aside0.mk c3
          clear c3
          obtain ⟨y167, hy167⟩ : ∃ y_ : List Int, y_ = (x3_1 ++ [(Int.tmod x0_1 256) % 256]) := ⟨_, rfl⟩
          replace H : (casemateref09_Four.l0 k1 (wrap64 (Int.tdiv x0_1 256)) y167 (wrap64 (x4_1 + 1))) = some r := by first | (rw [hy167]; with_reducible exact H) | (have H2_ := (Option.bind_some _ _).symm.trans H; rw [hy167]; with_reducible exact H2_) | (have H2_ := (Option.bind_some _ _).symm.trans H; with_reducible exact H2_) | with_reducible exact H | (rw [hy167]; exact H) | exact H
          have Ny167 := Aside0.mk hy167
          clear hy167
          have H' := Aside0.mk H
          clear H
          go_wp2_with (first | ((with_reducible refine gate_builtin (b := .append) (xs := #[.tmp 9, .tmp 13]) rfl ?_); at_builtin; refine Kd.R_append (Kd.int .u8) (w0 := w) w.heap.size rfl (.tmp 9) (.tmp 13) 30 5 (.int .u8 0) 1 rfl Try.underlying30 info5 rfl (by decide) (by omega) u3 x3_1 ((Int.tmod x0_1 256) % 256) [.int .u8 ((Int.tmod x0_1 256) % 256)] (fun _ => True) (fun _ => False) rfl rfl ?aP (fun _ hk => hk.elim) ?aF ?aO ?aB ?aS ?aL ?_; (case aP => exact rfl); (case aB => exact (by repeat (first | (with_reducible first | exact HB.out | apply below_alloc | apply pw_below_drewN | apply below_drew1) | exact HB.out))); (case aF => exact (fun _ _ => trivial)); (case aO => exact (by (with_reducible repeat (first | apply Kd.R_alloc | apply Kd.R_drewN | apply Kd.R_drew)); exact HO_3.out)); (case aS => exact (below_size (by repeat (first | (with_reducible first | exact HB.out | apply below_alloc | apply pw_below_drewN | apply below_drew1) | exact HB.out)))); (case aL => have := LMc3.out; omega); intro v168 w4 ho hb hg hat; rw [← Ny167.out] at ho; have n0_ := Aside0.mk (hb); have n1_ := Aside0.mk (ho); clear HB; clear HO_3; have HB := n0_; have HO169 := n1_; clear n0_ n1_; clear ho hb hg hat))
          go_roundg k1
          case measure => have := HK1.out; omega
          case rel => exact ⟨(wrap64 (Int.tdiv x0_1 256)), (y167), (wrap64 (x4_1 + 1)), (by first | rfl | (simp; done) | (simp [*]; done)), (by first | rfl | (simp; done) | (simp [*]; done)), H', ⟨by have := HK1.out; omega⟩, ⟨by (with_reducible repeat (first | apply Kd.R_alloc | apply Kd.R_drewN | apply Kd.R_drew)); exact HO169.out⟩, ⟨by repeat (first | (with_reducible first | exact HB.out | apply below_alloc | apply pw_below_drewN | apply below_drew1) | exact HB.out)⟩⟩
        · rw [if_neg c3] at H
          exact absurd H (by simp)
      · rw [if_neg c2] at H
        have c2b0 : decide (x4_1 < 4) = false := decide_eq_false c2
        clear c2
        obtain rfl := Option.some.inj H
        go_wp2
        go_ret
        exact ⟨_, by first | rfl | (simp [errW_none, errW_some] <;> rfl) | (simp [*, errW_none, errW_some] <;> rfl), by (with_reducible repeat (first | apply Kd.R_alloc | apply Kd.R_drewN | apply Kd.R_drew)); exact HO_3.out, by repeat (first | (with_reducible first | exact HB.out | apply below_alloc | apply pw_below_drewN | apply below_drew1) | exact HB.out)⟩

/-! ### casemateref09_Bytes: function 16 -/
def padL (x : List Int) (room : Int) : Option (List Int) := if (x.length : Int) < room then (if room < 140737488355328 then some (x ++ List.replicate (room.toNat - x.length) 0) else none) else some x
def casemateref09_Bytes.f (k : Nat) (a0_0 a0_1 a0_2 a0_3 a0_4 a1_0 a1_1 a1_2 : Int) : Option (List Int) := (casemateref09_Four.f k a1_0).bind fun t1 => (casemateref09_Four.f k a1_1).bind fun t2 => (casemateref09_Four.f k a1_2).bind fun t3 => (casemateref06_Room.f a0_0 a0_1 a0_2 a0_3 a0_4).bind fun room => if t1.length = 4 ∧ t2.length = 4 ∧ t3.length = 4 then padL ((([99, 97, 115, 101] ++ t1) ++ t2) ++ t3) room else none
theorem casemateref09_Bytes.mono : ∀ a0 a1 a2 a3 a4 a5 a6 a7 k, LeO (casemateref09_Bytes.f k a0 a1 a2 a3 a4 a5 a6 a7) (casemateref09_Bytes.f (k + 1) a0 a1 a2 a3 a4 a5 a6 a7) := by
  intro a0 a1 a2 a3 a4 a5 a6 a7 k
  unfold casemateref09_Bytes.f
  exact LeO.bind (casemateref09_Four.mono _ _) (fun t1 => LeO.bind (casemateref09_Four.mono _ _) (fun t2 => LeO.bind (casemateref09_Four.mono _ _) (fun t3 => LeO.refl _)))
theorem lay_len2 {w : World} {base : Nat} {v : Value} {x y : List Int} (h : w.ownsRow base 5 1 v (x.length + y.length) (encs (Value.int .u8) x ++ encs (Value.int .u8) y)) : w.ownsRow base 5 1 v (x ++ y).length (encs (Value.int .u8) (x ++ y)) := by
  rw [show encs (Value.int .u8) (x ++ y) = encs (Value.int .u8) x ++ encs (Value.int .u8) y from by simp [encs], List.length_append]; exact h
/-- A row of four. -/
structure Four4 (w0 : World) (t : List Int) (v : Value) (w : World) : Prop where
  own : w.ownsRow w0.heap.size 5 1 v t.length (encs (Value.int .u8) t)
  len : t.length = 4
theorem four_calls (k : Nat) (a : Int) (t : List Int) (w : World) (h : casemateref09_Four.f k a = some t) (hl : t.length = 4) :
    Calls Try.prog 24 #[.int .i64 a] w fun e w' => ∃ g c, e = .returned (.slice (some ⟨g, 0, none⟩) 4 c) ∧ w.heap.size ≤ g ∧ Four4 w t (.slice (some ⟨g, 0, none⟩) 4 c) w' ∧ Below w.heap.size w w' := by
  refine (casemateref09_Four.calls k a t w h).mono ?_
  rintro e w' ⟨v, rfl, hR, hB⟩
  have ho := Kd.own_of_R hR
  rw [hl] at ho
  obtain ⟨g, c, rfl⟩ := lay_form ho (by decide)
  exact ⟨g, c, rfl, own_base ho g (by simp [Value.ownBlock]), ⟨by rw [hl]; exact ho, hl⟩, hB⟩
def slen : Value → Nat
  | .slice _ n _ => n
  | _ => 0
theorem padL_step (y : List Int) {room : Int} (h : (y.length : Int) < room) (h2 : room < 140737488355328) : padL (y ++ [0]) room = padL y room := by
  unfold padL
  rw [if_pos h, List.length_append]
  by_cases h1 : ((y.length + [(0 : Int)].length : Nat) : Int) < room
  · rw [if_pos h1]
    congr 2
    rw [List.append_assoc, show [(0 : Int)] = List.replicate 1 0 from rfl, List.replicate_append_replicate]
    congr 2
    simp at h1 ⊢
    omega
  · rw [if_neg h1]
    have e : room = (y.length : Int) + 1 := by simp at h1; omega
    rw [show room.toNat - y.length = 1 from by omega]
    rw [if_pos h2]; rfl
theorem encs_len (x : List Int) {k : IntKind} : (encs (Value.int k) x).length = x.length := by simp [encs]
theorem enc_one (x : List Int) {k : IntKind} : ∀ u ∈ encs (Value.int k) x, u.oneCell' = true := by
  intro u hu
  simp only [encs, List.mem_map] at hu
  obtain ⟨y, _, rfl⟩ := hu
  rfl
theorem f4 {w0 w : World} {t : List Int} {g c : Nat} (h : Four4 w0 t (.slice (some ⟨g, 0, none⟩) 4 c) w) : w.ownsRow w0.heap.size 5 1 (.slice (some ⟨g, 0, none⟩) 4 c) 4 (encs (Value.int .u8) t) := by
  have := h.own
  rw [h.len] at this; exact this
theorem C_cells' {k : IntKind} {w : World} {g n : Nat} {xs : List Int} (h : Kd.C (Kd.int k) w (some ⟨g, 0, none⟩) n xs) (hn : xs.length = n) : ∀ (j : Nat) (u : Value), (encs (Value.int k) xs)[j]? = some u → w.cell? ((⟨g, 0, none⟩ : Addr).add j) = some u := by
  intro j u hu
  have hj : j < xs.length := by
    have := (List.getElem?_eq_some_iff.1 hu).1
    rwa [encs_len] at this
  obtain ⟨ad, hA, hc⟩ := C_cells h hn (by omega)
  cases hA
  exact hc j u hu
theorem own_at {w : World} {base : Nat} {g c n n' m m' : Nat} {xs : List Value} (h : w.ownsRow base 5 1 (.slice (some ⟨g, 0, none⟩) n c) m xs) (e : n' = n ∧ m' = m) : w.ownsRow base 5 1 (.slice (some ⟨g, 0, none⟩) n' c) m' xs := by
  obtain ⟨rfl, rfl⟩ := e; exact h
theorem own_n {g c n : Nat} {x : List Int} (h : x.length = n) : (Value.slice (some ⟨g, 0, none⟩) x.length c).ownBlock = (Value.slice (some ⟨g, 0, none⟩) n c).ownBlock := by rw [h]
theorem lay_first {w : World} {base : Nat} {g c : Nat} {y : List Int} {m : Nat} (hy : y.length = m) (h : w.ownsRow base 5 1 (.slice (some ⟨g, 0, none⟩) (4 + 4) c) (4 + 4) (encs (Value.int .u8) [99, 97, 115, 101] ++ encs (Value.int .u8) y)) (hm : m = 4 := by rfl) : w.ownsRow base 5 1 (.slice (some ⟨g, 0, none⟩) ([99, 97, 115, 101] ++ y : List Int).length c) ([99, 97, 115, 101] ++ y : List Int).length (encs (Value.int .u8) ([99, 97, 115, 101] ++ y)) := by
  subst hm
  rw [show encs (Value.int .u8) ([99, 97, 115, 101] ++ y) = encs (Value.int .u8) [99, 97, 115, 101] ++ encs (Value.int .u8) y from by simp [encs], List.length_append, hy]; exact h
/-- The row that is written, and the two boxes. -/
structure RB (w0 : World) (ga ha : Array Value) (g c : Nat) (x : List Int) (w : World) : Prop where
  own : w.ownsRow w0.heap.size 5 1 (.slice (some ⟨g, 0, none⟩) x.length c) x.length (encs (Value.int .u8) x)
  bg : w.heap[w0.heap.size]? = some (.cells ga 23 (0, 0))
  bh : w.heap[w0.heap.size + 1]? = some (.cells ha 25 (0, 0))
  below : Below w0.heap.size w0 w
theorem RB.later {w0 w w1 : World} {ga ha : Array Value} {g c : Nat} {x : List Int} (h : RB w0 ga ha g c x w) (hb : Below w.heap.size w w1) : RB w0 ga ha g c x w1 :=
  ⟨own_move h.own (fun k hk => hb.block k (own_lt h.own k hk)), blk_below h.bg hb, blk_below h.bh hb, below_step h.below hb⟩
theorem RB.grown {w0 w w1 : World} {ga ha : Array Value} {g c g' c' n : Nat} {x y : List Int} (h : RB w0 ga ha g c x w) (hg : w.grownBy w1 (Value.slice (some ⟨g, 0, none⟩) x.length c).ownBlock) (hn : n = (x ++ y).length)
    (ho : w1.ownsRow w0.heap.size 5 1 (.slice (some ⟨g', 0, none⟩) n c') (x.length + y.length) (encs (Value.int .u8) x ++ encs (Value.int .u8) y)) : RB w0 ga ha g' c' (x ++ y) w1 := by
  subst hn
  obtain ⟨cells, ht⟩ := own_typed h.own g (by simp [Value.ownBlock])
  exact ⟨lay_len2 ho, blk_grown h.bg hg (fun e => blk_ne h.bg ht (by decide) (by simpa [Value.ownBlock] using e)), blk_grown h.bh hg (fun e => blk_ne h.bh ht (by decide) (by simpa [Value.ownBlock] using e)), lay_below hg h.own h.below⟩
theorem own_cells {w : World} {base : Nat} {e : TypeId} {g n c : Nat} {xs : List Value} (h : w.ownsRow base e 1 (.slice (some ⟨g, 0, none⟩) n c) n xs) : ∀ (j : Nat) (u : Value), xs[j]? = some u → w.cell? ((⟨g, 0, none⟩ : Addr).add j) = some u := h.cells (g := g) rfl
set_option maxHeartbeats 2000000 in
set_option maxRecDepth 100000 in
theorem casemateref09_Bytes.calls (k : Nat) (a0_0 a0_1 a0_2 a0_3 a0_4 a1_0 a1_1 a1_2 : Int) (r : List Int) (w : World) (h : casemateref09_Bytes.f k a0_0 a0_1 a0_2 a0_3 a0_4 a1_0 a1_1 a1_2 = some r) :
    Calls Try.prog 16 #[.agg #[.int .i64 a0_0, .int .i64 a0_1, .int .i64 a0_2, .int .i64 a0_3, .int .i64 a0_4], .agg #[.int .i64 a1_0, .int .i64 a1_1, .int .i64 a1_2]] w fun e w' => ∃ v0_ : Value, e = .returned (v0_) ∧ Kd.R (Kd.int .u8) 5 w' w.heap.size (fun _ => True) v0_ r ∧ Below w.heap.size w w' := by
  unfold casemateref09_Bytes.f at h
  obtain ⟨t1, h1, h⟩ := Option.bind_eq_some_iff.1 h
  obtain ⟨t2, h2, h⟩ := Option.bind_eq_some_iff.1 h
  obtain ⟨t3, h3, h⟩ := Option.bind_eq_some_iff.1 h
  obtain ⟨room, hroom, h⟩ := Option.bind_eq_some_iff.1 h
  by_cases hlen : t1.length = 4 ∧ t2.length = 4 ∧ t3.length = 4
  · rw [if_pos hlen] at h
    have H1 := Aside0.mk h1
    have H2 := Aside0.mk h2
    have H3 := Aside0.mk h3
    have HR := Aside0.mk hroom
    have H := Aside0.mk h
    have HLEN := Aside0.mk hlen
    clear h1 h2 h3 hroom h hlen
    obtain ⟨i0, hi, hz0, hz1, hz2⟩ := info_parts hinfo_u8
    have HI := Aside0.mk hi
    have HZ0 := Aside0.mk hz0
    have HZ1 := Aside0.mk hz1
    have HZ2 := Aside0.mk hz2
    clear hi hz0 hz1 hz2
    obtain ⟨W, hW⟩ : ∃ W, W = (w.alloc (.cells #[.int .i64 a0_0, .int .i64 a0_1, .int .i64 a0_2, .int .i64 a0_3, .int .i64 a0_4] 23)).alloc (.cells #[.int .i64 a1_0, .int .i64 a1_1, .int .i64 a1_2] 25) := ⟨_, rfl⟩
    have BG : W.heap[w.heap.size]? = some (.cells #[.int .i64 a0_0, .int .i64 a0_1, .int .i64 a0_2, .int .i64 a0_3, .int .i64 a0_4] 23 (0, 0)) := by rw [hW]; exact blk_alloc (blk_new w _) _
    have BH : W.heap[w.heap.size + 1]? = some (.cells #[.int .i64 a1_0, .int .i64 a1_1, .int .i64 a1_2] 25 (0, 0)) := by
      rw [hW]; have := blk_new (w.alloc (.cells #[.int .i64 a0_0, .int .i64 a0_1, .int .i64 a0_2, .int .i64 a0_3, .int .i64 a0_4] 23)) (.cells #[.int .i64 a1_0, .int .i64 a1_1, .int .i64 a1_2] 25); rwa [World.size_alloc] at this
    have hBW : Below w.heap.size w W := by rw [hW]; exact below_alloc (below_alloc (Below.refl _ _) _) _
    have BG' := Aside0.mk BG
    have BH' := Aside0.mk BH
    have HBW := Aside0.mk hBW
    have HW := Aside0.mk hW
    have HWS := Aside0.mk (show W.heap.size = w.heap.size + 1 + 1 by rw [hW]; simp)
    clear BG BH hBW hW
    have kc := Lib.run_convert_bytes_const (P := Try.prog) ((w.alloc (.cells #[.int .i64 a0_0, .int .i64 a0_1, .int .i64 a0_2, .int .i64 a0_3, .int .i64 a0_4] 23)).alloc (.cells #[.int .i64 a1_0, .int .i64 a1_1, .int .i64 a1_2] 25)) 30 5 #[.int .u8 99, .int .u8 97, .int .u8 115, .int .u8 101] 4 4 Try.underlying30 Try.underlying5
    simp only [World.size_alloc] at kc
    go_enter Try.func16, Try.ntmps16
    have e0 : ((((w.alloc (.cells #[.int .i64 a0_0, .int .i64 a0_1, .int .i64 a0_2, .int .i64 a0_3, .int .i64 a0_4] 23)).alloc (.cells #[.int .i64 a1_0, .int .i64 a1_1, .int .i64 a1_2] 25)).alloc (.cells #[.int .u8 99, .int .u8 97, .int .u8 115, .int .u8 101] 5 (4, 5))).cell? ⟨w.heap.size + 1, 0, none⟩ = some (.int .i64 a1_0)) := by rw [← HW.out]; exact cell_al _ ((blk_cell BH'.out 0).trans rfl)
    have tok1 : True := trivial
    go_wp2_with (first | (go_at_call 24; have tok := tok1; clear tok1; (refine (four_calls k a1_0 t1 _ H1.out HLEN.out.1).mono ?_); rintro e w1 ⟨g1, c1, rfl, hg1, f1, hb⟩; rw [← HW.out] at hb f1 hg1; have HF := Aside0.mk f1; have HC := Aside0.mk (Kd.C_below (C_new (k := .u8) W [99, 97, 115, 101] #[.int .u8 99, .int .u8 97, .int .u8 115, .int .u8 101] 5 (4, 5) 4 rfl rfl (by decide) (w.heap.size + 1 + 1) HWS.out.symm) hb); have BG1 := Aside0.mk (blk_below (blk_alloc BG'.out _) hb); have BH1 := Aside0.mk (blk_below (blk_alloc BH'.out _) hb); have HB1 := Aside0.mk (below_step (below_alloc HBW.out _) hb); have tok2 : True := trivial; clear hb f1 hg1 e0) | ((with_reducible refine gate_builtin (b := .append) (xs := #[.tmp 8, .tmp 11]) rfl ?_); at_builtin; (refine wpList_append_full rfl (.tmp 8) (.tmp 11) 30 rfl w.heap.size 5 i0 (.int .u8 0) 1 Try.underlying30 HI.out HZ0.out HZ1.out HZ2.out rfl ⟨w.heap.size + 1 + 1, 0, none⟩ 4 (encs (Value.int .u8) [99, 97, 115, 101]) rfl rfl (C_cells' HC.out rfl) ⟨g1, 0, none⟩ 4 c1 (encs (Value.int .u8) t1) rfl (by rw [encs_len]; exact HLEN.out.1) (own_cells (f4 HF.out)) (by decide) (by unfold maxLen; decide) (by decide) HB1.out.size ?_); (intro v' w2 ho hb hv; obtain ⟨g2, c2, rfl⟩ := hv; have HS := Aside0.mk (show RB w #[.int .i64 a0_0, .int .i64 a0_1, .int .i64 a0_2, .int .i64 a0_3, .int .i64 a0_4] #[.int .i64 a1_0, .int .i64 a1_1, .int .i64 a1_2] g2 c2 ([99, 97, 115, 101] ++ t1) w2 from ⟨lay_first HLEN.out.1 ho, blk_below BG1.out hb, blk_below BH1.out hb, below_step HB1.out hb⟩); have e1 : w2.cell? ⟨w.heap.size + 1, 1, none⟩ = some (.int .i64 a1_1) := (blk_cell HS.out.bh 1).trans rfl; clear ho hb HB1 BG1 BH1 HF HC)) | (go_at_call 24; have tok := tok2; clear tok2; (refine (four_calls k a1_1 t2 _ H2.out HLEN.out.2.1).mono ?_); rintro e w3 ⟨g3, c3, rfl, hg3, f3, hb⟩; have HF := Aside0.mk f3; have HS3 := Aside0.mk (HS.out.later hb); have tok3 : True := trivial; clear hb f3 hg3 e1) | ((with_reducible refine gate_builtin (b := .append) (xs := #[.tmp 13, .tmp 16]) rfl ?_); at_builtin; (refine wpList_append_own _ rfl (.tmp 13) (.tmp 16) 30 rfl w.heap.size 5 i0 (.int .u8 0) 1 1 Try.underlying30 HI.out HZ0.out HZ1.out HZ2.out rfl (by decide) (.slice (some ⟨g2, 0, none⟩) 8 c2) 8 (encs (Value.int .u8) ([99, 97, 115, 101] ++ t1)) rfl (own_at HS3.out.own (by simp [HLEN.out.1])) ⟨g3, 0, none⟩ 4 c3 (encs (Value.int .u8) t2) rfl (by rw [encs_len]; exact HLEN.out.2.1) (own_cells (f4 HF.out)) (enc_one _) (by unfold maxLen; decide) (by decide) HS3.out.below.size ?_); (intro v' w4 ho hb hv; obtain ⟨g4, c4, rfl⟩ := lay_form ho (by decide); have HS4 := Aside0.mk (HS3.out.grown (y := t2) (n := 12) (by rw [own_n (by simp [HLEN.out.1] : ([99, 97, 115, 101] ++ t1).length = 8)]; exact hb) (by simp [HLEN.out.1, HLEN.out.2.1]) (own_at ho (by simp [HLEN.out.1, HLEN.out.2.1]))); have e2 : w4.cell? ⟨w.heap.size + 1, 2, none⟩ = some (.int .i64 a1_2) := (blk_cell HS4.out.bh 2).trans rfl; clear ho hb hv HS HS3 HF)) | (go_at_call 24; have tok := tok3; clear tok3; (refine (four_calls k a1_2 t3 _ H3.out HLEN.out.2.2).mono ?_); rintro e w5 ⟨g5, c5, rfl, hg5, f5, hb⟩; have HF := Aside0.mk f5; have HS5 := Aside0.mk (HS4.out.later hb); clear hb f5 hg5 e2) | ((with_reducible refine gate_builtin (b := .append) (xs := #[.tmp 18, .tmp 21]) rfl ?_); at_builtin; (refine wpList_append_own _ rfl (.tmp 18) (.tmp 21) 30 rfl w.heap.size 5 i0 (.int .u8 0) 1 1 Try.underlying30 HI.out HZ0.out HZ1.out HZ2.out rfl (by decide) (.slice (some ⟨g4, 0, none⟩) 12 c4) 12 (encs (Value.int .u8) (([99, 97, 115, 101] ++ t1) ++ t2)) rfl (own_at HS5.out.own (by simp [HLEN.out.1, HLEN.out.2.1])) ⟨g5, 0, none⟩ 4 c5 (encs (Value.int .u8) t3) rfl (by rw [encs_len]; exact HLEN.out.2.2) (own_cells (f4 HF.out)) (enc_one _) (by unfold maxLen; decide) (by decide) HS5.out.below.size ?_); (intro v' w6 ho hb hv; obtain ⟨g6, c6, rfl⟩ := lay_form ho (by decide); have HS6 := Aside0.mk (HS5.out.grown (y := t3) (n := 16) (by rw [own_n (by simp [HLEN.out.1, HLEN.out.2.1] : (([99, 97, 115, 101] ++ t1) ++ t2).length = 12)]; exact hb) (by simp [HLEN.out.1, HLEN.out.2.1, HLEN.out.2.2]) (own_at ho (by simp [HLEN.out.1, HLEN.out.2.1, HLEN.out.2.2]))); clear ho hb hv HS4 HS5 HF)))
    clear kc
    go_loopw [5] (fun v wr => ∃ (y : List Int) (g c : Nat), v = .slice (some ⟨g, 0, none⟩) y.length c ∧ Aside0 (RB w #[.int .i64 a0_0, .int .i64 a0_1, .int .i64 a0_2, .int .i64 a0_3, .int .i64 a0_4] #[.int .i64 a1_0, .int .i64 a1_1, .int .i64 a1_2] g c y wr) ∧ Aside0 (padL y room = some r)) (fun v _ => room.toNat - slen v)
    case atStart => exact ⟨_, g6, c6, by simp [HLEN.out.1, HLEN.out.2.1, HLEN.out.2.2], HS6, H⟩
    case round =>
      clear HS6 H
      obtain ⟨y, g, c, rfl, HS, HP⟩ := hrel
      have e0 : wr.cell? ⟨w.heap.size, 0, none⟩ = some (.int .i64 a0_0) := (blk_cell HS.out.bg 0).trans rfl
      have e1 : wr.cell? ⟨w.heap.size, 1, none⟩ = some (.int .i64 a0_1) := (blk_cell HS.out.bg 1).trans rfl
      have e2 : wr.cell? ⟨w.heap.size, 2, none⟩ = some (.int .i64 a0_2) := (blk_cell HS.out.bg 2).trans rfl
      have e3 : wr.cell? ⟨w.heap.size, 3, none⟩ = some (.int .i64 a0_3) := (blk_cell HS.out.bg 3).trans rfl
      have e4 : wr.cell? ⟨w.heap.size, 4, none⟩ = some (.int .i64 a0_4) := (blk_cell HS.out.bg 4).trans rfl
      by_cases hlt : (y.length : Int) < room
      · have hd : decide ((y.length : Int) < room) = true := decide_eq_true hlt
        have hp := HP.out
        unfold padL at hp
        rw [if_pos hlt] at hp
        by_cases hm : room < 140737488355328
        · have HM := Aside0.mk hm
          have HT := Aside0.mk hlt
          have HPN := Aside0.mk ((padL_step y hlt hm).trans HP.out)
          clear hp hm HP hlt
          go_wp2_with (first | (go_at_call 18; (refine (casemateref06_Room.calls _ _ _ _ _ room _ HR.out).mono ?_); rintro e w1 ⟨rfl, hb⟩; have HS1 := Aside0.mk (HS.out.later hb); clear hb HS e0 e1 e2 e3 e4) | ((with_reducible refine gate_builtin (b := .append) (xs := #[.tmp 28, .tmp 29]) rfl ?_); at_builtin; (refine wpList_append_own _ rfl (.tmp 28) (.tmp 29) 30 rfl w.heap.size 5 i0 (.int .u8 0) 1 1 Try.underlying30 HI.out HZ0.out HZ1.out HZ2.out rfl (by decide) (.slice (some ⟨g, 0, none⟩) y.length c) y.length (encs (Value.int .u8) y) rfl (HS1.out.own.alloc _) ⟨w1.heap.size, 0, none⟩ 1 1 (encs (Value.int .u8) [0]) rfl rfl (new_cells _ _ _ _ rfl) (enc_one _) (by have := HM.out; have := HT.out; unfold maxLen; omega) (by have := HM.out; have := HT.out; omega) (by have := HS1.out.below.size; simp; omega) ?_); (intro v' w2 ho hb hv; obtain ⟨g2, c2, rfl⟩ := lay_form ho (by omega); have HS2 := Aside0.mk ((HS1.out.later (below_alloc (Below.refl _ w1) (.cells #[.int .u8 0] 5))).grown (y := [0]) (n := y.length + 1) hb (by simp) ho); clear ho hb hv HS1)))
          go_roundw
          case rel => exact ⟨_, g2, c2, by simp, HS2, HPN⟩
          case measure =>
            have := HT.out
            show room.toNat - (y.length + 1) < room.toNat - y.length
            omega
        · rw [if_neg hm] at hp; exact absurd hp (by simp)
      · have hd : decide ((y.length : Int) < room) = false := decide_eq_false hlt
        have hp := HP.out
        unfold padL at hp
        rw [if_neg hlt] at hp
        obtain rfl := Option.some.inj hp
        clear hp HP hlt
        go_wp2_with (first | (go_at_call 18; (refine (casemateref06_Room.calls _ _ _ _ _ room _ HR.out).mono ?_); rintro e w1 ⟨rfl, hb⟩; have HS1 := Aside0.mk (HS.out.later hb); clear hb HS e0 e1 e2 e3 e4))
        go_ret
        exact ⟨_, rfl, Kd.R_of_own (h1 := fun _ => rfl) HS1.out.own (fun _ _ => trivial), HS1.out.below⟩
  · rw [if_neg hlen] at h; exact absurd h (by simp)

end Go.Proofs.Ytlaadaigffmibaa.P

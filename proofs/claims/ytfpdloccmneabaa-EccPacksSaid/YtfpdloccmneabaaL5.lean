/- What the functions of layer 5 (bch) and of its reference come to: words as polynomials of bits. Conditions: t from 1 to 8, rows of bytes no longer than the statements let in. -/
import Derived.Test.YtfpdloccmneabaaL4
import Derived.Test.YtfpdloccmneabaaPx0
import Derived.Test.YtfpdloccmneabaaPx6
import Derived.Test.YtfpdloccmneabaaPx18
import Derived.Test.YtfpdloccmneabaaPx20
set_option linter.unusedVariables false
set_option linter.unusedSimpArgs false
namespace Go.Proofs.Ytfpdloccmneabaa.L
open Go Go.RowKit Go.Proofs.Ytfpdloccmneabaa.P Go.Proofs.YtfpdloccmneabaaW.PrintWords Go.Proofs.YtfpdloccmneabaaW.PrintLast Go.Proofs.YtfpdloccmneabaaW.PrintMore Go.Proofs.CsM
/-- How many more bytes there are. -/
def mb (t : Nat) : Nat := (13 * t + 7) / 8
theorem mb_ge (t : Nat) : 13 * t ≤ 8 * mb t := by unfold mb; omega
theorem mb_lt (t : Nat) : 8 * mb t < 13 * t + 8 := by unfold mb; omega
theorem c_Bits {t : Nat} (h1 : 1 ≤ t) (h8 : t ≤ 8) : bch_Bits.f (t : Int) = some (((13 * t : Nat) : Int), 0) := by
  unfold bch_Bits.f
  rw [if_neg (by omega), if_neg (by omega), w64 (by omega) (by omega)]
  congr 2
theorem c_size {t : Nat} (h1 : 1 ≤ t) (h8 : t ≤ 8) {d : List Int} (hd : 1 ≤ d.length) (hd' : d.length ≤ 512) : bch_size.f (t : Int) d = some ((mb t : Int), 0) := by
  unfold bch_size.f
  rw [c_Bits h1 h8, Option.bind_some, if_pos rfl, if_neg (by omega), if_neg (by omega)]
  have e : wrap64 (((13 * t : Nat) : Int) + 7) = ((13 * t + 7 : Nat) : Int) := by rw [w64 (by omega) (by omega)]; omega
  show some (wrap64 (Int.tdiv (wrap64 (((13 * t : Nat) : Int) + 7)) 8), (0 : Int)) = _
  rw [e, tdv 8 (by omega), w64 (by omega) (by omega)]
  unfold mb
  congr 2
/-- A word's coefficients. -/
def wd (t : Nat) (d m : List Int) : Ser Bool := ⟨fun i => if i < 13 * t then bitAt m i else bitAt d (i - 13 * t)⟩
def wl (t : Nat) (d : List Int) : Nat := 13 * t + 8 * d.length
theorem wd_bd (t : Nat) (d m : List Int) : Bd (wd t d m) (wl t d) := fun i hi => by
  show (if i < 13 * t then bitAt m i else bitAt d (i - 13 * t)) = false
  unfold wl at hi
  rw [if_neg (by omega)]
  exact bitAt_out (by omega)
/-- A word that may be. -/
structure Wok (t : Nat) (d m : List Int) : Prop where
  t1 : 1 ≤ t
  t8 : t ≤ 8
  hd : Byt d
  hm : Byt m
  d1 : 1 ≤ d.length
  d512 : d.length ≤ 512
  ml : m.length = mb t
theorem Wok.wl_le {t : Nat} {d m : List Int} (h : Wok t d m) : wl t d ≤ 4200 ∧ 21 ≤ wl t d := by
  have := h.t8; have := h.t1; have := h.d512; have := h.d1
  unfold wl
  omega
/-- The sums. -/
def sml (t : Nat) (f : Ser Bool) (n : Nat) : List Int := (List.range (2 * t)).map fun j => gi (vb f n (pw w (j + 1)))
theorem ex_small {n : Nat} (h : n < 8191) : ex (n : Int) = n := by rw [ex_nat]; exact Nat.mod_eq_of_lt h
/-- Bits cleared, one by one. -/
def clrN : Nat → Nat → List Int → List Int
  | 0, _, m => m
  | e + 1, i, m => clrN e (i + 1) (m.set (i / 8) (Go.bits .andNot .u8 (m.getD (i / 8) 0) (shl .u8 1 ((i % 8 : Nat) : Int))))
theorem c_nwL {n : Nat} (hn : n ≤ 1000) : ∀ (e i k : Nat) (m : List Int), i + e = 8 * n → m.length = n → e < k → nwL k (n : Int) m (i : Int) = some (clrN e i m)
  | 0, i, k, m, hi, hm, hk => by
    obtain ⟨k, rfl⟩ := fuel hk
    have e1 : wrap64 (8 * (n : Int)) = ((8 * n : Nat) : Int) := by rw [w64 (by omega) (by omega)]; omega
    rw [nwL, e1, if_neg (by omega)]; rfl
  | e + 1, i, k, m, hi, hm, hk => by
    obtain ⟨k, rfl⟩ := fuel hk
    have e1 : wrap64 (8 * (n : Int)) = ((8 * n : Nat) : Int) := by rw [w64 (by omega) (by omega)]; omega
    have e2 : wrap64 ((i : Int) + 1) = ((i + 1 : Nat) : Int) := by rw [w64 (by omega) (by omega)]; omega
    rw [nwL, e1, if_pos (by omega), cst_ed (by omega), cst_et, if_pos (by omega), if_pos (by omega), if_pos (by omega), rd_nat, Int.toNat_natCast, e2]
    exact c_nwL hn e (i + 1) k _ (by omega) (by rw [List.length_set]; exact hm) (by omega)
/-- The more bytes without what stands above them. -/
def clr (t : Nat) (m : List Int) : List Int := clrN (8 * mb t - 13 * t) (13 * t) m
theorem el_gi {l : List Int} (h : El l) (i : Nat) : l.getD i 0 = gi ((toS l).c i) := by rw [toS_c, gi_gof (h.get i)]
/-- What the rule gives at a place: the terms. -/
def dterm (C S : Ser GF) (n : Nat) (i : Nat) : GF := C.c i * S.c (n - i)
/-- Noughts appended. -/
theorem toS_app (c : List Int) (e : Nat) : toS (c ++ List.replicate e 0) = toS c := Ser.ext fun i => by
  rw [toS_c, toS_c]
  congr 1
  rw [List.getD_eq_getElem?_getD, List.getD_eq_getElem?_getD, List.getElem?_append]
  by_cases h : i < c.length
  · rw [if_pos h]
  · rw [if_neg h, List.getElem?_eq_none (show c.length ≤ i by omega), List.getElem?_replicate]
    split <;> rfl
theorem sset (l : List Int) {i : Nat} (hi : i < l.length) (v : GF) : toS (l.set i (gi v)) = toS l + ⟨fun j => if j = i then v + (toS l).c i else 0⟩ := Ser.ext fun j => by
  rw [toS_c, getD_set _ _ _ _ hi, add_c]
  show _ = _ + (if j = i then v + (toS l).c i else 0)
  by_cases h : i = j
  · subst h; rw [if_pos rfl, if_pos rfl, gof_gi, R2.add_comm v, r_add_cancel_left]
  · rw [if_neg h, if_neg (fun e => h e.symm), R2.add_zero, toS_c]
/-- b's first i numbers, each so many times, laid from h on. -/
def part (B : Ser GF) (y : GF) (h i : Nat) : Ser GF := ⟨fun j => if h ≤ j ∧ j < h + i then y * B.c (j - h) else 0⟩
/-- What the rounds come to. -/
structure LocAns (S : Ser GF) (N : Nat) (r : List Int) : Prop where
  el : El r
  fin : P.fin r = r
  ex : ∃ L h B last, BMs S N L h (toS r) B last
theorem one_S : El [1] ∧ toS [1] = 1 := by
  refine ⟨fun x hx => by simp at hx; subst hx; exact gi_el 1, Ser.ext fun i => ?_⟩
  rw [toS_c, one_c]
  cases i with
  | zero => exact gof_gi 1
  | succ i => rw [if_neg (by omega)]; rfl
/-- The value of what stands from the i-th number on. -/
def tg (f : Ser GF) (n i : Nat) (x : GF) : GF := ev ⟨fun m => f.c (i + m)⟩ (n - i) x
/-- Does a place turn? -/
def rt (c : List Int) (i : Nat) : Bool := decide (ev (toS c) c.length (pw w (ex (-(i : Int)))) = 0)
/-- The places that turn, below the i-th. -/
def turned (c : List Int) (i : Nat) : Ser Bool := ⟨fun j => decide (j < i) && rt c j⟩
theorem turned_succ (c : List Int) (i : Nat) : turned c (i + 1) = turned c i + mono i (rt c i) := Ser.ext fun j => by
  rw [add_c, mono_c]
  show (decide (j < i + 1) && rt c j) = ((decide (j < i) && rt c j) ^^ (decide (j = i) && rt c i))
  by_cases h : j = i
  · subst h; rw [decide_eq_true (show j < j + 1 by omega), decide_eq_false (show ¬ j < j by omega), decide_eq_true rfl]; simp
  · rw [show decide (j < i + 1) = decide (j < i) from decide_eq_decide.2 (by omega), decide_eq_false h]; simp
/-- A bit for each sum that is none. -/
def noul (s : List Int) : List Int := s.map fun x => if x = 0 then 0 else 1
/-- Is it a code word? -/
def Code (t : Nat) (f : Ser Bool) (n : Nat) : Prop := ∀ j, 1 ≤ j → j ≤ 2 * t → vb f n (pw w j) = 0
theorem wd_eq {t : Nat} {d m : List Int} (h : ∀ j, 13 * t ≤ j → bitAt m j = false) : wd t d m = toB m + pw XX (13 * t) * toB d := Ser.ext fun i => by
  rw [add_c, pwXX_c]
  show (if i < 13 * t then bitAt m i else bitAt d (i - 13 * t)) = bitAt m i + (if 13 * t ≤ i then bitAt d (i - 13 * t) else 0)
  by_cases hi : i < 13 * t
  · rw [if_pos hi, if_neg (by omega), R2.add_zero]
  · rw [if_neg hi, if_pos (by omega), h i (by omega)]
    exact (r_zero_add (K := Bool) _).symm
theorem one_shl8 {j : Nat} (h : j < 8) : (0 : Int) ≤ shl .u8 1 (j : Int) ∧ shl .u8 1 (j : Int) < 256 ∧ ∀ i, (shl .u8 1 (j : Int)).toNat.testBit i = decide (j = i) := by
  have hpw := pow8 h
  rw [one_shl j h]
  refine ⟨by generalize 2 ^ j = q at hpw ⊢; omega, by generalize 2 ^ j = q at hpw ⊢; omega, fun i => ?_⟩
  rw [Int.toNat_natCast, Nat.testBit_two_pow]
theorem toB_one {n j : Nat} (h : j / 8 < n) : Byt ((List.replicate n 0).set (j / 8) (shl .u8 1 ((j % 8 : Nat) : Int))) ∧ toB ((List.replicate n 0).set (j / 8) (shl .u8 1 ((j % 8 : Nat) : Int))) = pw XX j := by
  obtain ⟨h1, h2, h3⟩ := one_shl8 (show j % 8 < 8 by omega)
  refine ⟨(Byt.zeros n).set _ ⟨h1, h2⟩, Ser.ext fun i => ?_⟩
  rw [← mono_true, mono_c]
  show bitAt _ i = _
  unfold bitAt
  rw [getD_set _ _ _ _ (by simpa using h)]
  by_cases hi : j / 8 = i / 8
  · rw [if_pos hi, h3, Bool.and_true]
    exact decide_eq_decide.2 (by omega)
  · rw [if_neg hi, decide_eq_false (fun e => hi (by rw [e])), Bool.false_and]
    simp [List.getElem?_replicate]
    split <;> simp
theorem toB_app (c : List Int) (e : Nat) : toB (c ++ List.replicate e 0) = toB c := toB_get fun i => by
  rw [List.getD_eq_getElem?_getD, List.getD_eq_getElem?_getD, List.getElem?_append]
  by_cases h : i < c.length
  · rw [if_pos h]
  · rw [if_neg h, List.getElem?_eq_none (show c.length ≤ i by omega), List.getElem?_replicate]
    split <;> rfl
/-- What is encoded. -/
structure Enc (t : Nat) (d m : List Int) : Prop where
  byt : Byt m
  len : m.length = mb t
  rest : Rest (pw XX (13 * t) * toB d) (gen t) (toB m) (13 * t)
theorem c_Encode {t : Nat} (h1 : 1 ≤ t) (h8 : t ≤ 8) {d : List Int} (hd : Byt d) (hd1 : 1 ≤ d.length) (hd2 : d.length ≤ 512) : ∃ m, (Evt fun k => bch_Encode.f k (t : Int) d = some (m, 0)) ∧ Enc t d m := by
  have hg := mb_ge t; have hlt := mb_lt t
  obtain ⟨g, g1, g2⟩ := b_Generator h1 h8
  have gl : g.length ≤ 14 := by have := g2.len (gen_bd h8); omega
  obtain ⟨a1, a2⟩ := toB_one (n := mb t + 1) (j := 13 * t) (by omega)
  obtain ⟨q, q1, q2⟩ := b_Mul a1 hd (by simp; omega) (by omega)
  have ql : q.length ≤ 1000 := by
    have := q2.len (n := 8 * (mb t + 1) + 8 * d.length) (by
      have := (toB_bd ((List.replicate (mb t + 1) 0).set (13 * t / 8) (shl .u8 1 ((13 * t % 8 : Nat) : Int)))).mul' (toB_bd d)
      refine this.mono ?_
      simp)
    omega
  obtain ⟨r, f, r1, r2, r3⟩ := b_Mod q2.byt g2.byt (by omega) (by omega) (d := 13 * t) (by rw [g2.is]; exact gen_top h8) (by rw [g2.is]; exact gen_bd h8)
  rw [q2.is, a2, g2.is] at r3
  have rl : r.length ≤ mb t := by have := r2.len r3.1; unfold mb; exact this
  refine ⟨r ++ List.replicate (mb t - r.length) 0, ?_, r2.byt.append (Byt.zeros _), by rw [List.length_append, List.length_replicate]; omega, by rw [toB_app, r2.is]; exact r3⟩
  have e1 : wrap64 (13 * (t : Int)) = ((13 * t : Nat) : Int) := by rw [w64 (by omega) (by omega)]; omega
  have e2 : wrap64 ((mb t : Int) + 1) = ((mb t + 1 : Nat) : Int) := by rw [w64 (by omega) (by omega)]; omega
  refine (g1.and (q1.and r1)).mono fun k ⟨k1, k2, k3⟩ => ?_
  unfold bch_Encode.f
  rw [c_size h1 h8 hd1 hd2, Option.bind_some]
  show (if (0 : Int) = 0 then _ else _) = _
  rw [if_pos rfl, k1, Option.bind_some]
  show (if 0 ≤ wrap64 ((mb t : Int) + 1) then _ else _) = _
  rw [e2, if_pos (by clear e1 e2; omega), Int.toNat_natCast, if_pos (by clear e1 e2; omega), Option.bind_some, e1, cst_et, if_pos (by clear e1 e2; omega), cst_ed (by clear e1 e2; omega), if_pos (by clear e1 e2; omega), List.length_replicate, if_pos (by clear e1 e2; omega), Int.toNat_natCast, k2, Option.bind_some, k3, Option.bind_some]
  show (if 0 ≤ wrap64 ((mb t : Int) - (r.length : Int)) then _ else _) = _
  rw [cst_sub rl (by clear e1 e2; omega), if_pos (by clear e1 e2; omega), Int.toNat_natCast]
  show (if r.length + (mb t - r.length) < 140737488355328 then _ else _) = _
  rw [if_pos (by clear e1 e2; omega)]
theorem Enc.up {t : Nat} {d m : List Int} (h : Enc t d m) : ∀ j, 13 * t ≤ j → bitAt m j = false := fun j hj => h.rest.1 j hj
theorem Enc.wd {t : Nat} {d m : List Int} (h : Enc t d m) : wd t d m = toB m + pw XX (13 * t) * toB d := wd_eq h.up
theorem Enc.code {t : Nat} {d m : List Int} (h : Enc t d m) (h8 : t ≤ 8) : Code t (L.wd t d m) (wl t d) := fun j h1 h2 => by
  obtain ⟨_, a, n, ha, e⟩ := h.rest
  refine gen_mul_root h8 ha (wd_bd t d m) ?_ h1 h2
  rw [h.wd, e, R2.add_comm, r_add_cancel]
theorem code_add {t n : Nat} {f g : Ser Bool} (hf : Code t f n) (hg : Code t g n) : Code t (f + g) n := fun j h1 h2 => by rw [vb_add, hf j h1 h2, hg j h1 h2, R2.add_zero]
theorem toB_eq {l m : List Int} (hl : Byt l) (hm : Byt m) (h : l.length = m.length) (e : toB l = toB m) : l = m := byt_ext hl hm h fun i _ => by
  have := congrArg (fun f => f.c i) e
  exact this
/-- The more bytes of a code word are those of its data. -/
theorem Enc.unique {t : Nat} {d m m' : List Int} (h : Enc t d m) (h8 : t ≤ 8) (hm : Byt m') (hl : m'.length = mb t) (hu : ∀ j, 13 * t ≤ j → bitAt m' j = false) (hc : Code t (L.wd t d m') (wl t d)) : m' = m := by
  have e := code_add hc (h.code h8)
  rw [wd_eq hu, h.wd, show toB m' + pw XX (13 * t) * toB d + (toB m + pw XX (13 * t) * toB d) = toB m' + toB m from by
    rw [show toB m' + pw XX (13 * t) * toB d + (toB m + pw XX (13 * t) * toB d) = toB m' + (toB m + (pw XX (13 * t) * toB d + pw XX (13 * t) * toB d)) from by ac_rfl, R2.add_self, R2.add_zero]] at e
  have hz := short_zero h8 (Bd.add (fun j hj => hu j hj) h.rest.1) (show 13 * t ≤ wl t d by unfold wl; omega) e
  exact toB_eq hm h.byt (hl.trans h.len.symm) (r_add_eq_zero.1 hz)
/-- A word's coefficients, as a list. -/
def wlist (t : Nat) (d m : List Int) : List Int := (List.range (wl t d)).map fun i => b2i ((wd t d m).c i)
theorem wlist_length (t : Nat) (d m : List Int) : (wlist t d m).length = wl t d := by simp [wlist]
theorem wlist_get (t : Nat) (d m : List Int) {i : Nat} (h : i < wl t d) : (wlist t d m).getD i 0 = b2i ((wd t d m).c i) := by simp [wlist, h]
theorem wlist_bt (t : Nat) (d m : List Int) : Bt (wlist t d m) ∧ toL (wlist t d m) = wd t d m := by
  have := Bt.of (l := wlist t d m) (wd t d m).c fun i => by
    by_cases h : i < wl t d
    · exact wlist_get t d m h
    · rw [getD_out (by rw [wlist_length]; omega), wd_bd t d m i (by omega)]; rfl
  exact ⟨this.1, this.2⟩
theorem r5_Bytes {t : Nat} (h8 : t ≤ 8) : casemateref05_Bytes.f (t : Int) = some (mb t : Int) := by
  unfold casemateref05_Bytes.f
  have e1 : wrap64 (13 * (t : Int)) = ((13 * t : Nat) : Int) := by rw [w64 (by omega) (by omega)]; omega
  have e : wrap64 (((13 * t : Nat) : Int) + 7) = ((13 * t + 7 : Nat) : Int) := by rw [w64 (by omega) (by omega)]; omega
  rw [e1, e, tdv 8 (by omega), w64 (by omega) (by omega)]
  unfold mb
  congr 2
theorem r5_Word_l0 {t : Nat} {d m : List Int} (h : Wok t d m) : ∀ (e i k : Nat) (x : List Int), i + e = 13 * t → x = (List.range i).map (fun j => b2i (bitAt m j)) → 8 * d.length + 20 + e < k → casemateref05_Word.l0 k (t : Int) d m x (i : Int) = some (wlist t d m)
  | 0, i, k, x, hi, hx, hk => by
    obtain ⟨k, rfl⟩ := fuel hk
    have h8 := h.t8; have hd := h.d512
    have e1 : wrap64 (13 * (t : Int)) = ((13 * t : Nat) : Int) := by rw [w64 (by omega) (by omega)]; omega
    have hxl : x.length = i := by rw [hx]; simp
    rw [casemateref05_Word.l0, e1, if_neg (by clear e1; omega), r1_All h.hd (by clear e1; omega) (by clear e1; omega), Option.bind_some, if_pos (by rw [hxl, bl_length]; clear e1; omega)]
    congr 1
    apply List.ext_getElem (by rw [List.length_append, hxl, bl_length, wlist_length]; unfold wl; clear e1; omega)
    intro j h1 h2
    rw [wlist_length] at h2
    have g1 := wlist_get t d m h2
    rw [List.getD_eq_getElem?_getD, List.getElem?_eq_getElem (by rw [wlist_length]; exact h2)] at g1
    rw [Option.getD_some] at g1
    rw [g1, List.getElem_append]
    show _ = b2i (if j < 13 * t then bitAt m j else bitAt d (j - 13 * t))
    by_cases hj : j < x.length
    · rw [dif_pos hj, if_pos (by clear e1; omega)]
      subst hx
      simp
    · rw [dif_neg hj, if_neg (by clear e1; omega)]
      have := bl_get d (j - 13 * t) (by unfold wl at h2; clear e1; omega)
      rw [List.getD_eq_getElem?_getD, List.getElem?_eq_getElem (by rw [bl_length]; unfold wl at h2; clear e1; omega), Option.getD_some] at this
      rw [← this]
      congr 1
      clear e1; omega
  | e + 1, i, k, x, hi, hx, hk => by
    obtain ⟨k, rfl⟩ := fuel hk
    have h8 := h.t8; have hml := h.ml; have hg := mb_ge t; have hlt := mb_lt t
    have e1 : wrap64 (13 * (t : Int)) = ((13 * t : Nat) : Int) := by rw [w64 (by omega) (by omega)]; omega
    have e2 : wrap64 ((i : Int) + 1) = ((i + 1 : Nat) : Int) := by rw [w64 (by omega) (by omega)]; omega
    have hxl : x.length = i := by rw [hx]; simp
    rw [casemateref05_Word.l0, e1, if_pos (by clear e1 e2; omega), r1_At h.hm (by clear e1 e2; omega) (by clear e1 e2; omega) (by clear e1 e2; omega), Option.bind_some, if_pos (by clear e1 e2; omega), e2]
    exact r5_Word_l0 h e (i + 1) k _ (by clear e1 e2; omega) (by rw [hx, ← list_snoc_map]) (by clear e1 e2; omega)
theorem r5_Word {t : Nat} {d m : List Int} (h : Wok t d m) : Evt fun k => casemateref05_Word.f k (t : Int) d m = some (wlist t d m) := Evt.of (8 * d.length + 20 + 13 * t) fun k hk => by
  unfold casemateref05_Word.f
  exact r5_Word_l0 h (13 * t) 0 k [] (by omega) rfl (by omega)
/-- One coefficient. -/
def mg (i : Nat) (v : GF) : Ser GF := ⟨fun j => if j = i then v else 0⟩
theorem mg_lin (i : Nat) (v x : GF) : (XX + cst x) * mg i v = mg i (x * v) + mg (i + 1) v := Ser.ext fun j => by
  rw [r_add_mul, add_c, add_c, XX_mul_c, cst_mul_c]
  show (if j = 0 then 0 else (if j - 1 = i then v else 0)) + x * (if j = i then v else 0) = (if j = i then x * v else 0) + (if j = i + 1 then v else 0)
  by_cases h1 : j = i
  · subst h1
    rw [if_pos rfl, if_pos rfl, if_neg (show ¬ j = j + 1 by omega), R2.add_zero]
    by_cases h0 : j = 0
    · rw [if_pos h0, r_zero_add]
    · rw [if_neg h0, if_neg (by omega), r_zero_add]
  · rw [if_neg h1, if_neg h1, r_mul_zero, R2.add_zero, r_zero_add]
    by_cases h2 : j = i + 1
    · rw [if_neg (by omega), if_pos (by omega), if_pos h2]
    · rw [if_neg h2]
      by_cases h0 : j = 0
      · rw [if_pos h0]
      · rw [if_neg h0, if_neg (by omega)]
def cutg (f : Ser GF) (i : Nat) : Ser GF := ⟨fun j => if j < i then f.c j else 0⟩
theorem cutg_succ (f : Ser GF) (i : Nat) : cutg f (i + 1) = cutg f i + mg i (f.c i) := Ser.ext fun j => by
  rw [add_c]
  show (if j < i + 1 then f.c j else 0) = (if j < i then f.c j else 0) + (if j = i then f.c i else 0)
  by_cases h : j = i
  · subst h; rw [if_pos (by omega), if_neg (by omega), if_pos rfl, r_zero_add]
  · rw [if_neg h, R2.add_zero]
    by_cases h2 : j < i
    · rw [if_pos h2, if_pos (by omega)]
    · rw [if_neg h2, if_neg (by omega)]
theorem cutg_all {f : Ser GF} {n : Nat} (h : Bd f n) : cutg f n = f := Ser.ext fun j => by
  show (if j < n then f.c j else 0) = f.c j
  by_cases hj : j < n
  · rw [if_pos hj]
  · rw [if_neg hj, h j (by omega)]
theorem g5_l2 (x0 : Int) (all : List Int) (n : Int) {p : List Int} (hp : El p) (hpn : p.length ≤ 100) (x : GF) (rdn : Int) (R : Option (List Int)) (K : Nat)
    (hR : ∀ q, El q → q.length = p.length + 1 → toS q = (XX + cst x) * toS p → ∀ k, K ≤ k → casemateref05_generator.l1 k x0 all n q (gi (x * x)) (wrap64 (rdn + 1)) = R) :
    ∀ (e i k : Nat) (q : List Int), i + e = p.length → El q → q.length = p.length + 1 → toS q = (XX + cst x) * cutg (toS p) i → e + 50 + K < k → casemateref05_generator.l2 k x0 all n p (gi x) rdn q (i : Int) = R
  | 0, i, k, q, hi, hq, hql, hS, hk => by
    obtain ⟨k, rfl⟩ := fuel hk
    rw [casemateref05_generator.l2, if_neg (by omega), r2_Mul _ _ (by omega), Option.bind_some]
    exact hR q hq hql (by rw [hS, cutg_all ((toS_bd p).mono (by omega))]) k (by omega)
  | e + 1, i, k, q, hi, hq, hql, hS, hk => by
    obtain ⟨k, rfl⟩ := fuel hk
    have hq1 := hq.set i (gi_el ((toS q).c i + (toS p).c i * x))
    have hl1 : (q.set i (gi ((toS q).c i + (toS p).c i * x))).length = p.length + 1 := by rw [List.length_set]; exact hql
    have hS1 : toS (q.set i (gi ((toS q).c i + (toS p).c i * x))) = toS q + mg i ((toS p).c i * x) := by
      rw [sset q (by omega)]
      congr 1
      refine Ser.ext fun j => ?_
      show (if j = i then _ else (0 : GF)) = if j = i then _ else 0
      by_cases h : j = i
      · rw [if_pos h, if_pos h, R2.add_comm ((toS q).c i), r_add_cancel]
      · rw [if_neg h, if_neg h]
    have e2 : wrap64 ((i : Int) + 1) = ((i + 1 : Nat) : Int) := by rw [w64 (by omega) (by omega)]; omega
    rw [casemateref05_generator.l2, if_pos (by clear e2; omega), if_pos (by clear e2; omega), if_pos (by clear e2; omega), rd_nat, rd_nat, el_gi hp, el_gi hq, r2_Mul _ _ (by clear e2; omega), Option.bind_some, r2_Sum _ _ (by clear e2; omega), Option.bind_some, Option.bind_some, Int.toNat_natCast, e2, if_pos (by clear e2; omega), if_pos (by clear e2; omega), rd_nat, el_gi hq1, r2_Sum _ _ (by clear e2; omega), Option.bind_some, Int.toNat_natCast]
    refine g5_l2 x0 all n hp hpn x rdn R K hR e (i + 1) k _ (by clear e2; omega) (hq1.set _ (gi_el _)) (by rw [List.length_set]; exact hl1) ?_ (by clear e2; omega)
    rw [sset _ (by clear e2; omega), cutg_succ, R2.mul_add, ← hS, mg_lin, ← R2.add_assoc, hS1, R2.mul_comm x]
    congr 1
    refine Ser.ext fun j => ?_
    show (if j = i + 1 then _ else (0 : GF)) = if j = i + 1 then _ else 0
    by_cases h : j = i + 1
    · rw [if_pos h, if_pos h, ← hS1, R2.add_comm ((toS _).c (i + 1)), r_add_cancel]
    · rw [if_neg h, if_neg h]
theorem lins_snoc (xs : List GF) (y : GF) : lins (xs ++ [y]) = (XX + cst y) * lins xs := by
  rw [lins_append]
  show lins xs * ((XX + cst y) * 1) = _
  rw [R2.mul_one, R2.mul_comm]
theorem g5_l1 (x0 : Int) (all : List Int) (n : Int) (y : GF) (R : Option (List Int)) (K : Nat)
    (hR : ∀ q, El q → q.length = 14 → toS q = lins (conj y 13) → ∀ k, K ≤ k → ((casemateref04_Mul.f k all q).bind fun t => casemateref05_generator.l0 k x0 t (wrap64 (n + 2))) = R) :
    ∀ (e j k : Nat) (p : List Int), j + e = 13 → El p → p.length = j + 1 → toS p = lins (conj y j) → 100 * e + K < k → casemateref05_generator.l1 k x0 all n p (gi (pw y (2 ^ j))) (j : Int) = R
  | 0, j, k, p, hj, hp, hl, hS, hk => by
    obtain ⟨k, rfl⟩ := fuel hk
    rw [casemateref05_generator.l1, if_neg (by omega)]
    exact hR p hp (by omega) (by rw [hS, show j = 13 from by omega]) k (by omega)
  | e + 1, j, k, p, hj, hp, hl, hS, hk => by
    obtain ⟨k, rfl⟩ := fuel hk
    have e1 : wrap64 ((p.length : Int) + 1) = ((p.length + 1 : Nat) : Int) := by rw [w64 (by omega) (by omega)]; omega
    have e2 : wrap64 ((j : Int) + 1) = ((j + 1 : Nat) : Int) := by rw [w64 (by omega) (by omega)]; omega
    rw [casemateref05_generator.l1, if_pos (by clear e1 e2; omega), e1, if_pos (by clear e1 e2; omega), Int.toNat_natCast, if_pos (by clear e1 e2; omega)]
    refine g5_l2 x0 all n hp (by clear e1 e2; omega) (pw y (2 ^ j)) (j : Int) R (100 * e + K + 1) (fun q h1 h2 h3 k hk => ?_) p.length 0 k _ (by omega) (El.zeros _) (by simp) ?_ (by clear e1 e2; omega)
    · rw [e2]
      have := g5_l1 x0 all n y R K hR e (j + 1) k q (by clear e1 e2; omega) h1 (by clear e1 e2; omega) (by rw [h3, conj_snoc, lins_snoc, hS]) (by clear e1 e2; omega)
      rw [Nat.pow_succ, Nat.mul_two, pw_add] at this
      exact this
    · rw [toS_zeros, show cutg (toS p) 0 = 0 from Ser.ext fun j => rfl, r_mul_zero]
theorem g5_l0 {t : Nat} (h8 : t ≤ 8) : ∀ (e i : Nat) (all : List Int), i + e = t → Bt all → toL all = gen i → all.length = 1 + 14 * i → ∃ r, (Evt fun k => casemateref05_generator.l0 k (t : Int) all ((2 * i + 1 : Nat) : Int) = some r) ∧ Bt r ∧ toL r = gen t ∧ r.length = 1 + 14 * t
  | 0, i, all, hi, hb, hS, hl => by
    have : i = t := by omega
    subst this
    refine ⟨all, Evt.of 0 fun k hk => ?_, hb, hS, hl⟩
    obtain ⟨k, rfl⟩ := fuel hk
    have e1 : wrap64 (2 * (i : Int)) = ((2 * i : Nat) : Int) := by rw [w64 (by omega) (by omega)]; omega
    rw [casemateref05_generator.l0, e1, if_neg (by clear e1; omega)]
  | e + 1, i, all, hi, hb, hS, hl => by
    have e1 : wrap64 (2 * (t : Int)) = ((2 * t : Nat) : Int) := by rw [w64 (by omega) (by omega)]; omega
    have e2 : wrap64 (((2 * i + 1 : Nat) : Int) + 2) = ((2 * (i + 1) + 1 : Nat) : Int) := by rw [w64 (by omega) (by omega)]; omega
    have hlift : lins (conj (pw w (2 * i + 1)) 13) = lift (mp (pw w (2 * i + 1))) := by
      rw [lift_mp]; unfold cj; rw [if_neg (w_odd_ne (by clear e1 e2; omega))]
    have hbits : ∀ q, El q → toS q = lins (conj (pw w (2 * i + 1)) 13) → Bt q ∧ toL q = mp (pw w (2 * i + 1)) := fun q h1 h2 => Bt.of (mp (pw w (2 * i + 1))).c fun j => by
      rw [el_gi h1, h2, hlift, lift_c]
      cases (mp (pw w (2 * i + 1))).c j <;> rfl
    let qx := ofS (lins (conj (pw w (2 * i + 1)) 13)) 14
    have hbd : Bd (lins (conj (pw w (2 * i + 1)) 13)) 14 := by
      have := lins_bd (conj (pw w (2 * i + 1)) 13)
      rwa [conj_length] at this
    have hq1 : El qx := ofS_El _ _
    have hq2 : qx.length = 14 := ofS_length _ _
    have hq3 : toS qx = lins (conj (pw w (2 * i + 1)) 13) := toS_ofS hbd
    obtain ⟨hq4, hq5⟩ := hbits qx hq1 hq3
    obtain ⟨m, m1, m2, m3, m4⟩ := r4_Mul hb hq4 (by clear e1 e2; omega) (by clear e1 e2; omega)
    obtain ⟨r, r1, r2, r3, r4⟩ := g5_l0 h8 e (i + 1) m (by clear e1 e2; omega) m2 (by rw [m3, hS, hq5]; rfl) (by rw [m4, hl, hq2]; clear e1 e2; omega)
    refine ⟨r, ?_, r2, r3, r4⟩
    obtain ⟨K, hK⟩ := m1.and r1
    refine Evt.of (1400 + K + 100) fun k hk => ?_
    obtain ⟨k, rfl⟩ := fuel hk
    rw [casemateref05_generator.l0, e1, if_pos (by clear e1 e2; omega), r2_Exp _ (by clear e1 e2; omega), Option.bind_some, ex_small (by clear e1 e2; omega)]
    have := g5_l1 (t : Int) all ((2 * i + 1 : Nat) : Int) (pw w (2 * i + 1)) (some r) K (fun q h1 h2 h3 k hk => by
      have hqq : q = qx := el_ext h1 hq1 (h2.trans hq2.symm) (h3.trans hq3.symm)
      subst hqq
      rw [(hK k hk).1, Option.bind_some, e2]
      exact (hK k hk).2) 13 0 k [1] (by omega) one_S.1 rfl (by rw [one_S.2]; rfl) (by clear e1 e2; omega)
    rw [show (2 : Nat) ^ 0 = 1 from rfl, pw_one] at this
    exact this
theorem r5_generator {t : Nat} (h8 : t ≤ 8) : ∃ r, (Evt fun k => casemateref05_generator.f k (t : Int) = some r) ∧ Bt r ∧ toL r = gen t ∧ r.length = 1 + 14 * t := by
  obtain ⟨r, r1, r2, r3, r4⟩ := g5_l0 h8 t 0 [1] (by omega) Bt.one.1 Bt.one.2 rfl
  exact ⟨r, r1, r2, r3, r4⟩
theorem r5_padded {l : List Int} {n : Nat} (h : l.length = n) : Evt fun k => casemateref05_padded.f k l (n : Int) = some l := Evt.of 0 fun k hk => by
  obtain ⟨k, rfl⟩ := fuel hk
  unfold casemateref05_padded.f
  rw [casemateref05_padded.l0, if_neg (by omega)]
theorem r5_Encode {t : Nat} (h1 : 1 ≤ t) (h8 : t ≤ 8) {d m : List Int} (hd : Byt d) (hd1 : 1 ≤ d.length) (hd2 : d.length ≤ 512) (hm : Enc t d m) : Evt fun k => casemateref05_Encode.f k (t : Int) d = some m := by
  have hz : Wok t d (List.replicate (mb t) 0) := ⟨h1, h8, hd, Byt.zeros _, hd1, hd2, by simp⟩
  have hwl := hz.wl_le
  have hzw : wd t d (List.replicate (mb t) 0) = pw XX (13 * t) * toB d := by
    rw [wd_eq (fun j _ => by have := congrArg (fun f => f.c j) (toB_zeros (mb t)); exact this), toB_zeros, r_zero_add]
  obtain ⟨g, g1, g2, g3, g4⟩ := r5_generator h8
  obtain ⟨v, v1, v2, v3, v4⟩ := r4_Mod (wlist_bt t d (List.replicate (mb t) 0)).1 g2 (by rw [wlist_length]; omega) (by omega) (d := 13 * t) (by rw [g3]; exact gen_top h8) (by rw [g3]; exact gen_bd h8)
  rw [(wlist_bt t d (List.replicate (mb t) 0)).2, hzw, g3] at v3
  rw [wlist_length] at v4
  have hvm : toL v = toB m := Rest.unique (gen_top h8) (gen_bd h8) v3 hm.rest
  have hvl : 13 * t ≤ v.length := by rw [v4]; unfold wl; omega
  have htl : (v.take (13 * t)).length = 13 * t := by rw [List.length_take]; omega
  have hget : ∀ i, i < (v.take (13 * t)).length → (v.take (13 * t)).getD i 0 = b2i (bitAt m i) := fun i hi => by
    rw [List.getD_eq_getElem?_getD, List.getElem?_take, if_pos (by omega), ← List.getD_eq_getElem?_getD, v2 i, hvm]; rfl
  have hput : ∀ k, 10 * (13 * t) < k → casemateref01_Put.f k (v.take (13 * t)) = some m := fun k hk => by
    obtain ⟨r, r1, r2, r3, r4⟩ := r1_Put (fun i => bitAt m i) hget (by rw [htl]; omega) (k := k) (by rw [htl]; exact hk)
    rw [r1]
    congr 1
    refine byt_ext r3 hm.byt (by rw [r2, htl, hm.len]; rfl) fun j hj => ?_
    rw [r4 j, htl]
    by_cases hj2 : j < 13 * t
    · rw [decide_eq_true hj2, Bool.true_and]
    · rw [decide_eq_false hj2, Bool.false_and, hm.up j (by omega)]
  have e1 : wrap64 (13 * (t : Int)) = ((13 * t : Nat) : Int) := by rw [w64 (by omega) (by omega)]; omega
  have hmbl := mb_lt t
  refine (((r5_Word hz).and g1).and ((v1.and (r5_padded hm.len)).and (Evt.of (10 * (13 * t)) fun k hk => hput k hk))).mono fun k ⟨⟨k1, k2⟩, ⟨k3, k4⟩, k5⟩ => ?_
  unfold casemateref05_Encode.f
  rw [r5_Bytes h8, Option.bind_some, if_pos (by clear e1; omega), Int.toNat_natCast, if_pos (by clear e1; omega), k1, Option.bind_some, k2, Option.bind_some, k3, Option.bind_some, e1, if_pos (by clear e1; omega), if_pos (by clear e1; omega), Int.toNat_natCast, k5, Option.bind_some, Option.bind_some, k4, Option.bind_some]
end Go.Proofs.Ytfpdloccmneabaa.L

/- What the functions of layer 5 (bch) and of its reference come to: words as polynomials of bits. Conditions: t from 1 to 8, rows of bytes no longer than the statements let in. -/
import Derived.Test.YtfpdloccmneabaaL4
import Derived.Test.YtfpdloccmneabaaPx0
import Derived.Test.YtfpdloccmneabaaPx6
import Derived.Test.YtfpdloccmneabaaPx20
set_option linter.unusedVariables false
set_option linter.unusedSimpArgs false
namespace Go.Proofs.Ytfpdloccmneabaa.L
open Go Go.RowKit Go.Proofs.Ytfpdloccmneabaa.P Go.Proofs.YtfpdloccmneabaaW.PrintWords Go.Proofs.YtfpdloccmneabaaW.PrintLast Go.Proofs.YtfpdloccmneabaaW.PrintMore Go.Proofs.CsM
/-- How many more bytes there are. -/
def mb (t : Nat) : Nat := (13 * t + 7) / 8
theorem mb_ge (t : Nat) : 13 * t ≤ 8 * mb t := by unfold mb; omega
theorem mb_lt (t : Nat) : 8 * mb t < 13 * t + 8 := by unfold mb; omega
theorem c_Bits {t : Nat} (h1 : 1 ≤ t) (h8 : t ≤ 8) : bch_Bits.f (t : Int) = some (((13 * t : Nat) : Int), 0) := by
  unfold bch_Bits.f
  rw [if_neg (by omega), if_neg (by omega), w64 (by omega) (by omega)]
  congr 2
theorem c_size {t : Nat} (h1 : 1 ≤ t) (h8 : t ≤ 8) {d : List Int} (hd : 1 ≤ d.length) (hd' : d.length ≤ 512) : bch_size.f (t : Int) d = some ((mb t : Int), 0) := by
  unfold bch_size.f
  rw [c_Bits h1 h8, Option.bind_some, if_pos rfl, if_neg (by omega), if_neg (by omega)]
  have e : wrap64 (((13 * t : Nat) : Int) + 7) = ((13 * t + 7 : Nat) : Int) := by rw [w64 (by omega) (by omega)]; omega
  show some (wrap64 (Int.tdiv (wrap64 (((13 * t : Nat) : Int) + 7)) 8), (0 : Int)) = _
  rw [e, tdv 8 (by omega), w64 (by omega) (by omega)]
  unfold mb
  congr 2
/-- A word's coefficients. -/
def wd (t : Nat) (d m : List Int) : Ser Bool := ⟨fun i => if i < 13 * t then bitAt m i else bitAt d (i - 13 * t)⟩
def wl (t : Nat) (d : List Int) : Nat := 13 * t + 8 * d.length
theorem wd_bd (t : Nat) (d m : List Int) : Bd (wd t d m) (wl t d) := fun i hi => by
  show (if i < 13 * t then bitAt m i else bitAt d (i - 13 * t)) = false
  unfold wl at hi
  rw [if_neg (by omega)]
  exact bitAt_out (by omega)
/-- A word that may be. -/
structure Wok (t : Nat) (d m : List Int) : Prop where
  t1 : 1 ≤ t
  t8 : t ≤ 8
  hd : Byt d
  hm : Byt m
  d1 : 1 ≤ d.length
  d512 : d.length ≤ 512
  ml : m.length = mb t
theorem Wok.wl_le {t : Nat} {d m : List Int} (h : Wok t d m) : wl t d ≤ 4200 ∧ 21 ≤ wl t d := by
  have := h.t8; have := h.t1; have := h.d512; have := h.d1
  unfold wl
  omega
theorem c_len {t : Nat} {d m : List Int} (h : Wok t d m) : bch_word_len.f (t : Int) d m = some ((wl t d : Int), (t : Int)) := by
  have := h.t8; have := h.d512
  unfold bch_word_len.f
  have e1 : wrap64 (13 * (t : Int)) = ((13 * t : Nat) : Int) := by rw [w64 (by omega) (by omega)]; omega
  have e2 : wrap64 (8 * (d.length : Int)) = ((8 * d.length : Nat) : Int) := by rw [w64 (by omega) (by omega)]; omega
  rw [e1, e2, cst_add (by omega)]
  rfl
theorem bit_read {l : List Int} (hl : Byt l) {i : Nat} (hi : i < 8 * l.length) : (Go.bits .and .u8 (shr .u8 (l.getD (i / 8) 0) ((i % 8 : Nat) : Int)) 1 == 1) = bitAt l i := by
  have hb := hl.get (i / 8)
  rw [shr_u8 _ _ hb.1 (by omega)]
  have hs : (l.getD (i / 8) 0).toNat >>> (i % 8) < 256 := by
    rw [Nat.shiftRight_eq_div_pow]; have := Nat.div_le_self (l.getD (i / 8) 0).toNat (2 ^ (i % 8)); omega
  rw [u8_and _ _ (Int.natCast_nonneg _) (by omega) (by omega) (by omega), Int.toNat_natCast]
  unfold bitAt
  rw [Nat.testBit_eq_decide_div_mod_eq, Nat.shiftRight_eq_div_pow, show Int.toNat 1 = 1 from rfl, Nat.and_one_is_mod]
  rcases Nat.mod_two_eq_zero_or_one ((l.getD (i / 8) 0).toNat / 2 ^ (i % 8)) with h | h <;> rw [h] <;> rfl
theorem c_at {t : Nat} {d m : List Int} (h : Wok t d m) {i : Nat} (hi : i < wl t d) : bch_word_at.f (t : Int) d m (i : Int) = some ((wd t d m).c i, (t : Int)) := by
  have h8 := h.t8; have hd := h.d512; have hml := h.ml; have hge := mb_ge t
  have e1 : wrap64 (13 * (t : Int)) = ((13 * t : Nat) : Int) := by rw [w64 (by omega) (by omega)]; omega
  unfold wl at hi
  show _ = some ((if i < 13 * t then bitAt m i else bitAt d (i - 13 * t)), _)
  unfold bch_word_at.f
  rw [e1]
  by_cases hlt : i < 13 * t
  · have e2 : wrap64 ((i : Int) - ((13 * t : Nat) : Int)) = (i : Int) - ((13 * t : Nat) : Int) := w64 (by omega) (by omega)
    rw [e2, if_neg (by omega), if_pos hlt, cst_ed (by omega), cst_et, if_pos (by omega), if_pos (by omega), if_pos (by omega), rd_nat, bit_read h.hm (by omega)]
  · rw [cst_sub (by omega) (by omega), if_pos (by omega), if_neg hlt, cst_ed (by omega), cst_et, if_pos (by omega), if_pos (by omega), if_pos (by omega), rd_nat, bit_read h.hd (by omega)]
theorem c_mul (a b : GF) {k : Nat} (hk : 13 < k) : bch_mul.f k (gi a) (gi b) = some (gi (a * b)) := by
  unfold bch_mul.f
  rw [g_Mul a b hk, Option.bind_some]
/-- One value. -/
theorem c_sums_l1 {t : Nat} {d m : List Int} (h : Wok t d m) (x : GF) (x3 : List Int) (x4 x15 x16 : Int) (R : Option (List Int × Int)) (K : Nat)
    (hR : ∀ k, K ≤ k → (if 0 ≤ x4 then (if x4 < (x3.length : Int) then bch_word_sums.l0 k (x3.set x4.toNat (gi (vb (wd t d m) (wl t d) x))) x15 (wrap64 (x16 + 1)) (t : Int) d m else none) else none) = R) :
    ∀ (i k : Nat), i ≤ wl t d → i + 14 + K < k → bch_word_sums.l1 k x3 x4 (gi x) (gi (tv (wd t d m) (wl t d) i x)) ((i : Int) - 1) x15 x16 (t : Int) d m = R
  | 0, k, hi, hk => by
    obtain ⟨k, rfl⟩ := fuel hk
    rw [bch_word_sums.l1, if_neg (by omega), tv_all]
    exact hR k (by omega)
  | i + 1, k, hi, hk => by
    obtain ⟨k, rfl⟩ := fuel hk
    have hw := h.wl_le.1
    have hat := c_at h (show i < wl t d by omega)
    have ej : ((i + 1 : Nat) : Int) - 1 = (i : Int) := by omega
    have ew : wrap64 ((i : Int) - 1) = (i : Int) - 1 := w64 (by omega) (by omega)
    have c1 : (i : Int) ≥ 0 := Int.natCast_nonneg _
    have hk2 := c_sums_l1 h x x3 x4 x15 x16 R K hR i k (by clear ew; omega) (by clear ew; omega)
    have hst := tv_step (wd t d m) (show i < wl t d by clear ew; omega) x
    rw [bch_word_sums.l1, ej, if_pos c1, c_mul _ _ (by clear ew; omega), Option.bind_some, hat, Option.bind_some, ew]
    show (if (wd t d m).c i = true then bch_word_sums.l1 k x3 x4 (gi x) (Go.bits .xor .i64 (gi (tv (wd t d m) (wl t d) (i + 1) x * x)) 1) _ x15 x16 (t : Int) d m else bch_word_sums.l1 k x3 x4 (gi x) (gi (tv (wd t d m) (wl t d) (i + 1) x * x)) _ x15 x16 (t : Int) d m) = _
    by_cases hb : (wd t d m).c i = true
    · rw [if_pos hb, ← gi_one, xor_gi, ← hk2, hst, hb]; rfl
    · rw [if_neg hb, ← hk2, hst, Bool.eq_false_iff.2 hb]
      show _ = bch_word_sums.l1 k x3 x4 (gi x) (gi (_ + 0)) _ x15 x16 (t : Int) d m
      rw [R2.add_zero]
/-- The sums. -/
def sml (t : Nat) (f : Ser Bool) (n : Nat) : List Int := (List.range (2 * t)).map fun j => gi (vb f n (pw w (j + 1)))
theorem sml_length (t : Nat) (f : Ser Bool) (n : Nat) : (sml t f n).length = 2 * t := by simp [sml]
theorem sml_get (t : Nat) (f : Ser Bool) (n : Nat) {j : Nat} (h : j < 2 * t) : (sml t f n).getD j 0 = gi (vb f n (pw w (j + 1))) := by simp [sml, h]
theorem ex_small {n : Nat} (h : n < 8191) : ex (n : Int) = n := by rw [ex_nat]; exact Nat.mod_eq_of_lt h
theorem c_sums_l0 {t : Nat} {d m : List Int} (h : Wok t d m) : ∀ (e j : Nat) (x : List Int), j + e = 2 * t → x.length = 2 * t → (∀ i, i < j → x.getD i 0 = (sml t (wd t d m) (wl t d)).getD i 0) →
    Evt fun k => bch_word_sums.l0 k x ((2 * t : Nat) : Int) (j : Int) (t : Int) d m = some (sml t (wd t d m) (wl t d), (t : Int))
  | 0, j, x, hj, hx, he => Evt.of 0 fun k hk => by
    obtain ⟨k, rfl⟩ := fuel hk
    rw [bch_word_sums.l0, if_neg (by omega)]
    congr 2
    apply List.ext_getElem (by rw [sml_length, hx])
    intro i h1 h2
    have := he i (by omega)
    rwa [List.getD_eq_getElem?_getD, List.getElem?_eq_getElem h1, List.getD_eq_getElem?_getD, List.getElem?_eq_getElem h2] at this
  | e + 1, j, x, hj, hx, he => by
    have h8 := h.t8
    have hw := h.wl_le
    have ih := c_sums_l0 h e (j + 1) (x.set j (gi (vb (wd t d m) (wl t d) (pw w (j + 1))))) (by omega) (by rw [List.length_set, hx]) (fun i hi => by
      rw [getD_set _ _ _ _ (by omega)]
      by_cases hij : j = i
      · rw [if_pos hij, ← hij, sml_get _ _ _ (by omega)]
      · rw [if_neg hij]; exact he i (by omega))
    obtain ⟨K, hK⟩ := ih
    refine Evt.of (wl t d + 100 + K) fun k hk => ?_
    obtain ⟨k, rfl⟩ := fuel hk
    have ew : wrap64 ((j : Int) + 1) = ((j + 1 : Nat) : Int) := by rw [w64 (by omega) (by omega)]; omega
    have el : wrap64 ((wl t d : Int) - 1) = (wl t d : Int) - 1 := w64 (by omega) (by omega)
    rw [bch_word_sums.l0, if_pos (by omega), ew, g_Exp _ (by omega) (by omega) (by omega), Option.bind_some, c_len h, Option.bind_some]
    show bch_word_sums.l1 k x (j : Int) (gi (pw w (ex ((j + 1 : Nat) : Int)))) 0 (wrap64 ((wl t d : Int) - 1)) _ (j : Int) (t : Int) d m = _
    rw [el, ex_small (by omega)]
    have := c_sums_l1 h (pw w (j + 1)) x (j : Int) ((2 * t : Nat) : Int) (j : Int) (some (sml t (wd t d m) (wl t d), (t : Int))) K (fun k' hk' => by
      rw [if_pos (by omega), if_pos (by omega), ew, Int.toNat_natCast]
      exact hK k' hk') (wl t d) k (Nat.le_refl _) (by clear ew el; omega)
    rw [tv_end] at this
    exact this
theorem c_sums {t : Nat} {d m : List Int} (h : Wok t d m) : Evt fun k => bch_word_sums.f k (t : Int) d m = some (sml t (wd t d m) (wl t d), (t : Int)) := by
  have h8 := h.t8
  have e1 : wrap64 (2 * (t : Int)) = ((2 * t : Nat) : Int) := by rw [w64 (by omega) (by omega)]; omega
  refine (c_sums_l0 h (2 * t) 0 (List.replicate (2 * t) 0) (by omega) (by simp) (fun i hi => absurd hi (by omega))).mono fun k hk => ?_
  unfold bch_word_sums.f
  rw [e1, if_pos (by omega), if_pos (by omega), Option.bind_some, Int.toNat_natCast, List.length_replicate]
  exact hk
theorem andnot_check : allb (fun c => let r := Go.bits .andNot .u8 ((c % 256 : Nat) : Int) (shl .u8 1 ((c / 256 : Nat) : Int)); decide (0 ≤ r) && decide (r < 256) && allb (fun i => r.toNat.testBit i == ((c % 256).testBit i && !(i == c / 256))) 3 0) 11 0 = true := by decide +kernel
theorem andnot_u8 {x : Int} (hx : 0 ≤ x ∧ x < 256) {j : Nat} (hj : j < 8) : (0 ≤ Go.bits .andNot .u8 x (shl .u8 1 (j : Int)) ∧ Go.bits .andNot .u8 x (shl .u8 1 (j : Int)) < 256) ∧ ∀ i, i < 8 → (Go.bits .andNot .u8 x (shl .u8 1 (j : Int))).toNat.testBit i = (x.toNat.testBit i && !(i == j)) := by
  obtain ⟨a, rfl⟩ := Int.eq_ofNat_of_zero_le hx.1
  have h := allb_sound 11 0 andnot_check (a + 256 * j) (Nat.zero_le _) (by omega)
  rw [show (a + 256 * j) % 256 = a from by omega, show (a + 256 * j) / 256 = j from by omega] at h
  simp only [Bool.and_eq_true, decide_eq_true_eq] at h
  refine ⟨h.1, fun i hi => ?_⟩
  have := allb_sound 3 0 h.2 i (Nat.zero_le _) (by omega)
  rw [Int.toNat_natCast]
  exact eq_of_beq this
/-- Bits cleared, one by one. -/
def clrN : Nat → Nat → List Int → List Int
  | 0, _, m => m
  | e + 1, i, m => clrN e (i + 1) (m.set (i / 8) (Go.bits .andNot .u8 (m.getD (i / 8) 0) (shl .u8 1 ((i % 8 : Nat) : Int))))
theorem clrN_is : ∀ (e i : Nat) (m : List Int), Byt m → i + e ≤ 8 * m.length → Byt (clrN e i m) ∧ (clrN e i m).length = m.length ∧ ∀ j, bitAt (clrN e i m) j = (bitAt m j && !(decide (i ≤ j) && decide (j < i + e)))
  | 0, i, m, hm, h => ⟨hm, rfl, fun j => by
    show bitAt m j = _
    rw [show (decide (i ≤ j) && decide (j < i + 0)) = false from by rw [Bool.and_eq_false_iff, decide_eq_false_iff_not, decide_eq_false_iff_not]; omega]
    simp⟩
  | e + 1, i, m, hm, h => by
    have hb := hm.get (i / 8)
    obtain ⟨h1, h2⟩ := andnot_u8 hb (show i % 8 < 8 by omega)
    have hl : i / 8 < m.length := by omega
    obtain ⟨a, b, c⟩ := clrN_is e (i + 1) (m.set (i / 8) (Go.bits .andNot .u8 (m.getD (i / 8) 0) (shl .u8 1 ((i % 8 : Nat) : Int)))) (hm.set _ h1) (by rw [List.length_set]; omega)
    refine ⟨a, by rw [List.length_set] at b; exact b, fun j => ?_⟩
    show bitAt (clrN e (i + 1) _) j = _
    rw [c j]
    unfold bitAt
    rw [getD_set _ _ _ _ hl]
    by_cases hj : i / 8 = j / 8
    · rw [if_pos hj, h2 (j % 8) (by omega), ← hj]
      by_cases hij : j = i
      · subst hij
        rw [show (decide (j ≤ j) && decide (j < j + (e + 1))) = true from by simp]
        simp
      · rw [show (j % 8 == i % 8) = false from beq_eq_false_iff_ne.2 (by omega), show (decide (i + 1 ≤ j) && decide (j < i + 1 + e)) = (decide (i ≤ j) && decide (j < i + (e + 1))) from by
          rw [show decide (i + 1 ≤ j) = decide (i ≤ j) from decide_eq_decide.2 (by omega), show decide (j < i + 1 + e) = decide (j < i + (e + 1)) from decide_eq_decide.2 (by omega)]]
        simp
    · rw [if_neg hj, show (decide (i + 1 ≤ j) && decide (j < i + 1 + e)) = (decide (i ≤ j) && decide (j < i + (e + 1))) from by
          rw [show decide (i + 1 ≤ j) = decide (i ≤ j) from decide_eq_decide.2 (by omega), show decide (j < i + 1 + e) = decide (j < i + (e + 1)) from decide_eq_decide.2 (by omega)]]
theorem c_nwL {n : Nat} (hn : n ≤ 1000) : ∀ (e i k : Nat) (m : List Int), i + e = 8 * n → m.length = n → e < k → nwL k (n : Int) m (i : Int) = some (clrN e i m)
  | 0, i, k, m, hi, hm, hk => by
    obtain ⟨k, rfl⟩ := fuel hk
    have e1 : wrap64 (8 * (n : Int)) = ((8 * n : Nat) : Int) := by rw [w64 (by omega) (by omega)]; omega
    rw [nwL, e1, if_neg (by omega)]; rfl
  | e + 1, i, k, m, hi, hm, hk => by
    obtain ⟨k, rfl⟩ := fuel hk
    have e1 : wrap64 (8 * (n : Int)) = ((8 * n : Nat) : Int) := by rw [w64 (by omega) (by omega)]; omega
    have e2 : wrap64 ((i : Int) + 1) = ((i + 1 : Nat) : Int) := by rw [w64 (by omega) (by omega)]; omega
    rw [nwL, e1, if_pos (by omega), cst_ed (by omega), cst_et, if_pos (by omega), if_pos (by omega), if_pos (by omega), rd_nat, Int.toNat_natCast, e2]
    exact c_nwL hn e (i + 1) k _ (by omega) (by rw [List.length_set]; exact hm) (by omega)
/-- The more bytes without what stands above them. -/
def clr (t : Nat) (m : List Int) : List Int := clrN (8 * mb t - 13 * t) (13 * t) m
theorem clr_is {t : Nat} {m : List Int} (hm : Byt m) (hl : m.length = mb t) : Byt (clr t m) ∧ (clr t m).length = mb t ∧ ∀ j, bitAt (clr t m) j = (bitAt m j && decide (j < 13 * t)) := by
  have hg := mb_ge t
  obtain ⟨a, b, c⟩ := clrN_is (8 * mb t - 13 * t) (13 * t) m hm (by omega)
  refine ⟨a, b.trans hl, fun j => ?_⟩
  show bitAt (clrN _ _ m) j = _
  rw [c j]
  by_cases h1 : j < 8 * mb t
  · congr 1
    rw [Bool.eq_iff_iff, Bool.not_eq_true', Bool.and_eq_false_iff, decide_eq_false_iff_not, decide_eq_false_iff_not, decide_eq_true_iff]; omega
  · rw [bitAt_out (by omega), Bool.false_and, Bool.false_and]
theorem clr_wd {t : Nat} {d m : List Int} (h : Wok t d m) : Wok t d (clr t m) ∧ wd t d (clr t m) = wd t d m := by
  obtain ⟨a, b, c⟩ := clr_is h.hm h.ml
  refine ⟨⟨h.t1, h.t8, h.hd, a, h.d1, h.d512, b⟩, Ser.ext fun i => ?_⟩
  show (if i < 13 * t then bitAt (clr t m) i else _) = if i < 13 * t then bitAt m i else _
  by_cases hi : i < 13 * t
  · rw [if_pos hi, if_pos hi, c, decide_eq_true hi, Bool.and_true]
  · rw [if_neg hi, if_neg hi]
theorem c_clone {l : List Int} (h1 : 0 < l.length) (h2 : l.length ≤ 1000000) : clone l = some l := by
  unfold clone; rw [if_pos h1, if_pos h2]
theorem c_newW {t : Nat} {d m : List Int} (h : Wok t d m) : Evt fun k => newW k (t : Int) d m = some (some (clr t m)) := Evt.of 8 fun k hk => by
  have h8 := h.t8; have h1 := h.t1; have hd := h.d512; have hd1 := h.d1; have hml := h.ml; have hg := mb_ge t; have hlt := mb_lt t
  have e1 : wrap64 (13 * (t : Int)) = ((13 * t : Nat) : Int) := by rw [w64 (by omega) (by omega)]; omega
  unfold newW
  rw [c_size h.t1 h.t8 h.d1 h.d512, Option.bind_some]
  show (if (0 : Int) = 0 then (if (m.length : Int) = (mb t : Int) then _ else _) else _) = _
  rw [if_pos rfl, if_pos (by rw [hml]), c_clone (by omega) (by omega), Option.bind_some, c_clone (by omega) (by omega), Option.bind_some]
  show (nwL k (mb t : Int) m (wrap64 (13 * (t : Int)))).bind _ = _
  rw [e1, c_nwL (by omega) (8 * mb t - 13 * t) (13 * t) k m (by omega) hml (by omega), Option.bind_some]
  rfl
theorem c_flip1 {l : List Int} (hl : Byt l) (hn : l.length ≤ 1000000) {p : Nat} (hp : p < 8 * l.length) : flip1 l (p : Int) = some (flipb l p) := by
  have hb := hl.get (p / 8)
  have hpw := pow8 (show p % 8 < 8 by omega)
  have hq : (0 : Int) ≤ ((2 ^ (p % 8) : Nat) : Int) ∧ ((2 ^ (p % 8) : Nat) : Int) < 256 := by generalize 2 ^ (p % 8) = q at hpw ⊢; omega
  unfold flip1
  rw [cst_ed (by omega), cst_et, if_pos (by omega), if_pos (by omega), if_pos (by omega), rd_nat, Int.toNat_natCast, one_shl _ (by omega), u8_xor _ _ hb.1 hb.2 hq.1 hq.2, Int.toNat_natCast]
  rfl
theorem c_flip {t : Nat} {d m : List Int} (h : Wok t d m) {i : Nat} (hi : i < wl t d) : ∃ d' m', flipL (t : Int) d m (i : Int) = some (d', m') ∧ Wok t d' m' ∧ d'.length = d.length ∧ wd t d' m' = wd t d m + mono i true ∧ ∀ j, 13 * t ≤ j → bitAt m' j = bitAt m j := by
  have h8 := h.t8; have hd := h.d512; have hml := h.ml; have hge := mb_ge t
  have e1 : wrap64 (13 * (t : Int)) = ((13 * t : Nat) : Int) := by rw [w64 (by omega) (by omega)]; omega
  unfold wl at hi
  have hc : ∀ (a b : Bool) (j : Nat), (a ^^ b) = a + b := fun _ _ _ => rfl
  unfold flipL
  rw [e1]
  by_cases hlt : i < 13 * t
  · have e2 : wrap64 ((i : Int) - ((13 * t : Nat) : Int)) = (i : Int) - ((13 * t : Nat) : Int) := w64 (by omega) (by omega)
    have hp : i < 8 * m.length := by omega
    rw [e2, if_neg (by omega), c_flip1 h.hm (by have := mb_lt t; omega) hp, Option.bind_some]
    refine ⟨_, _, rfl, ⟨h.t1, h.t8, h.hd, flipb_byt h.hm _, h.d1, h.d512, by rw [flipb_length]; exact hml⟩, rfl, Ser.ext fun j => ?_, fun j hj => ?_⟩
    · rw [add_c, mono_c]
      show (if j < 13 * t then bitAt (flipb m i) j else bitAt d (j - 13 * t)) = (if j < 13 * t then bitAt m j else bitAt d (j - 13 * t)) + (decide (j = i) && true)
      rw [Bool.and_true, bitAt_flipb hp]
      by_cases hj : j < 13 * t
      · rw [if_pos hj, if_pos hj]; rfl
      · rw [if_neg hj, if_neg hj, decide_eq_false (show ¬ j = i by omega)]; exact (R2.add_zero _).symm
    · rw [bitAt_flipb hp, decide_eq_false (by omega), Bool.xor_false]
  · have hp : i - 13 * t < 8 * d.length := by omega
    rw [cst_sub (by omega) (by omega), if_pos (by omega), c_flip1 h.hd (by omega) hp, Option.bind_some]
    refine ⟨_, _, rfl, ⟨h.t1, h.t8, flipb_byt h.hd _, h.hm, by rw [flipb_length]; exact h.d1, by rw [flipb_length]; exact hd, hml⟩, flipb_length _ _, Ser.ext fun j => ?_, fun j hj => rfl⟩
    rw [add_c, mono_c]
    show (if j < 13 * t then bitAt m j else bitAt (flipb d (i - 13 * t)) (j - 13 * t)) = (if j < 13 * t then bitAt m j else bitAt d (j - 13 * t)) + (decide (j = i) && true)
    rw [Bool.and_true, bitAt_flipb hp]
    by_cases hj : j < 13 * t
    · rw [if_pos hj, if_pos hj, decide_eq_false (show ¬ j = i by omega)]; exact (R2.add_zero _).symm
    · rw [if_neg hj, if_neg hj, show decide (j - 13 * t = i - 13 * t) = decide (j = i) from decide_eq_decide.2 (by omega)]; rfl
theorem c_Inv {a : GF} (h : a ≠ 0) {k : Nat} (hk : 28 < k) : gf_Inv.f k (gi a) = some (gi (ginv a), 0) := g_Inv a h hk
theorem el_gi {l : List Int} (h : El l) (i : Nat) : l.getD i 0 = gi ((toS l).c i) := by rw [toS_c, gi_gof (h.get i)]
/-- What the rule gives at a place: the terms. -/
def dterm (C S : Ser GF) (n : Nat) (i : Nat) : GF := C.c i * S.c (n - i)
theorem c_loc_l1 {s : List Int} (hs : El s) (hn : s.length ≤ 16) {c b : List Int} (hc : El c) {n L : Nat} (hnl : n < s.length) (hL : L ≤ n) (hcb : Bd (toS c) (L + 1)) (hcl : c.length ≤ 100) (h last : Int) (R : Option (List Int)) (K : Nat)
    (hR : ∀ k, K ≤ k → bch_locator.j2 k s c b (L : Int) h last (n : Int) (gi (sm (n + 1) (dterm (toS c) (toS s) n))) (s.length : Int) (n : Int) = R) :
    ∀ (e i k : Nat), i + e = L + 1 → 1 ≤ i → e + 14 + K < k → bch_locator.l1 k s c b (L : Int) h last (n : Int) (gi (sm i (dterm (toS c) (toS s) n))) (i : Int) (s.length : Int) (n : Int) = R
  | 0, i, k, hi, h1, hk => by
    obtain ⟨k, rfl⟩ := fuel hk
    rw [bch_locator.l1, if_neg (by omega), ← hR k (by omega)]
    rw [sm_tail (n := i) (m := n + 1) (by omega) (fun j h2 _ => by unfold dterm; rw [hcb j (by omega), r_zero_mul])]
  | e + 1, i, k, hi, h1, hk => by
    obtain ⟨k, rfl⟩ := fuel hk
    rw [bch_locator.l1, if_pos (by omega)]
    by_cases hlt : i < c.length
    · have e1 : wrap64 ((n : Int) - (i : Int)) = ((n - i : Nat) : Int) := by rw [w64 (by omega) (by omega)]; omega
      have e2 : wrap64 ((i : Int) + 1) = ((i + 1 : Nat) : Int) := by rw [w64 (by omega) (by omega)]; omega
      rw [if_pos (by clear e1 e2; omega), if_pos (by clear e1 e2; omega), e1, if_pos (by clear e1 e2; omega), if_pos (by clear e1 e2; omega), rd_nat, rd_nat, el_gi hc, el_gi hs, c_mul _ _ (by clear e1 e2; omega), Option.bind_some, xor_gi, e2]
      have := c_loc_l1 hs hn (b := b) hc hnl hL hcb hcl h last R K hR e (i + 1) k (by clear e1 e2; omega) (by clear e1 e2; omega) (by clear e1 e2; omega)
      rw [sm_succ] at this
      exact this
    · rw [if_neg (by omega), ← hR k (by omega)]
      rw [sm_tail (n := i) (m := n + 1) (by omega) (fun j h2 _ => by unfold dterm; rw [toS_bd c j (by omega), r_zero_mul])]
/-- Noughts appended. -/
theorem toS_app (c : List Int) (e : Nat) : toS (c ++ List.replicate e 0) = toS c := Ser.ext fun i => by
  rw [toS_c, toS_c]
  congr 1
  rw [List.getD_eq_getElem?_getD, List.getD_eq_getElem?_getD, List.getElem?_append]
  by_cases h : i < c.length
  · rw [if_pos h]
  · rw [if_neg h, List.getElem?_eq_none (show c.length ≤ i by omega), List.getElem?_replicate]
    split <;> rfl
theorem c_loc_l2 {s b : List Int} (L last n d by_ : Int) (old : List Int) (x20 x21 : Int) {h : Nat} (hb : b.length + h ≤ 1000) (R : Option (List Int)) (K : Nat) :
    ∀ (e k : Nat) (c : List Int), 0 < c.length → c.length ≤ 1000 → c.length + e = max c.length (b.length + h) → e + K < k →
    (∀ k, K ≤ k → bch_locator.l3 k s (c ++ List.replicate e 0) b L (h : Int) last n d by_ old x20 x21 b (b.length : Int) 0 = R) →
    bch_locator.l2 k s c b L (h : Int) last n d by_ old x20 x21 = R
  | 0, k, c, h0, hc, he, hk, hR => by
    obtain ⟨k, rfl⟩ := fuel hk
    rw [bch_locator.l2, cst_add (by omega), if_neg (by omega), show slices_Clone_int_int.f c = some c from c_clone h0 (by omega), Option.bind_some]
    have := hR k (by omega)
    rwa [List.replicate_zero, List.append_nil] at this
  | e + 1, k, c, h0, hc, he, hk, hR => by
    obtain ⟨k, rfl⟩ := fuel hk
    rw [bch_locator.l2, cst_add (by omega), if_pos (by omega), if_pos ⟨h0, by omega⟩]
    refine c_loc_l2 L last n d by_ old x20 x21 hb R K e k (c ++ [0]) (by simp) (by rw [List.length_append, List.length_singleton]; omega) (by rw [List.length_append, List.length_singleton]; omega) (by omega) fun k' hk' => ?_
    rw [List.append_assoc, show [(0 : Int)] ++ List.replicate e 0 = List.replicate (e + 1) 0 from rfl]
    exact hR k' hk'
theorem sset (l : List Int) {i : Nat} (hi : i < l.length) (v : GF) : toS (l.set i (gi v)) = toS l + ⟨fun j => if j = i then v + (toS l).c i else 0⟩ := Ser.ext fun j => by
  rw [toS_c, getD_set _ _ _ _ hi, add_c]
  show _ = _ + (if j = i then v + (toS l).c i else 0)
  by_cases h : i = j
  · subst h; rw [if_pos rfl, if_pos rfl, gof_gi, R2.add_comm v, r_add_cancel_left]
  · rw [if_neg h, if_neg (fun e => h e.symm), R2.add_zero, toS_c]
/-- b's first i numbers, each so many times, laid from h on. -/
def part (B : Ser GF) (y : GF) (h i : Nat) : Ser GF := ⟨fun j => if h ≤ j ∧ j < h + i then y * B.c (j - h) else 0⟩
theorem part_all {B : Ser GF} {m : Nat} (hB : Bd B m) (y : GF) (h : Nat) : part B y h m = pw XX h * (cst y * B) := Ser.ext fun j => by
  rw [pwXX_c, cst_mul_c]
  show (if h ≤ j ∧ j < h + m then y * B.c (j - h) else 0) = _
  by_cases h1 : h ≤ j
  · rw [if_pos h1]
    by_cases h2 : j < h + m
    · rw [if_pos ⟨h1, h2⟩]
    · rw [if_neg (fun e => h2 e.2), hB (j - h) (by omega), r_mul_zero]
  · rw [if_neg (fun e => h1 e.1), if_neg h1]
theorem part_succ (B : Ser GF) (y : GF) (h i : Nat) : part B y h (i + 1) = part B y h i + ⟨fun j => if j = i + h then y * B.c i else 0⟩ := Ser.ext fun j => by
  rw [add_c]
  show (if h ≤ j ∧ j < h + (i + 1) then y * B.c (j - h) else 0) = (if h ≤ j ∧ j < h + i then y * B.c (j - h) else 0) + (if j = i + h then y * B.c i else 0)
  by_cases h1 : j = i + h
  · rw [if_pos (by omega), if_neg (by omega), if_pos h1, r_zero_add, show j - h = i from by omega]
  · rw [if_neg h1, R2.add_zero]
    by_cases h2 : h ≤ j ∧ j < h + i
    · rw [if_pos h2, if_pos (by omega)]
    · rw [if_neg h2, if_neg (by omega)]
theorem c_loc_l3 {s b : List Int} (hb : El b) (L last : Int) (n : Nat) (d : Int) (y : GF) (old : List Int) (x20 x21 : Int) {h : Nat} (hbl : b.length + h ≤ 1000) (c1 : List Int) (hc1 : b.length + h ≤ c1.length) (hcl : c1.length ≤ 1000) (R : Option (List Int)) (K : Nat)
    (hR : ∀ c, El c → c.length = c1.length → toS c = toS c1 + pw XX h * (cst y * toS b) → ∀ k, K ≤ k → (if wrap64 (2 * L) ≤ (n : Int) then bch_locator.l0 k s c old (wrap64 (wrap64 ((n : Int) + 1) - L)) 1 d x20 (wrap64 (x21 + 1)) else bch_locator.l0 k s c b L (wrap64 ((h : Int) + 1)) last x20 (wrap64 (x21 + 1))) = R) :
    ∀ (e i k : Nat) (c : List Int), i + e = b.length → El c → c.length = c1.length → toS c = toS c1 + part (toS b) y h i → e + 14 + K < k →
    bch_locator.l3 k s c b L (h : Int) last (n : Int) d (gi y) old x20 x21 b (b.length : Int) (i : Int) = R
  | 0, i, k, c, hi, hc, hl, hS, hk => by
    obtain ⟨k, rfl⟩ := fuel hk
    rw [bch_locator.l3, if_neg (by omega)]
    refine hR c hc hl ?_ k (by omega)
    rw [hS, ← part_all (toS_bd b), show i = b.length from by omega]
  | e + 1, i, k, c, hi, hc, hl, hS, hk => by
    obtain ⟨k, rfl⟩ := fuel hk
    have e2 : wrap64 ((i : Int) + 1) = ((i + 1 : Nat) : Int) := by rw [w64 (by omega) (by omega)]; omega
    rw [bch_locator.l3, if_pos (by clear e2; omega), if_pos (by clear e2; omega), if_pos (by clear e2; omega), cst_add (by clear e2; omega), if_pos (by clear e2; omega), if_pos (by clear e2; omega), rd_nat, rd_nat, el_gi hb, el_gi hc, c_mul _ _ (by clear e2; omega), Option.bind_some, xor_gi, Int.toNat_natCast, e2]
    refine c_loc_l3 hb L last n d y old x20 x21 hbl c1 hc1 hcl R K hR e (i + 1) k _ (by clear e2; omega) (hc.set _ (gi_el _)) (by rw [List.length_set]; exact hl) ?_ (by clear e2; omega)
    rw [sset c (by clear e2; omega), part_succ, hS, R2.add_assoc]
    congr 1
    congr 1
    refine Ser.ext fun j => ?_
    show (if j = i + h then _ else (0 : GF)) = if j = i + h then _ else 0
    by_cases hj : j = i + h
    · rw [if_pos hj, if_pos hj, ← hS, R2.add_comm ((toS c).c (i + h)), r_add_cancel]
    · rw [if_neg hj, if_neg hj]
theorem c_loc_l4 {l : List Int} (hn : l.length ≤ 1000) : ∀ n k, n ≤ l.length → n < k → bch_locator.l4 k (l.take n) = some (l.take (normN l n))
  | 0, k, h, hk => by
    obtain ⟨k, rfl⟩ := fuel hk
    rw [bch_locator.l4, if_neg (by simp)]; rfl
  | n + 1, k, h, hk => by
    obtain ⟨k, rfl⟩ := fuel hk
    have e : (l.take (n + 1)).length = n + 1 := by rw [List.length_take]; omega
    rw [bch_locator.l4]
    rw [e, w64 (by omega) (by omega), show ((n + 1 : Nat) : Int) - 1 = (n : Int) from by omega, if_pos (by omega), if_pos (by omega), if_pos (by omega), rd_nat, show (l.take (n + 1)).getD n 0 = l.getD n 0 from by simp [List.getElem?_take], Int.toNat_natCast, List.take_take, Nat.min_eq_left (by omega)]
    unfold normN
    by_cases h0 : l.getD n 0 = 0
    · rw [if_pos h0, if_pos h0, if_pos (by omega)]; exact c_loc_l4 hn n k (by omega) (by omega)
    · rw [if_neg h0, if_neg h0]
/-- What the rounds come to. -/
structure LocAns (S : Ser GF) (N : Nat) (r : List Int) : Prop where
  el : El r
  fin : P.fin r = r
  ex : ∃ L h B last, BMs S N L h (toS r) B last
theorem c_loc_l0 {s : List Int} (hs : El s) (hn : s.length ≤ 16) : ∀ (e n : Nat), n + e = s.length → ∀ (c b : List Int) (L h : Nat) (last : GF), El c → El b → 0 < c.length → 0 < b.length → c.length ≤ n + 1 → b.length + h ≤ n + 2 → BMs (toS s) n L h (toS c) (toS b) last →
    ∃ r, (Evt fun k => bch_locator.l0 k s c b (L : Int) (h : Int) (gi last) (s.length : Int) (n : Int) = some r) ∧ LocAns (toS s) s.length r
  | 0, n, hne, c, b, L, h, last, hc, hb, hc0, hb0, hcl, hbl, H => by
    refine ⟨P.fin c, Evt.of (c.length + 1) fun k hk => ?_, fin_El hc, fin_fin hc, L, h, toS b, last, by rw [toS_fin]; rw [← show n = s.length from by omega]; exact H⟩
    obtain ⟨k, rfl⟩ := fuel hk
    rw [bch_locator.l0, if_neg (by omega)]
    have := c_loc_l4 (l := c) (by omega) c.length k (Nat.le_refl _) (by omega)
    rwa [List.take_length] at this
  | e + 1, n, hne, c, b, L, h, last, hc, hb, hc0, hb0, hcl, hbl, H => by
    have hnl : n < s.length := by omega
    have hLn := H.hL
    have hd : sm (n + 1) (dterm (toS c) (toS s) n) = (toS c * toS s).c n := by rw [mul_c]; rfl
    have e2 : wrap64 ((n : Int) + 1) = ((n + 1 : Nat) : Int) := by rw [w64 (by omega) (by omega)]; omega
    have eh : wrap64 ((h : Int) + 1) = ((h + 1 : Nat) : Int) := by rw [w64 (by omega) (by omega)]; omega
    have e2L : wrap64 (2 * (L : Int)) = ((2 * L : Nat) : Int) := by rw [w64 (by omega) (by omega)]; omega
    have start : ∀ (R : List Int) (K : Nat), (∀ k, K ≤ k → bch_locator.j2 k s c b (L : Int) (h : Int) (gi last) (n : Int) (gi ((toS c * toS s).c n)) (s.length : Int) (n : Int) = some R) → Evt fun k => bch_locator.l0 k s c b (L : Int) (h : Int) (gi last) (s.length : Int) (n : Int) = some R := fun R K hR => by
      refine Evt.of (L + 1 + 14 + K + 1) fun k hk => ?_
      obtain ⟨k, rfl⟩ := fuel hk
      rw [bch_locator.l0, if_pos (by omega), if_pos (by omega), if_pos (by omega), rd_nat, el_gi hs]
      have := c_loc_l1 hs hn (b := b) hc hnl hLn H.cb (by omega) (h : Int) (gi last) (some R) K (fun k hk => by rw [hd]; exact hR k hk) L 1 k (by omega) (Nat.le_refl _) (by clear e2 eh e2L; omega)
      rw [sm_succ, sm_zero, r_zero_add, show dterm (toS c) (toS s) n 0 = (toS s).c n from by unfold dterm; rw [H.c0, r_one_mul, Nat.sub_zero]] at this
      exact this
    by_cases h0 : (toS c * toS s).c n = 0
    · obtain ⟨r, ⟨K, hK⟩, hr⟩ := c_loc_l0 hs hn e (n + 1) (by omega) c b L (h + 1) last hc hb hc0 hb0 (by omega) (by omega) (H.keep h0)
      refine ⟨r, start r (K + 1) fun k hk => ?_, hr⟩
      obtain ⟨k, rfl⟩ := fuel (show 0 < k by clear e2 eh e2L; omega)
      rw [bch_locator.j2, h0, if_pos gi_zero, eh, e2]
      exact hK k (by clear e2 eh e2L; omega)
    · generalize hdd : (toS c * toS s).c n = dd at h0 start
      have hgi : gi dd ≠ 0 := fun e => h0 (gi_eq_zero.1 e)
      -- what comes behind the rounds
      have go : ∀ (R : List Int) (K : Nat), (∀ c', El c' → c'.length = max c.length (b.length + h) → toS c' = turnC (toS c) (toS b) dd last h → ∀ k, K ≤ k → (if wrap64 (2 * (L : Int)) ≤ (n : Int) then bch_locator.l0 k s c' c (wrap64 (wrap64 ((n : Int) + 1) - (L : Int))) 1 (gi dd) (s.length : Int) (wrap64 ((n : Int) + 1)) else bch_locator.l0 k s c' b (L : Int) (wrap64 ((h : Int) + 1)) (gi last) (s.length : Int) (wrap64 ((n : Int) + 1))) = some R) → Evt fun k => bch_locator.l0 k s c b (L : Int) (h : Int) (gi last) (s.length : Int) (n : Int) = some R := fun R K hR => by
        refine start R (b.length + 14 + K + 1 + (b.length + h) + 40) fun k hk => ?_
        obtain ⟨k, rfl⟩ := fuel (show 0 < k by clear e2 eh e2L; omega)
        rw [bch_locator.j2, if_neg hgi, c_Inv H.ln (by clear e2 eh e2L; omega), Option.bind_some]
        show (bch_mul.f k (gi dd) (gi (ginv last))).bind _ = _
        rw [c_mul _ _ (by clear e2 eh e2L; omega), Option.bind_some, show slices_Clone_int_int.f c = some c from c_clone hc0 (by clear e2 eh e2L; omega), Option.bind_some]
        refine c_loc_l2 (L : Int) (gi last) (n : Int) (gi dd) (gi (dd * ginv last)) c (s.length : Int) (n : Int) (by clear e2 eh e2L; omega) (some R) (b.length + 14 + K + 1) (max c.length (b.length + h) - c.length) k c hc0 (by clear e2 eh e2L; omega) (by clear e2 eh e2L; omega) (by clear e2 eh e2L; omega) fun k hk => ?_
        have hlen : (c ++ List.replicate (max c.length (b.length + h) - c.length) 0).length = max c.length (b.length + h) := by rw [List.length_append, List.length_replicate]; clear e2 eh e2L; omega
        refine c_loc_l3 hb (L : Int) (gi last) n (gi dd) (dd * ginv last) c (s.length : Int) (n : Int) (by clear e2 eh e2L; omega) (c ++ List.replicate (max c.length (b.length + h) - c.length) 0) (by rw [hlen]; exact Nat.le_max_right _ _) (by rw [hlen]; clear e2 eh e2L; omega) (some R) K (fun c' h1 h2 h3 k hk => hR c' h1 (h2.trans hlen) (by rw [h3, toS_app]; rfl) k hk) b.length 0 k _ (by omega) (hc.append (El.zeros _)) rfl ?_ (by clear e2 eh e2L; omega)
        rw [show part (toS b) (dd * ginv last) h 0 = 0 from Ser.ext fun j => by
          show (if h ≤ j ∧ j < h + 0 then _ else (0 : GF)) = 0
          rw [if_neg (by clear e2 eh e2L; omega)], R2.add_zero]
      by_cases h2 : 2 * L ≤ n
      · have hgrow := H.grow hdd h0 h2
        have eL : wrap64 (((n + 1 : Nat) : Int) - (L : Int)) = ((n + 1 - L : Nat) : Int) := cst_sub (by omega) (by omega)
        -- the answer does not hang on the row
        have key : ∀ c', El c' → c'.length = max c.length (b.length + h) → toS c' = turnC (toS c) (toS b) dd last h → ∃ r, (Evt fun k => bch_locator.l0 k s c' c ((n + 1 - L : Nat) : Int) ((1 : Nat) : Int) (gi dd) (s.length : Int) ((n + 1 : Nat) : Int) = some r) ∧ LocAns (toS s) s.length r := fun c' h3 h4 h5 =>
          c_loc_l0 hs hn e (n + 1) (by omega) c' c (n + 1 - L) 1 dd h3 hc (by clear e2 eh e2L eL; omega) hc0 (by clear e2 eh e2L eL; omega) (by clear e2 eh e2L eL; omega) (by rw [h5]; exact hgrow)
        obtain ⟨cx, hx1, hx2, hx3⟩ : ∃ cx, El cx ∧ cx.length = max c.length (b.length + h) ∧ toS cx = turnC (toS c) (toS b) dd last h := ⟨ofS (turnC (toS c) (toS b) dd last h) (max c.length (b.length + h)), ofS_El _ _, ofS_length _ _, toS_ofS (by
          refine Bd.add ((toS_bd c).mono (Nat.le_max_left _ _)) ((pwXX_bd (cst_mul_bd _ (toS_bd b))).mono ?_)
          have := Nat.le_max_right c.length (b.length + h)
          clear e2 eh e2L eL; omega)⟩
        obtain ⟨r, ⟨K, hK⟩, hr⟩ := key cx hx1 hx2 hx3
        refine ⟨r, go r K fun c' h3 h4 h5 k hk => ?_, hr⟩
        have hcc : c' = cx := el_ext h3 hx1 (h4.trans hx2.symm) (h5.trans hx3.symm)
        subst hcc
        rw [if_pos (by rw [e2L]; clear e2 eh eL; omega), e2, eL]
        exact hK k hk
      · have hturn := H.turn hdd (by omega)
        have key : ∀ c', El c' → c'.length = max c.length (b.length + h) → toS c' = turnC (toS c) (toS b) dd last h → ∃ r, (Evt fun k => bch_locator.l0 k s c' b (L : Int) ((h + 1 : Nat) : Int) (gi last) (s.length : Int) ((n + 1 : Nat) : Int) = some r) ∧ LocAns (toS s) s.length r := fun c' h3 h4 h5 =>
          c_loc_l0 hs hn e (n + 1) (by omega) c' b L (h + 1) last h3 hb (by clear e2 eh e2L; omega) hb0 (by clear e2 eh e2L; omega) (by clear e2 eh e2L; omega) (by rw [h5]; exact hturn)
        obtain ⟨cx, hx1, hx2, hx3⟩ : ∃ cx, El cx ∧ cx.length = max c.length (b.length + h) ∧ toS cx = turnC (toS c) (toS b) dd last h := ⟨ofS (turnC (toS c) (toS b) dd last h) (max c.length (b.length + h)), ofS_El _ _, ofS_length _ _, toS_ofS (by
          refine Bd.add ((toS_bd c).mono (Nat.le_max_left _ _)) ((pwXX_bd (cst_mul_bd _ (toS_bd b))).mono ?_)
          have := Nat.le_max_right c.length (b.length + h)
          clear e2 eh e2L; omega)⟩
        obtain ⟨r, ⟨K, hK⟩, hr⟩ := key cx hx1 hx2 hx3
        refine ⟨r, go r K fun c' h3 h4 h5 k hk => ?_, hr⟩
        have hcc : c' = cx := el_ext h3 hx1 (h4.trans hx2.symm) (h5.trans hx3.symm)
        subst hcc
        rw [if_neg (by rw [e2L]; clear e2 eh; omega), e2, eh]
        exact hK k hk
theorem one_S : El [1] ∧ toS [1] = 1 := by
  refine ⟨fun x hx => by simp at hx; subst hx; exact gi_el 1, Ser.ext fun i => ?_⟩
  rw [toS_c, one_c]
  cases i with
  | zero => exact gof_gi 1
  | succ i => rw [if_neg (by omega)]; rfl
theorem c_locator {s : List Int} (hs : El s) (hn : s.length ≤ 16) : ∃ r, (Evt fun k => bch_locator.f k s = some r) ∧ LocAns (toS s) s.length r := by
  have h := c_loc_l0 hs hn s.length 0 (by omega) [1] [1] 0 1 1 one_S.1 one_S.1 (by simp) (by simp) (by simp) (by simp) (by rw [one_S.2]; exact BMs.start _)
  exact h
theorem fin_top_le {l : List Int} (h : El l) {n : Nat} (hb : Bd (toS l) n) : (P.fin l).length ≤ n := by
  refine Nat.le_of_not_lt fun hlt => ?_
  exact fin_top' h (by omega) (hb _ (by omega))
/-- The value of what stands from the i-th number on. -/
def tg (f : Ser GF) (n i : Nat) (x : GF) : GF := ev ⟨fun m => f.c (i + m)⟩ (n - i) x
theorem tg_end (f : Ser GF) (n : Nat) (x : GF) : tg f n n x = 0 := by unfold tg; rw [Nat.sub_self]; rfl
theorem tg_step (f : Ser GF) {n i : Nat} (h : i < n) (x : GF) : tg f n i x = tg f n (i + 1) x * x + f.c i := by
  unfold tg
  rw [show n - i = n - (i + 1) + 1 from by omega, ev_front]
  rw [R2.add_comm, R2.mul_comm]
  have e : (⟨fun m => f.c (i + (m + 1))⟩ : Ser GF) = ⟨fun m => f.c (i + 1 + m)⟩ := Ser.ext fun m => by show f.c (i + (m + 1)) = f.c (i + 1 + m); congr 1; omega
  show ev ⟨fun m => f.c (i + (m + 1))⟩ (n - (i + 1)) x * x + f.c (i + 0) = _
  rw [e]; rfl
theorem tg_all (f : Ser GF) (n : Nat) (x : GF) : tg f n 0 x = ev f n x := by
  unfold tg
  congr 1
  exact Ser.ext fun m => by show f.c (0 + m) = _; rw [Nat.zero_add]
theorem c_dec1 {c : List Int} (hc : El c) (hn : c.length ≤ 1000) (x : GF) : ∀ (i k : Nat), i ≤ c.length → i + 14 < k → dec1 k c (gi x) (gi (tg (toS c) c.length i x)) ((i : Int) - 1) = some (gi (ev (toS c) c.length x))
  | 0, k, hi, hk => by
    obtain ⟨k, rfl⟩ := fuel hk
    rw [dec1, if_neg (by omega), tg_all]
  | i + 1, k, hi, hk => by
    obtain ⟨k, rfl⟩ := fuel hk
    have ej : ((i + 1 : Nat) : Int) - 1 = (i : Int) := by omega
    have c1 : (i : Int) ≥ 0 := Int.natCast_nonneg _
    have c2 : (i : Int) < (c.length : Int) := by omega
    have hk2 := c_dec1 hc hn x i k (by omega) (by omega)
    have hst := tg_step (toS c) (show i < c.length by omega) x
    have ew : wrap64 ((i : Int) - 1) = (i : Int) - 1 := w64 (by omega) (by omega)
    rw [dec1, ej, if_pos c1, if_pos c2, c_mul _ _ (by clear ew; omega), Option.bind_some, rd_nat, el_gi hc, xor_gi, ew, ← hst]
    exact hk2
/-- Does a place turn? -/
def rt (c : List Int) (i : Nat) : Bool := decide (ev (toS c) c.length (pw w (ex (-(i : Int)))) = 0)
/-- The places that turn, below the i-th. -/
def turned (c : List Int) (i : Nat) : Ser Bool := ⟨fun j => decide (j < i) && rt c j⟩
theorem turned_bd (c : List Int) (i : Nat) : Bd (turned c i) i := fun j hj => by
  show (decide (j < i) && rt c j) = false
  rw [decide_eq_false (by omega)]; rfl
theorem turned_succ (c : List Int) (i : Nat) : turned c (i + 1) = turned c i + mono i (rt c i) := Ser.ext fun j => by
  rw [add_c, mono_c]
  show (decide (j < i + 1) && rt c j) = ((decide (j < i) && rt c j) ^^ (decide (j = i) && rt c i))
  by_cases h : j = i
  · subst h; rw [decide_eq_true (show j < j + 1 by omega), decide_eq_false (show ¬ j < j by omega), decide_eq_true rfl]; simp
  · rw [show decide (j < i + 1) = decide (j < i) from decide_eq_decide.2 (by omega), decide_eq_false h]; simp
theorem c_dec0 {t : Nat} {c : List Int} (hc : El c) (hn : c.length ≤ 1000) (f : Ser Bool) (len : Nat) (hlen : len ≤ 4200) (g : Nat → Bool) (dl : Nat) : ∀ (e i : Nat) (d m : List Int), i + e = len → Wok t d m → d.length = dl → wl t d = len → wd t d m = f + turned c i → (∀ j, 13 * t ≤ j → bitAt m j = g j) →
    ∃ d2 m2, (Evt fun k => dec0 k c (len : Int) (t : Int) d m ((cnt (rt c) i : Nat) : Int) (i : Int) = some (d2, m2, ((cnt (rt c) len : Nat) : Int))) ∧ Wok t d2 m2 ∧ d2.length = dl ∧ wd t d2 m2 = f + turned c len ∧ (∀ j, 13 * t ≤ j → bitAt m2 j = g j)
  | 0, i, d, m, hi, hW, hd, hw, hf, hg => by
    have : i = len := by omega
    subst this
    refine ⟨d, m, Evt.of 0 fun k hk => ?_, hW, hd, hf, hg⟩
    obtain ⟨k, rfl⟩ := fuel hk
    rw [dec0, if_neg (by omega)]
  | e + 1, i, d, m, hi, hW, hd, hw, hf, hg => by
    have e2 : wrap64 ((i : Int) + 1) = ((i + 1 : Nat) : Int) := by rw [w64 (by omega) (by omega)]; omega
    have e3 : wrap64 (-(i : Int)) = -(i : Int) := w64 (by omega) (by omega)
    have hcl := cnt_le (rt c) i
    have e4 : wrap64 (((cnt (rt c) i : Nat) : Int) + 1) = ((cnt (rt c) i + 1 : Nat) : Int) := by rw [w64 (by omega) (by omega)]; omega
    have e5 : wrap64 ((c.length : Int) - 1) = (c.length : Int) - 1 := w64 (by omega) (by omega)
    have hX : ∀ k, 40 < k → gf_Exp.f k (wrap64 (-(i : Int))) = some (gi (pw w (ex (-(i : Int))))) := fun k hk => by rw [e3]; exact g_Exp _ (by clear e2 e3 e4 e5; omega) (by clear e2 e3 e4 e5; omega) (by clear e2 e3 e4 e5; omega)
    have hV : ∀ k, c.length + 14 < k → dec1 k c (gi (pw w (ex (-(i : Int))))) 0 (wrap64 ((c.length : Int) - 1)) = some (gi (ev (toS c) c.length (pw w (ex (-(i : Int)))))) := fun k hk => by
      rw [e5]
      have := c_dec1 hc hn (pw w (ex (-(i : Int)))) c.length k (Nat.le_refl _) hk
      rwa [tg_end] at this
    by_cases hr : ev (toS c) c.length (pw w (ex (-(i : Int)))) = 0
    · have hrt : rt c i = true := decide_eq_true hr
      obtain ⟨d', m', h1, h2, h3, h4, h5⟩ := c_flip hW (show i < wl t d by clear e2 e3 e4 e5; omega)
      obtain ⟨d2, m2, ⟨K, hK⟩, g2, g3, g4, g5⟩ := c_dec0 hc hn f len hlen g dl e (i + 1) d' m' (by clear e2 e3 e4 e5; omega) h2 (h3.trans hd) (by unfold wl; rw [h3]; exact hw) (by rw [h4, hf, turned_succ, hrt, R2.add_assoc]) (fun j hj => (h5 j hj).trans (hg j hj))
      refine ⟨d2, m2, Evt.of (K + c.length + 100) fun k hk => ?_, g2, g3, g4, g5⟩
      obtain ⟨k, rfl⟩ := fuel hk
      have := hK k (by clear e2 e3 e4 e5; omega)
      rw [cnt_succ, hrt] at this
      rw [dec0, if_pos (by clear e2 e3 e4 e5; omega), hX k (by clear e2 e3 e4 e5; omega), Option.bind_some, hV k (by clear e2 e3 e4 e5; omega), Option.bind_some, hr, if_pos gi_zero, h1, Option.bind_some, e4, e2]
      exact this
    · have hrt : rt c i = false := decide_eq_false hr
      obtain ⟨d2, m2, ⟨K, hK⟩, g2, g3, g4, g5⟩ := c_dec0 hc hn f len hlen g dl e (i + 1) d m (by clear e2 e3 e4 e5; omega) hW hd hw (by rw [hf, turned_succ, hrt, mono_false, R2.add_zero]) hg
      refine ⟨d2, m2, Evt.of (K + c.length + 100) fun k hk => ?_, g2, g3, g4, g5⟩
      obtain ⟨k, rfl⟩ := fuel hk
      have := hK k (by clear e2 e3 e4 e5; omega)
      rw [cnt_succ, hrt] at this
      rw [dec0, if_pos (by clear e2 e3 e4 e5; omega), hX k (by clear e2 e3 e4 e5; omega), Option.bind_some, hV k (by clear e2 e3 e4 e5; omega), Option.bind_some, if_neg (fun e => hr (gi_eq_zero.1 e)), e2]
      exact this
/-- A bit for each sum that is none. -/
def noul (s : List Int) : List Int := s.map fun x => if x = 0 then 0 else 1
theorem noul_length (s : List Int) : (noul s).length = s.length := by simp [noul]
theorem noul_get (s : List Int) {j : Nat} (h : j < s.length) : (noul s).getD j 0 = if s.getD j 0 = 0 then 0 else 1 := by simp [noul, h]
theorem c_nought_l0 {s : List Int} (hn : s.length ≤ 1000) : ∀ (e i k : Nat) (x : List Int), i + e = s.length → x.length = s.length → (∀ j, x.getD j 0 = if j < i then (noul s).getD j 0 else 0) → e < k → bch_nought.l0 k x s (s.length : Int) (i : Int) = some (noul s)
  | 0, i, k, x, hi, hx, he, hk => by
    obtain ⟨k, rfl⟩ := fuel hk
    rw [bch_nought.l0, if_neg (by omega)]
    congr 1
    apply List.ext_getElem (by rw [noul_length, hx])
    intro j h1 h2
    have := he j
    rw [if_pos (by omega)] at this
    rwa [List.getD_eq_getElem?_getD, List.getElem?_eq_getElem h1, List.getD_eq_getElem?_getD, List.getElem?_eq_getElem h2] at this
  | e + 1, i, k, x, hi, hx, he, hk => by
    obtain ⟨k, rfl⟩ := fuel hk
    have e2 : wrap64 ((i : Int) + 1) = ((i + 1 : Nat) : Int) := by rw [w64 (by omega) (by omega)]; omega
    rw [bch_nought.l0, if_pos (by clear e2; omega), if_pos (by clear e2; omega), if_pos (by clear e2; omega), rd_nat, e2]
    by_cases h0 : s.getD i 0 = 0
    · rw [if_pos h0]
      refine c_nought_l0 hn e (i + 1) k x (by clear e2; omega) hx (fun j => ?_) (by clear e2; omega)
      rw [he j]
      by_cases hj : j = i
      · subst hj; rw [if_neg (by clear e2; omega), if_pos (by clear e2; omega), noul_get s (by clear e2; omega), if_pos h0]
      · by_cases hji : j < i
        · rw [if_pos hji, if_pos (by clear e2; omega)]
        · rw [if_neg hji, if_neg (by clear e2; omega)]
    · rw [if_neg h0, if_pos (by clear e2; omega), Int.toNat_natCast]
      refine c_nought_l0 hn e (i + 1) k _ (by clear e2; omega) (by rw [List.length_set]; exact hx) (fun j => ?_) (by clear e2; omega)
      rw [getD_set _ _ _ _ (by clear e2; omega)]
      by_cases hj : i = j
      · subst hj; rw [if_pos rfl, if_pos (by clear e2; omega), noul_get s (by clear e2; omega), if_neg h0]
      · rw [if_neg hj, he j]
        by_cases hji : j < i
        · rw [if_pos hji, if_pos (by clear e2; omega)]
        · rw [if_neg hji, if_neg (by clear e2; omega)]
theorem c_nought {s : List Int} (hn : s.length ≤ 1000) {k : Nat} (hk : s.length < k) : bch_nought.f k s = some (noul s) := by
  unfold bch_nought.f
  rw [if_pos (by omega), Int.toNat_natCast, if_pos (by omega)]
  exact c_nought_l0 hn s.length 0 k _ (by omega) (by simp) (fun j => by rw [if_neg (by omega)]; simp [List.getElem?_replicate]; split <;> rfl) hk
theorem noul_byt (s : List Int) : Byt (noul s) := fun x hx => by
  obtain ⟨a, _, rfl⟩ := List.mem_map.1 hx
  split <;> omega
theorem ones_zero_iff {l : List Int} (hl : Byt l) : ones l = 0 ↔ ∀ i, i < l.length → l.getD i 0 = 0 := by
  constructor
  · intro h i hi
    have h1 : ∀ j, j < 8 * l.length → bitAt l j = false := fun j hj => by
      refine Bool.eq_false_iff.2 fun e => ?_
      have : j ∈ diffs (bitAt l) (8 * l.length) := mem_diffs.2 ⟨hj, e⟩
      have := List.length_pos_of_mem this
      unfold ones cnt at h
      omega
    have hb := hl.get i
    have : (l.getD i 0).toNat = 0 := testBit_ext8 (by omega) (by omega) fun j hj => by
      have := h1 (8 * i + j) (by omega)
      unfold bitAt at this
      rw [show (8 * i + j) / 8 = i from by omega, show (8 * i + j) % 8 = j from by omega] at this
      rw [this]; simp
    omega
  · intro h
    refine cnt_none fun j hj => ?_
    unfold bitAt
    rw [h (j / 8) (by omega)]; simp
theorem noul_ones (s : List Int) : ones (noul s) = 0 ↔ ∀ i, i < s.length → s.getD i 0 = 0 := by
  rw [ones_zero_iff (noul_byt s), noul_length]
  constructor
  · intro h i hi
    have := h i hi
    rw [noul_get s hi] at this
    refine Classical.byContradiction fun e => ?_
    rw [if_neg e] at this
    omega
  · intro h i hi
    rw [noul_get s hi, if_pos (h i hi)]
/-- Is it a code word? -/
def Code (t : Nat) (f : Ser Bool) (n : Nat) : Prop := ∀ j, 1 ≤ j → j ≤ 2 * t → vb f n (pw w j) = 0
theorem sml_zero (t : Nat) (f : Ser Bool) (n : Nat) : (∀ i, i < (sml t f n).length → (sml t f n).getD i 0 = 0) ↔ Code t f n := by
  rw [sml_length]
  constructor
  · intro h j h1 h2
    have := h (j - 1) (by omega)
    rw [sml_get _ _ _ (by omega), show j - 1 + 1 = j from by omega] at this
    exact gi_eq_zero.1 this
  · intro h i hi
    rw [sml_get _ _ _ hi, h (i + 1) (by omega) (by omega), gi_zero]
theorem sml_El (t : Nat) (f : Ser Bool) (n : Nat) : El (sml t f n) := fun x hx => by
  obtain ⟨j, _, rfl⟩ := List.mem_map.1 hx; exact gi_el _
/-- The sums as a row that goes on. -/
theorem sml_S (t : Nat) (f : Ser Bool) (n : Nat) {i : Nat} (h : i < 2 * t) : (toS (sml t f n)).c i = vb f n (pw w (i + 1)) := by rw [toS_c, sml_get _ _ _ h, gof_gi]
/-- What is told, or refused. -/
theorem c_Decode {t : Nat} {d m : List Int} (h : Wok t d m) : ∃ c, LocAns (toS (sml t (wd t d m) (wl t d))) (2 * t) c ∧ c.length ≤ 1000 ∧
    (((c.length : Int) - 1 ≤ t ∧ ((cnt (rt c) (wl t d) : Nat) : Int) = (c.length : Int) - 1 ∧ Code t (wd t d m + turned c (wl t d)) (wl t d) ∧ ∃ d2 m2, (Evt fun k => bch_Decode.f k (t : Int) d m = some (d2, m2, ((cnt (rt c) (wl t d) : Nat) : Int), 0)) ∧ Wok t d2 m2 ∧ d2.length = d.length ∧ wd t d2 m2 = wd t d m + turned c (wl t d) ∧ ∀ j, 13 * t ≤ j → bitAt m2 j = false) ∨
     (¬ ((c.length : Int) - 1 ≤ t ∧ ((cnt (rt c) (wl t d) : Nat) : Int) = (c.length : Int) - 1 ∧ Code t (wd t d m + turned c (wl t d)) (wl t d)) ∧ Evt fun k => bch_Decode.f k (t : Int) d m = some ([], [], 0, 50))) := by
  have h8 := h.t8; have h1 := h.t1; have hwl := h.wl_le
  obtain ⟨hW, hwd⟩ := clr_wd h
  have hcl := (clr_is h.hm h.ml).2.2
  have hs := c_sums hW
  rw [hwd] at hs
  obtain ⟨c, hc, hA⟩ := c_locator (sml_El t (wd t d m) (wl t d)) (by rw [sml_length]; omega)
  rw [sml_length] at hA
  obtain ⟨L, hh, B, last, hB⟩ := hA.ex
  have hLl := hB.hL
  have hcn : c.length ≤ 100 := by
    have : P.fin c = c := hA.fin
    rw [← this]
    have hf := fin_top_le hA.el hB.cb
    omega
  obtain ⟨d2, m2, hz, z1, z2, z3, z4⟩ := c_dec0 (t := t) hA.el (by omega) (wd t d m) (wl t d) hwl.1 (fun j => bitAt (clr t m) j) d.length (wl t d) 0 d (clr t m) (by omega) hW rfl rfl (by
    rw [hwd, show turned c 0 = 0 from Bd.zero_of (turned_bd c 0), R2.add_zero]) (fun j hj => rfl)
  have hs2 := c_sums z1
  have hwl2 : wl t d2 = wl t d := by unfold wl; rw [z2]
  rw [z3, hwl2] at hs2
  have hlen := c_len hW
  have e5 : wrap64 ((c.length : Int) - 1) = (c.length : Int) - 1 := w64 (by omega) (by omega)
  have hN : ∀ k, 16 < k → bch_nought.f k (sml t (wd t d m + turned c (wl t d)) (wl t d)) = some (noul (sml t (wd t d m + turned c (wl t d)) (wl t d))) := fun k hk => c_nought (by rw [sml_length]; clear e5; omega) (by rw [sml_length]; clear e5; omega)
  have hO : ∀ k, 400 < k → bits_Ones.f k (noul (sml t (wd t d m + turned c (wl t d)) (wl t d))) = some ((ones (noul (sml t (wd t d m + turned c (wl t d)) (wl t d))) : Nat) : Int) := fun k hk => b_Ones (noul_byt _) (by rw [noul_length, sml_length]; clear e5; omega) (by rw [noul_length, sml_length]; clear e5; omega)
  have hbase := (c_newW h).and (hs.and (hc.and (hz.and (hs2.and (Evt.of 500 (fun k hk => hk))))))
  refine ⟨c, hA, by clear e5; omega, ?_⟩
  have hcode := (noul_ones (sml t (wd t d m + turned c (wl t d)) (wl t d))).trans (sml_zero t (wd t d m + turned c (wl t d)) (wl t d))
  by_cases hq : (c.length : Int) - 1 ≤ t ∧ ((cnt (rt c) (wl t d) : Nat) : Int) = (c.length : Int) - 1 ∧ Code t (wd t d m + turned c (wl t d)) (wl t d)
  · refine .inl ⟨hq.1, hq.2.1, hq.2.2, d2, m2, hbase.mono fun k ⟨k1, k2, k3, k4, k5, k6⟩ => ?_, z1, z2, z3, fun j hj => by rw [z4 j hj, hcl, decide_eq_false (by clear e5; omega), Bool.and_false]⟩
    unfold bch_Decode.f
    rw [k1, Option.bind_some]
    show decF k (t : Int) d (clr t m) = _
    unfold decF
    rw [k2, Option.bind_some]
    show (if (t : Int) = (t : Int) then _ else _) = _
    rw [if_pos rfl, k3, Option.bind_some, e5, if_neg (by clear e5; omega), hlen, Option.bind_some]
    show (if (t : Int) = (t : Int) then _ else _) = _
    rw [if_pos rfl, show ((0 : Nat) : Int) = 0 from rfl] at *
    rw [show dec0 k c (wl t d : Int) (t : Int) d (clr t m) 0 0 = _ from k4, Option.bind_some]
    show (if ((cnt (rt c) (wl t d) : Nat) : Int) = (c.length : Int) - 1 then _ else _) = _
    rw [if_pos hq.2.1]
    show (bch_word_sums.f k (t : Int) d2 m2).bind _ = _
    rw [k5, Option.bind_some]
    show (if (t : Int) = (t : Int) then _ else _) = _
    rw [if_pos rfl, hN k (by clear e5; omega), Option.bind_some, hO k (by clear e5; omega), Option.bind_some, hcode.2 hq.2.2]
    rfl
  · refine .inr ⟨hq, hbase.mono fun k ⟨k1, k2, k3, k4, k5, k6⟩ => ?_⟩
    unfold bch_Decode.f
    rw [k1, Option.bind_some]
    show decF k (t : Int) d (clr t m) = _
    unfold decF
    rw [k2, Option.bind_some]
    show (if (t : Int) = (t : Int) then _ else _) = _
    rw [if_pos rfl, k3, Option.bind_some, e5]
    by_cases hq1 : (c.length : Int) - 1 ≤ t
    · rw [if_neg (by clear e5; omega), hlen, Option.bind_some]
      show (if (t : Int) = (t : Int) then _ else _) = _
      rw [if_pos rfl, show dec0 k c (wl t d : Int) (t : Int) d (clr t m) 0 0 = _ from k4, Option.bind_some]
      show (if ((cnt (rt c) (wl t d) : Nat) : Int) = (c.length : Int) - 1 then _ else _) = _
      by_cases hq2 : ((cnt (rt c) (wl t d) : Nat) : Int) = (c.length : Int) - 1
      · rw [if_pos hq2]
        show (bch_word_sums.f k (t : Int) d2 m2).bind _ = _
        rw [k5, Option.bind_some]
        show (if (t : Int) = (t : Int) then _ else _) = _
        have hne : ones (noul (sml t (wd t d m + turned c (wl t d)) (wl t d))) ≠ 0 := fun e => hq ⟨hq1, hq2, hcode.1 e⟩
        rw [if_pos rfl, hN k (by clear e5; omega), Option.bind_some, hO k (by clear e5; omega), Option.bind_some, if_pos (by clear e5; omega)]
      · rw [if_neg hq2]
    · rw [if_pos (by clear e5; omega)]
theorem wd_eq {t : Nat} {d m : List Int} (h : ∀ j, 13 * t ≤ j → bitAt m j = false) : wd t d m = toB m + pw XX (13 * t) * toB d := Ser.ext fun i => by
  rw [add_c, pwXX_c]
  show (if i < 13 * t then bitAt m i else bitAt d (i - 13 * t)) = bitAt m i + (if 13 * t ≤ i then bitAt d (i - 13 * t) else 0)
  by_cases hi : i < 13 * t
  · rw [if_pos hi, if_neg (by omega), R2.add_zero]
  · rw [if_neg hi, if_pos (by omega), h i (by omega)]
    exact (r_zero_add (K := Bool) _).symm
theorem one_shl8 {j : Nat} (h : j < 8) : (0 : Int) ≤ shl .u8 1 (j : Int) ∧ shl .u8 1 (j : Int) < 256 ∧ ∀ i, (shl .u8 1 (j : Int)).toNat.testBit i = decide (j = i) := by
  have hpw := pow8 h
  rw [one_shl j h]
  refine ⟨by generalize 2 ^ j = q at hpw ⊢; omega, by generalize 2 ^ j = q at hpw ⊢; omega, fun i => ?_⟩
  rw [Int.toNat_natCast, Nat.testBit_two_pow]
theorem toB_one {n j : Nat} (h : j / 8 < n) : Byt ((List.replicate n 0).set (j / 8) (shl .u8 1 ((j % 8 : Nat) : Int))) ∧ toB ((List.replicate n 0).set (j / 8) (shl .u8 1 ((j % 8 : Nat) : Int))) = pw XX j := by
  obtain ⟨h1, h2, h3⟩ := one_shl8 (show j % 8 < 8 by omega)
  refine ⟨(Byt.zeros n).set _ ⟨h1, h2⟩, Ser.ext fun i => ?_⟩
  rw [← mono_true, mono_c]
  show bitAt _ i = _
  unfold bitAt
  rw [getD_set _ _ _ _ (by simpa using h)]
  by_cases hi : j / 8 = i / 8
  · rw [if_pos hi, h3, Bool.and_true]
    exact decide_eq_decide.2 (by omega)
  · rw [if_neg hi, decide_eq_false (fun e => hi (by rw [e])), Bool.false_and]
    simp [List.getElem?_replicate]
    split <;> simp
theorem toB_app (c : List Int) (e : Nat) : toB (c ++ List.replicate e 0) = toB c := toB_get fun i => by
  rw [List.getD_eq_getElem?_getD, List.getD_eq_getElem?_getD, List.getElem?_append]
  by_cases h : i < c.length
  · rw [if_pos h]
  · rw [if_neg h, List.getElem?_eq_none (show c.length ≤ i by omega), List.getElem?_replicate]
    split <;> rfl
/-- What is encoded. -/
structure Enc (t : Nat) (d m : List Int) : Prop where
  byt : Byt m
  len : m.length = mb t
  rest : Rest (pw XX (13 * t) * toB d) (gen t) (toB m) (13 * t)
theorem c_Encode {t : Nat} (h1 : 1 ≤ t) (h8 : t ≤ 8) {d : List Int} (hd : Byt d) (hd1 : 1 ≤ d.length) (hd2 : d.length ≤ 512) : ∃ m, (Evt fun k => bch_Encode.f k (t : Int) d = some (m, 0)) ∧ Enc t d m := by
  have hg := mb_ge t; have hlt := mb_lt t
  obtain ⟨g, g1, g2⟩ := b_Generator h1 h8
  have gl : g.length ≤ 14 := by have := g2.len (gen_bd h8); omega
  obtain ⟨a1, a2⟩ := toB_one (n := mb t + 1) (j := 13 * t) (by omega)
  obtain ⟨q, q1, q2⟩ := b_Mul a1 hd (by simp; omega) (by omega)
  have ql : q.length ≤ 1000 := by
    have := q2.len (n := 8 * (mb t + 1) + 8 * d.length) (by
      have := (toB_bd ((List.replicate (mb t + 1) 0).set (13 * t / 8) (shl .u8 1 ((13 * t % 8 : Nat) : Int)))).mul' (toB_bd d)
      refine this.mono ?_
      simp)
    omega
  obtain ⟨r, f, r1, r2, r3⟩ := b_Mod q2.byt g2.byt (by omega) (by omega) (d := 13 * t) (by rw [g2.is]; exact gen_top h8) (by rw [g2.is]; exact gen_bd h8)
  rw [q2.is, a2, g2.is] at r3
  have rl : r.length ≤ mb t := by have := r2.len r3.1; unfold mb; exact this
  refine ⟨r ++ List.replicate (mb t - r.length) 0, ?_, r2.byt.append (Byt.zeros _), by rw [List.length_append, List.length_replicate]; omega, by rw [toB_app, r2.is]; exact r3⟩
  have e1 : wrap64 (13 * (t : Int)) = ((13 * t : Nat) : Int) := by rw [w64 (by omega) (by omega)]; omega
  have e2 : wrap64 ((mb t : Int) + 1) = ((mb t + 1 : Nat) : Int) := by rw [w64 (by omega) (by omega)]; omega
  refine (g1.and (q1.and r1)).mono fun k ⟨k1, k2, k3⟩ => ?_
  unfold bch_Encode.f
  rw [c_size h1 h8 hd1 hd2, Option.bind_some]
  show (if (0 : Int) = 0 then _ else _) = _
  rw [if_pos rfl, k1, Option.bind_some]
  show (if 0 ≤ wrap64 ((mb t : Int) + 1) then _ else _) = _
  rw [e2, if_pos (by clear e1 e2; omega), Int.toNat_natCast, if_pos (by clear e1 e2; omega), Option.bind_some, e1, cst_et, if_pos (by clear e1 e2; omega), cst_ed (by clear e1 e2; omega), if_pos (by clear e1 e2; omega), List.length_replicate, if_pos (by clear e1 e2; omega), Int.toNat_natCast, k2, Option.bind_some, k3, Option.bind_some]
  show (if 0 ≤ wrap64 ((mb t : Int) - (r.length : Int)) then _ else _) = _
  rw [cst_sub rl (by clear e1 e2; omega), if_pos (by clear e1 e2; omega), Int.toNat_natCast]
  show (if r.length + (mb t - r.length) < 140737488355328 then _ else _) = _
  rw [if_pos (by clear e1 e2; omega)]
theorem Enc.wok {t : Nat} {d m : List Int} (h : Enc t d m) (h1 : 1 ≤ t) (h8 : t ≤ 8) (hd : Byt d) (hd1 : 1 ≤ d.length) (hd2 : d.length ≤ 512) : Wok t d m := ⟨h1, h8, hd, h.byt, hd1, hd2, h.len⟩
theorem Enc.up {t : Nat} {d m : List Int} (h : Enc t d m) : ∀ j, 13 * t ≤ j → bitAt m j = false := fun j hj => h.rest.1 j hj
theorem Enc.wd {t : Nat} {d m : List Int} (h : Enc t d m) : wd t d m = toB m + pw XX (13 * t) * toB d := wd_eq h.up
theorem Enc.code {t : Nat} {d m : List Int} (h : Enc t d m) (h8 : t ≤ 8) : Code t (L.wd t d m) (wl t d) := fun j h1 h2 => by
  obtain ⟨_, a, n, ha, e⟩ := h.rest
  refine gen_mul_root h8 ha (wd_bd t d m) ?_ h1 h2
  rw [h.wd, e, R2.add_comm, r_add_cancel]
/-- A word's coefficients, as a list. -/
def wlist (t : Nat) (d m : List Int) : List Int := (List.range (wl t d)).map fun i => b2i ((wd t d m).c i)
theorem r5_Bytes {t : Nat} (h8 : t ≤ 8) : casemateref05_Bytes.f (t : Int) = some (mb t : Int) := by
  unfold casemateref05_Bytes.f
  have e1 : wrap64 (13 * (t : Int)) = ((13 * t : Nat) : Int) := by rw [w64 (by omega) (by omega)]; omega
  have e : wrap64 (((13 * t : Nat) : Int) + 7) = ((13 * t + 7 : Nat) : Int) := by rw [w64 (by omega) (by omega)]; omega
  rw [e1, e, tdv 8 (by omega), w64 (by omega) (by omega)]
  unfold mb
  congr 2
/-- One coefficient. -/
def mg (i : Nat) (v : GF) : Ser GF := ⟨fun j => if j = i then v else 0⟩
def cutg (f : Ser GF) (i : Nat) : Ser GF := ⟨fun j => if j < i then f.c j else 0⟩
end Go.Proofs.Ytfpdloccmneabaa.L

/- What the functions of layer 4 (bpoly) and of its reference come to: rows of bytes and lists of bits as polynomials of bits. Conditions: the rows are bytes, no longer than the statements let in. -/
import Derived.Test.YtfpdloccmneabaaL3
import Derived.Test.YtfpdloccmneabaaPx0
import Derived.Test.YtfpdloccmneabaaPx6
import Derived.Test.YtfpdloccmneabaaPx10
import Derived.Test.YtfpdloccmneabaaPx20
import Derived.Test.YtfpdloccmneabaaMBch
import Derived.Lib.BitFns
set_option linter.unusedVariables false
set_option linter.unusedSimpArgs false
namespace Go.Proofs.Ytfpdloccmneabaa.L
open Go Go.RowKit Go.Proofs.Ytfpdloccmneabaa.P Go.Proofs.YtfpdloccmneabaaW.PrintWords Go.Proofs.YtfpdloccmneabaaW.PrintLast Go.Proofs.YtfpdloccmneabaaW.PrintMore Go.Proofs.CsM
def toB (l : List Int) : Ser Bool := ⟨bitAt l⟩
theorem toB_c (l : List Int) (i : Nat) : (toB l).c i = bitAt l i := rfl
theorem toB_bd (l : List Int) : Bd (toB l) (8 * l.length) := fun i hi => bitAt_out hi
theorem toB_get {l m : List Int} (h : ∀ i, l.getD i 0 = m.getD i 0) : toB l = toB m := Ser.ext fun i => by
  show bitAt l i = bitAt m i
  unfold bitAt; rw [h]
theorem toB_nil : toB [] = 0 := Bd.zero_of (toB_bd [])
theorem toB_fin (l : List Int) : toB (fin l) = toB l := toB_get fun i => fin_get l i
theorem toB_zeros (n : Nat) : toB (List.replicate n 0) = 0 := by
  refine Eq.trans (toB_get fun i => ?_) toB_nil
  by_cases h : i < n
  · simp [List.getElem?_replicate, h]
  · simp [List.getElem?_replicate, h]
theorem bfin_top {l : List Int} (hl : Byt l) (h : 0 < (fin l).length) : ∃ j, 8 * ((fin l).length - 1) ≤ j ∧ j < 8 * (fin l).length ∧ bitAt l j = true := by
  have h1 := fin_top l h
  have hb := hl.get ((fin l).length - 1)
  refine Classical.byContradiction fun hn => h1 ?_
  have : (l.getD ((fin l).length - 1) 0).toNat = 0 := testBit_ext8 (by omega) (by omega) fun j hj => by
    rw [Nat.zero_testBit]
    refine Bool.eq_false_iff.2 fun e => hn ⟨8 * ((fin l).length - 1) + j, by omega, by omega, ?_⟩
    unfold bitAt
    rw [show (8 * ((fin l).length - 1) + j) / 8 = (fin l).length - 1 from by omega, show (8 * ((fin l).length - 1) + j) % 8 = j from by omega]
    exact e
  omega
theorem bfin_len {l : List Int} (hl : Byt l) {d : Nat} (h : (toB l).c d = true) (h' : Bd (toB l) (d + 1)) : (fin l).length = d / 8 + 1 := by
  have h1 : d < 8 * (fin l).length := Nat.lt_of_not_le fun e => by
    have := toB_bd (fin l) d e
    rw [toB_fin] at this
    rw [h] at this; exact absurd this (by decide)
  obtain ⟨j, h2, h3, h4⟩ := bfin_top hl (by omega)
  have h5 : j < d + 1 := Nat.lt_of_not_le fun e => by
    have := h' j e
    rw [toB_c, h4] at this; exact absurd this (by decide)
  omega
theorem bfin_0 {l : List Int} (hl : Byt l) (h : toB l = 0) : fin l = [] := by
  by_cases e : 0 < (fin l).length
  · obtain ⟨j, _, _, h4⟩ := bfin_top hl e
    rw [← toB_c, h] at h4
    have h5 : (0 : Ser Bool).c j = false := rfl
    rw [h5] at h4; cases h4
  · exact List.eq_nil_of_length_eq_zero (by omega)
theorem Byt.fin {l : List Int} (h : Byt l) : Byt (fin l) := h.take _
theorem bfin_eq {l m : List Int} (hl : Byt l) (hm : Byt m) (h : toB l = toB m) : fin l = fin m := by
  refine byt_ext (Byt.fin hl) (Byt.fin hm) ?_ fun i _ => by rw [← toB_c, ← toB_c, toB_fin, toB_fin, h]
  by_cases h0 : toB l = 0
  · rw [bfin_0 hl h0, bfin_0 hm (by rw [← h, h0])]
  · obtain ⟨d, _, h1, h2⟩ := dtop (toB_bd l) h0
    rw [bfin_len hl (b_ne0.1 h1) h2, bfin_len hm (by rw [← h]; exact b_ne0.1 h1) (by rw [← h]; exact h2)]
/-- The shortest row of a polynomial. -/
structure CanB (f : Ser Bool) (r : List Int) : Prop where
  byt : Byt r
  fin : fin r = r
  is : toB r = f
theorem CanB.of {l : List Int} (hl : Byt l) : CanB (toB l) (P.fin l) := ⟨Byt.fin hl, bfin_eq (Byt.fin hl) hl (toB_fin l), toB_fin l⟩
theorem CanB.len {f : Ser Bool} {r : List Int} (h : CanB f r) {n : Nat} (hf : Bd f n) : r.length ≤ (n + 7) / 8 := by
  by_cases e : 0 < r.length
  · obtain ⟨j, h1, h2, h3⟩ := bfin_top h.byt (by rw [h.fin]; exact e)
    rw [h.fin] at h1
    have h5 : j < n := Nat.lt_of_not_le fun e => by
      have := hf j e
      rw [← h.is, toB_c, h3] at this; exact absurd this (by decide)
    omega
  · omega
theorem CanB.length {f : Ser Bool} {r : List Int} (h : CanB f r) {d : Nat} (h1 : f.c d = true) (h2 : Bd f (d + 1)) : r.length = d / 8 + 1 := by
  rw [← h.fin]; exact bfin_len h.byt (by rw [h.is]; exact h1) (by rw [h.is]; exact h2)
theorem CanB.nil {f : Ser Bool} {r : List Int} (h : CanB f r) (e : f = 0) : r = [] := by
  rw [← h.fin]; exact bfin_0 h.byt (by rw [h.is, e])
theorem b_norm_l0 {l : List Int} (hn : l.length ≤ 8000000) : ∀ n k, n ≤ l.length → n < k → bpoly_norm.l0 k (l.take n) = some (l.take (normN l n))
  | 0, k, h, hk => by
    obtain ⟨k, rfl⟩ := fuel hk
    simp only [bpoly_norm.l0]
    rw [if_neg (by simp)]; rfl
  | n + 1, k, h, hk => by
    obtain ⟨k, rfl⟩ := fuel hk
    have e : (l.take (n + 1)).length = n + 1 := by rw [List.length_take]; omega
    simp only [bpoly_norm.l0]
    rw [e, w64 (by omega) (by omega), show ((n + 1 : Nat) : Int) - 1 = (n : Int) from by omega, if_pos (by omega), if_pos (by omega), if_pos (by omega), rd_nat, show (l.take (n + 1)).getD n 0 = l.getD n 0 from by simp [List.getElem?_take], Int.toNat_natCast, List.take_take, Nat.min_eq_left (by omega)]
    unfold normN
    by_cases h0 : l.getD n 0 = 0
    · rw [if_pos h0, if_pos h0, if_pos (by omega)]; exact b_norm_l0 hn n k (by omega) (by omega)
    · rw [if_neg h0, if_neg h0]
theorem b_norm {l : List Int} (hn : l.length ≤ 8000000) {k : Nat} (hk : l.length < k) : bpoly_norm.f k l = some (fin l) := by
  have := b_norm_l0 hn l.length k (Nat.le_refl _) hk
  rwa [List.take_length] at this
theorem b_one_at {l : List Int} (hl : Byt l) (hn : l.length ≤ 8000000) {i : Nat} (hi : i < 8 * l.length) : bpoly_one.f l (i : Int) = some (bitAt l i) := by
  have hb := hl.get (i / 8)
  unfold bpoly_one.f
  rw [tdv 8 (by omega), w64 (by omega) (by omega), if_pos (by omega), if_pos (by omega), tmd 8 (by omega), if_pos (by omega)]
  have e : rd l ((i : Int) / 8) = l.getD (i / 8) 0 := by rw [rd_of (by omega), show ((i : Int) / 8).toNat = i / 8 from by omega]
  have e2 : (i : Int) % 8 = ((i % 8 : Nat) : Int) := by omega
  rw [e, e2, shr_u8 _ _ hb.1 (by omega)]
  have hs : (l.getD (i / 8) 0).toNat >>> (i % 8) < 256 := by
    rw [Nat.shiftRight_eq_div_pow]; have := Nat.div_le_self (l.getD (i / 8) 0).toNat (2 ^ (i % 8)); omega
  rw [u8_and _ _ (Int.natCast_nonneg _) (by omega) (by omega) (by omega), Int.toNat_natCast]
  unfold bitAt
  rw [Nat.testBit_eq_decide_div_mod_eq, Nat.shiftRight_eq_div_pow, show Int.toNat 1 = 1 from rfl, Nat.and_one_is_mod]
  congr 1
  rcases Nat.mod_two_eq_zero_or_one ((l.getD (i / 8) 0).toNat / 2 ^ (i % 8)) with h | h <;> rw [h] <;> rfl
/-- A byte changed. -/
theorem bitAt_setx {l : List Int} (hl : Byt l) {a : Nat} (ha : a < l.length) {v : Int} (hv : 0 ≤ v ∧ v < 256) (j : Nat) : bitAt (l.set a (Go.bits .xor .u8 (l.getD a 0) v)) j = (bitAt l j ^^ (decide (j / 8 = a) && v.toNat.testBit (j % 8))) := by
  have hb := hl.get a
  unfold bitAt
  rw [u8_xor _ _ hb.1 hb.2 hv.1 hv.2, getD_set _ _ _ _ ha]
  by_cases h : a = j / 8
  · rw [if_pos h, Int.toNat_natCast, Nat.testBit_xor, h, decide_eq_true rfl, Bool.true_and]
  · rw [if_neg h, decide_eq_false (fun e => h e.symm), Bool.false_and, Bool.xor_false]
theorem xor_byte {a v : Int} (ha : 0 ≤ a ∧ a < 256) (hv : 0 ≤ v ∧ v < 256) : 0 ≤ Go.bits .xor .u8 a v ∧ Go.bits .xor .u8 a v < 256 := by
  rw [u8_xor _ _ ha.1 ha.2 hv.1 hv.2]
  have : a.toNat ^^^ v.toNat < 2 ^ 8 := Nat.xor_lt_two_pow (by omega) (by omega)
  omega
theorem shl_u16 {x : Int} (h : 0 ≤ x ∧ x < 256) {s : Nat} (hs : s < 8) : shl .u16 (IntKind.u16.wrap x) (s : Int) = ((x.toNat * 2 ^ s : Nat) : Int) ∧ x.toNat * 2 ^ s < 65536 := by
  obtain ⟨a, rfl⟩ := Int.eq_ofNat_of_zero_le h.1
  have hp : 2 ^ s < 256 := pow8 hs
  have hm : a * 2 ^ s < 65536 := by
    have h1 : a < 256 := by omega
    have := Nat.mul_le_mul (show a ≤ 255 by omega) (show 2 ^ s ≤ 255 by omega)
    omega
  refine ⟨?_, by rw [Int.toNat_natCast]; exact hm⟩
  unfold shl
  rw [IntKind.wrap_u16, IntKind.wrap_u16, Int.toNat_natCast, Int.toNat_natCast, show IntKind.u16.bits = 16 from rfl, Nat.min_eq_left (by omega), Int.emod_eq_of_lt (a := (a : Int)) (by omega) (by omega)]
  have e : (a : Int) * 2 ^ s = ((a * 2 ^ s : Nat) : Int) := by rw [Int.natCast_mul, Int.natCast_pow]; rfl
  rw [e]
  omega
theorem cst_et (a : Nat) : Int.tmod (a : Int) 8 = ((a % 8 : Nat) : Int) := by rw [tmd 8 (by omega)]; omega
theorem cst_ed {a : Nat} (h : a ≤ 8000000) : wrap64 (Int.tdiv (a : Int) 8) = ((a / 8 : Nat) : Int) := by rw [tdv 8 (by omega), w64 (by omega) (by omega)]; omega
theorem cst_add {a b : Nat} (h : a + b ≤ 9000000) : wrap64 ((a : Int) + (b : Int)) = ((a + b : Nat) : Int) := by rw [w64 (by omega) (by omega)]; omega
theorem cst_sub {a b : Nat} (h : b ≤ a) (ha : a ≤ 9000000) : wrap64 ((a : Int) - (b : Int)) = ((a - b : Nat) : Int) := by rw [w64 (by omega) (by omega)]; omega
theorem add_key {x at_ i j wv : Nat} (hx : x < 256) (hw : ∀ m, wv.testBit m = (decide (at_ % 8 ≤ m) && x.testBit (m - at_ % 8))) (pb : Nat → Bool) (hp : ∀ m, m < 8 → pb (8 * i + m) = x.testBit m) :
    ((decide (j / 8 = i + at_ / 8) && (wv % 2 ^ 8).testBit (j % 8)) ^^ ((decide (j / 8 = i + at_ / 8 + 1) && (wv / 2 ^ 8).testBit (j % 8)) ^^ (decide (at_ + 8 * (i + 1) ≤ j) && pb (j - at_)))) = (decide (at_ + 8 * i ≤ j) && pb (j - at_)) := by
  rw [Nat.testBit_mod_two_pow, Nat.testBit_div_two_pow, hw, hw]
  by_cases hj : at_ + 8 * i ≤ j ∧ j < at_ + 8 * (i + 1)
  · have eb : pb (j - at_) = x.testBit (j - at_ - 8 * i) := by
      rw [← hp _ (by omega)]; congr 1; omega
    rw [eb, decide_eq_true hj.1, decide_eq_false (show ¬ at_ + 8 * (i + 1) ≤ j by omega), Bool.false_and, Bool.xor_false, Bool.true_and]
    by_cases hq : j / 8 = i + at_ / 8
    · rw [decide_eq_true hq, decide_eq_false (show ¬ j / 8 = i + at_ / 8 + 1 by omega), decide_eq_true (show j % 8 < 8 by omega), decide_eq_true (show at_ % 8 ≤ j % 8 by omega), show j % 8 - at_ % 8 = j - at_ - 8 * i from by omega]
      simp
    · rw [decide_eq_false hq, decide_eq_true (show j / 8 = i + at_ / 8 + 1 by omega), decide_eq_true (show at_ % 8 ≤ j % 8 + 8 by omega), show j % 8 + 8 - at_ % 8 = j - at_ - 8 * i from by omega]
      simp
  · have e1 : (decide (j / 8 = i + at_ / 8) && (decide (j % 8 < 8) && (decide (at_ % 8 ≤ j % 8) && x.testBit (j % 8 - at_ % 8)))) = false := by
      by_cases hq : j / 8 = i + at_ / 8
      · rw [decide_eq_false (show ¬ at_ % 8 ≤ j % 8 by omega)]; simp
      · rw [decide_eq_false hq]; simp
    have e2 : (decide (j / 8 = i + at_ / 8 + 1) && (decide (at_ % 8 ≤ j % 8 + 8) && x.testBit (j % 8 + 8 - at_ % 8))) = false := by
      by_cases hq : j / 8 = i + at_ / 8 + 1
      · have : x.testBit (j % 8 + 8 - at_ % 8) = false := Nat.testBit_lt_two_pow (Nat.lt_of_lt_of_le (show x < 2 ^ 8 from hx) (Nat.pow_le_pow_right (by omega) (by omega)))
        rw [this]; simp
      · rw [decide_eq_false hq]; simp
    rw [e1, e2, Bool.false_xor, Bool.false_xor]
    by_cases h3 : at_ + 8 * i ≤ j
    · rw [decide_eq_true h3, decide_eq_true (show at_ + 8 * (i + 1) ≤ j by omega)]
    · rw [decide_eq_false h3, decide_eq_false (show ¬ at_ + 8 * (i + 1) ≤ j by omega)]
/-- One round. -/
theorem b_add_step {p out : List Int} (hp : Byt p) (hb : Byt out) (hpn : p.length ≤ 1000000) {at_ : Nat} (hat : at_ ≤ 8000000) (hn : out.length ≤ 8000000) (h1 : p.length + at_ / 8 ≤ out.length) (h2 : at_ % 8 ≠ 0 → p.length + at_ / 8 + 1 ≤ out.length) {i : Nat} (hi : i < p.length) :
    ∃ y, y.length = out.length ∧ Byt y ∧ (∀ j, (bitAt y j ^^ (decide (at_ + 8 * (i + 1) ≤ j) && bitAt p (j - at_))) = (bitAt out j ^^ (decide (at_ + 8 * i ≤ j) && bitAt p (j - at_)))) ∧
      ∀ k, bpoly_add.l0 (k + 1) out (at_ : Int) p (p.length : Int) (i : Int) = bpoly_add.l0 k y (at_ : Int) p (p.length : Int) ((i + 1 : Nat) : Int) := by
  have hx := hp.get i
  have hs8 : at_ % 8 < 8 := by omega
  have k1 : i + at_ / 8 ≤ 9000000 := by omega
  have k2 : i + at_ / 8 + 1 ≤ 9000000 := by omega
  have k3 : i + 1 ≤ 9000000 := by omega
  have ha : i + at_ / 8 < out.length := by omega
  have c1 : 0 ≤ ((i + at_ / 8 : Nat) : Int) := Int.natCast_nonneg _
  have c2 : ((i + at_ / 8 : Nat) : Int) < (out.length : Int) := by omega
  have c3 : (i : Int) < (p.length : Int) := by omega
  have c4 : (0 : Int) ≤ (i : Int) := Int.natCast_nonneg _
  have c5 : (0 : Int) ≤ ((at_ % 8 : Nat) : Int) := Int.natCast_nonneg _
  have hxl : (p.getD i 0).toNat < 256 := by omega
  have hpb : ∀ m, m < 8 → bitAt p (8 * i + m) = (p.getD i 0).toNat.testBit m := fun m hm => by
    unfold bitAt
    rw [show (8 * i + m) / 8 = i from by omega, show (8 * i + m) % 8 = m from by omega]
  have hrd : rd p (i : Int) = p.getD i 0 := rd_nat p i
  obtain ⟨hw, hw2⟩ := shl_u16 hx hs8
  have hbits : ∀ m, ((p.getD i 0).toNat * 2 ^ (at_ % 8)).testBit m = (decide (at_ % 8 ≤ m) && (p.getD i 0).toNat.testBit (m - at_ % 8)) := fun m => Nat.testBit_mul_two_pow _ _ _
  have hzero : at_ % 8 = 0 → (p.getD i 0).toNat * 2 ^ (at_ % 8) < 256 := fun e => by rw [e, Nat.pow_zero, Nat.mul_one]; exact hxl
  generalize (p.getD i 0).toNat * 2 ^ (at_ % 8) = wv at hw hw2 hbits hzero
  have hv1 : (0 : Int) ≤ (wv : Int) % 256 ∧ (wv : Int) % 256 < 256 := by clear hw hbits hzero hpb; omega
  have hvv : ((wv : Int) % 256).toNat = wv % 2 ^ 8 := by clear hw hbits hzero hpb; omega
  have hv2 : (0 : Int) ≤ (wv : Int) / 256 % 256 ∧ (wv : Int) / 256 % 256 < 256 := by clear hw hbits hzero hpb; omega
  have hvv2 : ((wv : Int) / 256 % 256).toNat = wv / 2 ^ 8 := by clear hw hbits hzero hpb; omega
  have hb1 : Byt (out.set (i + at_ / 8) (Go.bits .xor .u8 (out.getD (i + at_ / 8) 0) ((wv : Int) % 256))) := hb.set _ (xor_byte (hb.get _) hv1)
  have hl1 : (out.set (i + at_ / 8) (Go.bits .xor .u8 (out.getD (i + at_ / 8) 0) ((wv : Int) % 256))).length = out.length := List.length_set
  have hbit1 := bitAt_setx hb ha hv1
  rw [hvv] at hbit1
  by_cases hbig : (wv : Int) > 255
  · have hs : at_ % 8 ≠ 0 := fun e => by have := hzero e; omega
    have hn2 := h2 hs
    have ha1 : i + at_ / 8 + 1 < out.length := by omega
    have c6 : 0 ≤ ((i + at_ / 8 + 1 : Nat) : Int) := Int.natCast_nonneg _
    have c7 : ((i + at_ / 8 + 1 : Nat) : Int) < (out.length : Int) := by omega
    refine ⟨_, ?_, hb1.set (i + at_ / 8 + 1) (xor_byte (hb1.get (i + at_ / 8 + 1)) hv2), fun j => ?_, fun k => ?_⟩
    · rw [List.length_set, hl1]
    · rw [bitAt_setx hb1 (by rw [hl1]; exact ha1) hv2, hvv2, hbit1, Bool.xor_assoc, Bool.xor_assoc, add_key hxl hbits _ hpb]
    · simp only [bpoly_add.l0]
      have et : Int.tmod (at_ : Int) 8 = ((at_ % 8 : Nat) : Int) := cst_et at_
      have ed : wrap64 (Int.tdiv (at_ : Int) 8) = ((at_ / 8 : Nat) : Int) := cst_ed hat
      have ea : wrap64 ((i : Int) + ((at_ / 8 : Nat) : Int)) = ((i + at_ / 8 : Nat) : Int) := cst_add k1
      have ea1 : wrap64 (((i + at_ / 8 : Nat) : Int) + 1) = ((i + at_ / 8 + 1 : Nat) : Int) := cst_add (b := 1) k2
      have ei : wrap64 ((i : Int) + 1) = ((i + 1 : Nat) : Int) := cst_add (b := 1) k3
      rw [if_pos c3, if_pos c4, if_pos c3, et, if_pos c5, ed, ea, if_pos c1, if_pos c2, hrd, hw, Int.toNat_natCast, rd_nat out, Option.bind_some, ea1, ei, if_pos hbig, if_pos c6, if_pos c7, rd_nat, Int.toNat_natCast]
  · refine ⟨_, hl1, hb1, fun j => ?_, fun k => ?_⟩
    · have h0 : wv / 2 ^ 8 = 0 := Nat.div_eq_of_lt (by omega)
      have := add_key (i := i) (j := j) hxl hbits (bitAt p) hpb
      rw [h0, Nat.zero_testBit, Bool.and_false, Bool.false_xor] at this
      rw [hbit1, Bool.xor_assoc, this]
    · simp only [bpoly_add.l0]
      have et : Int.tmod (at_ : Int) 8 = ((at_ % 8 : Nat) : Int) := cst_et at_
      have ed : wrap64 (Int.tdiv (at_ : Int) 8) = ((at_ / 8 : Nat) : Int) := cst_ed hat
      have ea : wrap64 ((i : Int) + ((at_ / 8 : Nat) : Int)) = ((i + at_ / 8 : Nat) : Int) := cst_add k1
      have ea1 : wrap64 (((i + at_ / 8 : Nat) : Int) + 1) = ((i + at_ / 8 + 1 : Nat) : Int) := cst_add (b := 1) k2
      have ei : wrap64 ((i : Int) + 1) = ((i + 1 : Nat) : Int) := cst_add (b := 1) k3
      rw [if_pos c3, if_pos c4, if_pos c3, et, if_pos c5, ed, ea, if_pos c1, if_pos c2, hrd, hw, Int.toNat_natCast, rd_nat out, Option.bind_some, ei, if_neg hbig]
theorem b_add_l0 {p : List Int} (hp : Byt p) (hpn : p.length ≤ 1000000) {at_ : Nat} (hat : at_ ≤ 8000000) {n : Nat} (hn : n ≤ 8000000) (h1 : p.length + at_ / 8 ≤ n) (h2 : at_ % 8 ≠ 0 → p.length + at_ / 8 + 1 ≤ n) :
    ∀ (d i : Nat) (out : List Int), out.length = n → Byt out → i + d = p.length → ∃ r, (∀ k, d < k → bpoly_add.l0 k out (at_ : Int) p (p.length : Int) (i : Int) = some r) ∧ r.length = n ∧ Byt r ∧
      ∀ j, bitAt r j = (bitAt out j ^^ (decide (at_ + 8 * i ≤ j) && bitAt p (j - at_)))
  | 0, i, out, ho, hb, hd => by
    refine ⟨out, fun k hk => ?_, ho, hb, fun j => ?_⟩
    · obtain ⟨k, rfl⟩ := fuel hk
      simp only [bpoly_add.l0]
      rw [if_neg (by omega)]
    · by_cases h : at_ + 8 * i ≤ j
      · rw [bitAt_out (l := p) (by omega), Bool.and_false, Bool.xor_false]
      · rw [decide_eq_false h, Bool.false_and, Bool.xor_false]
  | d + 1, i, out, ho, hb, hd => by
    obtain ⟨y, y1, y2, y3, y4⟩ := b_add_step hp hb hpn hat (by omega) (by omega) (by omega) (show i < p.length by omega)
    obtain ⟨r, g1, g2, g3, g4⟩ := b_add_l0 hp hpn hat hn h1 h2 d (i + 1) y (by omega) y2 (by omega)
    refine ⟨r, fun k hk => ?_, g2, g3, fun j => by rw [g4, y3]⟩
    obtain ⟨k, rfl⟩ := fuel hk
    rw [y4]; exact g1 k (by omega)
theorem toB_shift {p : List Int} {f : Nat → Bool} {out : List Int} {r : List Int} (at_ : Nat) (h : ∀ j, bitAt r j = (bitAt out j ^^ (decide (at_ ≤ j) && bitAt p (j - at_)))) : toB r = toB out + pw XX at_ * toB p := Ser.ext fun j => by
  rw [add_c, pwXX_c, toB_c, h j]
  show (bitAt out j ^^ _) = (bitAt out j ^^ _)
  congr 1
  by_cases e : at_ ≤ j
  · rw [if_pos e, decide_eq_true e]; rfl
  · rw [if_neg e, decide_eq_false e]; rfl
theorem b_add_at {p out : List Int} (hp : Byt p) (hb : Byt out) (hpn : p.length ≤ 1000000) (hn : out.length ≤ 8000000) {at_ : Nat} (hat : at_ ≤ 8000000) (h1 : p.length + at_ / 8 ≤ out.length) (h2 : at_ % 8 ≠ 0 → p.length + at_ / 8 + 1 ≤ out.length) :
    ∃ r, (∀ k, p.length < k → bpoly_add.f k out p (at_ : Int) = some r) ∧ r.length = out.length ∧ Byt r ∧ toB r = toB out + pw XX at_ * toB p := by
  obtain ⟨r, g1, g2, g3, g4⟩ := b_add_l0 hp hpn hat hn h1 h2 p.length 0 out rfl hb (by omega)
  exact ⟨r, g1, g2, g3, toB_shift (f := fun _ => true) at_ g4⟩
def mono (i : Nat) (v : Bool) : Ser Bool := cst v * pw XX i
theorem mono_c (i : Nat) (v : Bool) (j : Nat) : (mono i v).c j = (decide (j = i) && v) := by
  have e : mono i v = pw XX i * cst v := R2.mul_comm _ _
  rw [e, pwXX_c, cst_c]
  by_cases h : j = i
  · subst h; rw [if_pos (Nat.le_refl _), Nat.sub_self, if_pos rfl, decide_eq_true rfl, Bool.true_and]
  · rw [decide_eq_false h, Bool.false_and]
    by_cases h1 : i ≤ j
    · rw [if_pos h1, if_neg (by omega)]; rfl
    · rw [if_neg h1]; rfl
theorem mono_false (i : Nat) : mono i false = 0 := by
  unfold mono; rw [show (cst false : Ser Bool) = 0 from cst_zero, r_zero_mul]
theorem mono_true (i : Nat) : mono i true = pw XX i := by
  unfold mono; rw [show (cst true : Ser Bool) = 1 from cst_one, r_one_mul]
theorem mono_bd (i : Nat) (v : Bool) : Bd (mono i v) (i + 1) := fun j hj => by
  rw [mono_c, decide_eq_false (by omega), Bool.false_and]; rfl
def cut (f : Ser Bool) (i : Nat) : Ser Bool := ⟨fun j => if j < i then f.c j else 0⟩
theorem cut_zero (f : Ser Bool) : cut f 0 = 0 := Ser.ext fun j => by
  show (if j < 0 then f.c j else 0) = 0
  rw [if_neg (by omega)]
theorem cut_succ (f : Ser Bool) (i : Nat) : cut f (i + 1) = cut f i + mono i (f.c i) := Ser.ext fun j => by
  rw [add_c, mono_c]
  show (if j < i + 1 then f.c j else 0) = ((if j < i then f.c j else 0) ^^ (decide (j = i) && f.c i))
  by_cases h : j = i
  · subst h; rw [if_pos (by omega), if_neg (by omega), decide_eq_true rfl, Bool.true_and]; exact (Bool.false_xor _).symm
  · rw [decide_eq_false h, Bool.false_and, Bool.xor_false]
    by_cases h1 : j < i
    · rw [if_pos h1, if_pos (by omega)]
    · rw [if_neg h1, if_neg (by omega)]
theorem cut_all {f : Ser Bool} {n : Nat} (h : Bd f n) : cut f n = f := Ser.ext fun j => by
  show (if j < n then f.c j else 0) = f.c j
  by_cases h1 : j < n
  · rw [if_pos h1]
  · rw [if_neg h1, h j (by omega)]
theorem b_Mul_l0 {p q : List Int} (hp : Byt p) (hq : Byt q) (hpn : p.length ≤ 100000) (hqn : q.length ≤ 100000) :
    ∀ (d i : Nat) (out : List Int), out.length = p.length + q.length + 1 → Byt out → toB out = cut (toB p) i * toB q → i + d = 8 * p.length →
      ∃ s, (∀ k, d + p.length + q.length + 2 < k → bpoly_Mul.l0 k p q out ((8 * p.length : Nat) : Int) (i : Int) = some (fin s)) ∧ Byt s ∧ toB s = toB p * toB q
  | 0, i, out, ho, hb, ht, hd => by
    refine ⟨out, fun k hk => ?_, hb, ?_⟩
    · obtain ⟨k, rfl⟩ := fuel hk
      simp only [bpoly_Mul.l0]
      rw [if_neg (by omega), b_norm (by omega) (by omega), Option.bind_some]
    · rw [ht, cut_all ((toB_bd p).mono (by omega))]
  | d + 1, i, out, ho, hb, ht, hd => by
    have hone := b_one_at hp (by omega) (show i < 8 * p.length by omega)
    have k3 : i + 1 ≤ 9000000 := by omega
    by_cases h : bitAt p i = true
    · obtain ⟨r, g1, g2, g3, g4⟩ := b_add_at (p := q) (out := out) hq hb (by omega) (by omega) (at_ := i) (by omega) (by omega) (fun _ => by omega)
      obtain ⟨s, s1, s2, s3⟩ := b_Mul_l0 hp hq hpn hqn d (i + 1) r (by omega) g3 (by rw [g4, ht, cut_succ, toB_c, h, mono_true, r_add_mul]) (by omega)
      refine ⟨s, fun k hk => ?_, s2, s3⟩
      obtain ⟨k, rfl⟩ := fuel hk
      have h1 := g1 k (by omega)
      have h2 := s1 k (by omega)
      simp only [bpoly_Mul.l0]
      rw [if_pos (by omega), hone, Option.bind_some, if_pos h, h1, Option.bind_some, show wrap64 ((i : Int) + 1) = ((i + 1 : Nat) : Int) from cst_add (b := 1) k3]
      exact h2
    · obtain ⟨s, s1, s2, s3⟩ := b_Mul_l0 hp hq hpn hqn d (i + 1) out ho hb (by rw [ht, cut_succ, toB_c, Bool.eq_false_iff.2 h, mono_false, R2.add_zero]) (by omega)
      refine ⟨s, fun k hk => ?_, s2, s3⟩
      obtain ⟨k, rfl⟩ := fuel hk
      have h2 := s1 k (by omega)
      simp only [bpoly_Mul.l0]
      rw [if_pos (by omega), hone, Option.bind_some, if_neg h, show wrap64 ((i : Int) + 1) = ((i + 1 : Nat) : Int) from cst_add (b := 1) k3]
      exact h2
theorem b_Mul {p q : List Int} (hp : Byt p) (hq : Byt q) (hpn : p.length ≤ 100000) (hqn : q.length ≤ 100000) : ∃ r, (Evt fun k => bpoly_Mul.f k p q = some r) ∧ CanB (toB p * toB q) r := by
  obtain ⟨s, s1, s2, s3⟩ := b_Mul_l0 hp hq hpn hqn (8 * p.length) 0 (List.replicate (p.length + q.length + 1) 0) List.length_replicate (Byt.zeros _) (by rw [toB_zeros, cut_zero, r_zero_mul]) (by omega)
  refine ⟨fin s, Evt.of (8 * p.length + p.length + q.length + 2) fun k hk => ?_, s3 ▸ CanB.of s2⟩
  have h := s1 k (by omega)
  have e1 : wrap64 (wrap64 ((p.length : Int) + (q.length : Int)) + 1) = ((p.length + q.length + 1 : Nat) : Int) := by
    rw [show wrap64 ((p.length : Int) + (q.length : Int)) = ((p.length + q.length : Nat) : Int) from cst_add (by omega)]
    exact cst_add (b := 1) (by omega)
  have e2 : wrap64 (8 * (p.length : Int)) = ((8 * p.length : Nat) : Int) := by rw [w64 (by omega) (by omega)]; omega
  unfold bpoly_Mul.f
  rw [e1, e2, Int.toNat_natCast]
  clear e1 e2
  rw [if_pos (by omega), if_pos (by omega)]
  exact h
theorem len8_check : allb (fun v => v == 0 || (v.testBit (Lib.bitLen v - 1) && decide (v < 2 ^ Lib.bitLen v) && decide (0 < Lib.bitLen v) && decide (Lib.bitLen v ≤ 8))) 8 0 = true := by decide +kernel
theorem len8_spec {v : Nat} (h0 : v ≠ 0) (hv : v < 256) : v.testBit (Lib.bitLen v - 1) = true ∧ v < 2 ^ Lib.bitLen v ∧ 0 < Lib.bitLen v ∧ Lib.bitLen v ≤ 8 := by
  have h := allb_sound 8 0 len8_check v (by omega) (by omega)
  rw [show (v == 0) = false from beq_eq_false_iff_ne.2 h0, Bool.false_or] at h
  simp only [Bool.and_eq_true, decide_eq_true_eq] at h
  exact ⟨h.1.1.1, h.1.1.2, h.1.2, h.2⟩
/-- How long a row is in bits. -/
def bsz (l : List Int) : Nat := sz (bitAt l) (8 * l.length)
theorem bsz_is {l : List Int} {f : Ser Bool} {n : Nat} (h : toB l = f) (hf : Bd f n) : bsz l = sz f.c n := by
  rw [← h] at hf ⊢
  exact sz_any (f := toB l) (toB_bd l) hf
theorem bsz_top {l : List Int} {d : Nat} (h : (toB l).c d = true) (h' : Bd (toB l) (d + 1)) : bsz l = d + 1 :=
  sz_is (f := toB l) h h' (Nat.lt_of_not_le fun e => by have := toB_bd l d e; rw [h] at this; exact absurd this (by decide))
theorem bsz_0 {l : List Int} (h : toB l = 0) : bsz l = 0 := sz_0 (f := toB l) _ h
theorem bsz_fin (l : List Int) : bsz (fin l) = bsz l := bsz_is (toB_fin l) (toB_bd l)
theorem b_Degree {l : List Int} (hl : Byt l) (hn : l.length ≤ 1000000) {k : Nat} (hk : l.length < k) : bpoly_Degree.f k l = some ((bsz l : Int) - 1) := by
  unfold bpoly_Degree.f
  rw [b_norm (by omega) hk, Option.bind_some]
  have hle := fin_le l
  by_cases h0 : (fin l).length = 0
  · rw [if_pos (by omega), bsz_0 (by rw [← toB_fin, List.eq_nil_of_length_eq_zero h0, toB_nil])]; rfl
  · obtain ⟨m, hm⟩ : ∃ m, (fin l).length = m + 1 := ⟨(fin l).length - 1, by omega⟩
    have hv := (Byt.fin hl).get m
    have hne : (fin l).getD m 0 ≠ 0 := by
      have := fin_top l (by omega)
      rw [hm, Nat.add_sub_cancel] at this
      rwa [fin_get]
    obtain ⟨t1, t2, t3, t4⟩ := len8_spec (v := ((fin l).getD m 0).toNat) (by omega) (by omega)
    have hb : bsz l = 8 * m + Lib.bitLen ((fin l).getD m 0).toNat := by
      have := bsz_top (l := fin l) (d := 8 * m + (Lib.bitLen ((fin l).getD m 0).toNat - 1)) (by
        show bitAt (fin l) _ = true
        unfold bitAt
        rw [show (8 * m + (Lib.bitLen ((fin l).getD m 0).toNat - 1)) / 8 = m from by omega, show (8 * m + (Lib.bitLen ((fin l).getD m 0).toNat - 1)) % 8 = Lib.bitLen ((fin l).getD m 0).toNat - 1 from by omega]
        exact t1) (fun i hi => by
        show bitAt (fin l) i = false
        by_cases h2 : 8 * (fin l).length ≤ i
        · exact bitAt_out h2
        · unfold bitAt
          rw [show i / 8 = m from by omega]
          exact Nat.testBit_lt_two_pow (Nat.lt_of_lt_of_le t2 (Nat.pow_le_pow_right (by omega) (by omega))))
      rw [bsz_fin] at this
      omega
    have e1 : wrap64 (((m + 1 : Nat) : Int) - 1) = (m : Int) := by rw [w64 (by omega) (by omega)]; omega
    rw [hm, e1, rd_nat]
    generalize (fin l).getD m 0 = v at hv hne t1 t2 t3 t4 hb
    have e2 : bits_Len8.f v = some ((Lib.bitLen v.toNat : Nat) : Int) := by
      unfold bits_Len8.f
      rw [if_pos hv.1, if_pos (by omega)]
    clear t1 t2
    have e3 : wrap64 (wrap64 (wrap64 (wrap64 (8 * ((m + 1 : Nat) : Int)) - 8) + ((Lib.bitLen v.toNat : Nat) : Int)) - 1) = (bsz l : Int) - 1 := by
      rw [show wrap64 (8 * ((m + 1 : Nat) : Int)) = 8 * ((m + 1 : Nat) : Int) from w64 (by omega) (by omega), show wrap64 (8 * ((m + 1 : Nat) : Int) - 8) = 8 * ((m + 1 : Nat) : Int) - 8 from w64 (by omega) (by omega), show wrap64 (8 * ((m + 1 : Nat) : Int) - 8 + ((Lib.bitLen v.toNat : Nat) : Int)) = 8 * ((m + 1 : Nat) : Int) - 8 + ((Lib.bitLen v.toNat : Nat) : Int) from w64 (by omega) (by omega), w64 (by omega) (by omega)]
      omega
    rw [if_neg (by omega), if_pos (by omega), if_pos (by omega), e2, Option.bind_some, e3]
/-- What is left of f behind g, whose degree is d. -/
def Rest (f g r : Ser Bool) (d : Nat) : Prop := Bd r d ∧ ∃ a n, Bd a n ∧ f = a * g + r
theorem Rest.add {f f' g r r' : Ser Bool} {d : Nat} (h : Rest f g r d) (h' : Rest f' g r' d) : Rest (f + f') g (r + r') d := by
  obtain ⟨h1, a, n, h2, h3⟩ := h
  obtain ⟨h1', a', n', h2', h3'⟩ := h'
  exact ⟨h1.add h1', a + a', max n n', (h2.mono (Nat.le_max_left n n')).add (h2'.mono (Nat.le_max_right n n')), by rw [h3, h3', r_add_mul]; ac_rfl⟩
theorem Rest.mul {a g : Ser Bool} {n d : Nat} (h : Bd a n) : Rest (a * g) g 0 d := ⟨Bd_zero _, a, n, h, (R2.add_zero _).symm⟩
theorem Rest.start {f g : Ser Bool} {d : Nat} (h : Bd f d) : Rest f g f d := ⟨h, 0, 0, Bd_zero _, by rw [r_zero_mul, r_zero_add]⟩
theorem cpy_is (l : List Int) : cpy l (List.replicate (l.length + 1) 0) = l ++ [0] := by
  unfold cpy
  rw [List.length_replicate, Nat.min_eq_left (by omega), List.take_length, List.drop_replicate, Nat.add_sub_cancel_left]; rfl
theorem b_Mod_l0 {t : List Int} (ht : Byt t) {d n : Nat} (hn : n ≤ 100000) (htl : t.length = d / 8 + 1) (h1 : (toB t).c d = true) (h2 : Bd (toB t) (d + 1)) (hd : d ≤ 1000000) (F : Ser Bool) :
    ∀ (e i : Nat) (out : List Int), out.length = n + 1 → Byt out → Bd (toB out) i → i ≤ 8 * n → i ≤ d + e → (∃ a m, Bd a m ∧ F = a * toB t + toB out) →
      ∃ s, (∀ k, e + n + t.length + 2 < k → bpoly_Mod.l0 k t (d : Int) out ((i : Int) - 1) = some (fin s, 0)) ∧ Byt s ∧ Rest F (toB t) (toB s) d
  | 0, i, out, ho, hb, hbd, hi, he, ha => by
    refine ⟨out, fun k hk => ?_, hb, hbd.mono (by omega), ha⟩
    obtain ⟨k, rfl⟩ := fuel hk
    simp only [bpoly_Mod.l0]
    rw [if_neg (by omega), b_norm (by omega) (by omega), Option.bind_some]
  | e + 1, i, out, ho, hb, hbd, hi, he, ha => by
    by_cases hid : i ≤ d
    · refine ⟨out, fun k hk => ?_, hb, hbd.mono (by omega), ha⟩
      obtain ⟨k, rfl⟩ := fuel hk
      simp only [bpoly_Mod.l0]
      rw [if_neg (by omega), b_norm (by omega) (by omega), Option.bind_some]
    · obtain ⟨j, rfl⟩ : ∃ j, i = j + 1 := ⟨i - 1, by omega⟩
      have hone := b_one_at hb (by omega) (show j < 8 * out.length by omega)
      have ej : ((j + 1 : Nat) : Int) - 1 = (j : Int) := by omega
      have ew : wrap64 ((j : Int) - 1) = (j : Int) - 1 := w64 (by omega) (by omega)
      have ed : wrap64 ((j : Int) - (d : Int)) = ((j - d : Nat) : Int) := by rw [w64 (by omega) (by omega)]; omega
      rw [ej]
      by_cases h : bitAt out j = true
      · have c1 : t.length + (j - d) / 8 + 1 ≤ out.length := by clear ew ed; omega
        obtain ⟨r, g1, g2, g3, g4⟩ := b_add_at (p := t) (out := out) ht hb (by clear ew ed; omega) (by clear ew ed; omega) (at_ := j - d) (by clear ew ed; omega) (by clear ew ed; omega) (fun _ => c1)
        have hX : (pw XX (j - d) * toB t).c j = true := by
          rw [pwXX_c, if_pos (by clear ew ed; omega), show j - (j - d) = d from by clear ew ed; omega]; exact h1
        have hXb : Bd (pw XX (j - d) * toB t) (j + 1) := fun q hq => by
          rw [pwXX_c]; split
          · exact h2 _ (by clear ew ed; omega)
          · rfl
        obtain ⟨s, s1, s2, s3⟩ := b_Mod_l0 ht hn htl h1 h2 hd F e j r (by omega) g3 (by
          rw [g4]
          intro q hq
          by_cases e : q = j
          · subst e; rw [add_c, toB_c, h, hX]; rfl
          · exact (hbd.add hXb) q (by clear ew ed; omega)) (by clear ew ed; omega) (by clear ew ed; omega) (by
          obtain ⟨a, m, a1, a2⟩ := ha
          refine ⟨a + mono (j - d) true, max m (j - d + 1), (a1.mono (Nat.le_max_left _ _)).add ((mono_bd _ _).mono (Nat.le_max_right _ _)), ?_⟩
          rw [a2, g4, r_add_mul, mono_true]
          have := R2.add_self (pw XX (j - d) * toB t)
          rw [show a * toB t + pw XX (j - d) * toB t + (toB out + pw XX (j - d) * toB t) = a * toB t + toB out + (pw XX (j - d) * toB t + pw XX (j - d) * toB t) from by ac_rfl, this, R2.add_zero])
        refine ⟨s, fun k hk => ?_, s2, s3⟩
        obtain ⟨k, rfl⟩ := fuel hk
        have c2 : (j : Int) ≥ (d : Int) := by clear ew ed; omega
        have hk1 := g1 k (by clear ew ed; omega)
        have hk2 := s1 k (by clear ew ed; omega)
        simp only [bpoly_Mod.l0]
        rw [if_pos c2, hone, Option.bind_some, if_pos h, ed, hk1, Option.bind_some, ew]
        exact hk2
      · obtain ⟨s, s1, s2, s3⟩ := b_Mod_l0 ht hn htl h1 h2 hd F e j out ho hb (fun q hq => by
          by_cases e : q = j
          · subst e; exact Bool.eq_false_iff.2 h
          · exact hbd q (by clear ew ed; omega)) (by clear ew ed; omega) (by clear ew ed; omega) ha
        refine ⟨s, fun k hk => ?_, s2, s3⟩
        obtain ⟨k, rfl⟩ := fuel hk
        have c2 : (j : Int) ≥ (d : Int) := by clear ew ed; omega
        have hk2 := s1 k (by clear ew ed; omega)
        simp only [bpoly_Mod.l0]
        rw [if_pos c2, hone, Option.bind_some, if_neg h, ew]
        exact hk2
theorem b_Mod {p q : List Int} (hp : Byt p) (hq : Byt q) (hpn : p.length ≤ 100000) (hqn : q.length ≤ 100000) {d : Nat} (h1 : (toB q).c d = true) (h2 : Bd (toB q) (d + 1)) :
    ∃ r f, (Evt fun k => bpoly_Mod.f k p q = some (r, 0)) ∧ CanB f r ∧ Rest (toB p) (toB q) f d := by
  have hlen := bfin_len hq h1 h2
  have hle := fin_le q
  have hz : (List.replicate (p.length + 1) (0 : Int)).length = p.length + 1 := List.length_replicate
  have hdt : d ≤ 1000000 := by omega
  obtain ⟨s, s1, s2, s3⟩ := b_Mod_l0 (t := fin q) (Byt.fin hq) (n := p.length) hpn hlen (by rw [toB_fin]; exact h1) (by rw [toB_fin]; exact h2) hdt (toB p) (8 * p.length) (8 * p.length) (p ++ [0]) (by simp) (hp.append (Byt.cons (by omega) Byt.nil))
    (by rw [show toB (p ++ [0]) = toB p from toB_get fun i => by
          by_cases hi : i < p.length
          · simp [List.getElem?_append, hi]
          · by_cases e : i = p.length
            · subst e; simp
            · simp [List.getElem?_append, hi, List.getElem?_eq_none (show p.length ≤ i by omega), List.getElem?_eq_none (show ([0] : List Int).length ≤ i - p.length by simp; omega)]]
        exact toB_bd p) (Nat.le_refl _) (by omega) ⟨0, 0, Bd_zero _, by
          rw [r_zero_mul, r_zero_add]
          refine toB_get fun i => ?_
          by_cases hi : i < p.length
          · simp [List.getElem?_append, hi]
          · by_cases e : i = p.length
            · subst e; simp
            · simp [List.getElem?_append, hi, List.getElem?_eq_none (show p.length ≤ i by omega), List.getElem?_eq_none (show ([0] : List Int).length ≤ i - p.length by simp; omega)]⟩
  refine ⟨fin s, toB s, Evt.of (8 * p.length + p.length + q.length + 3) fun k hk => ?_, CanB.of s2, by rw [toB_fin] at s3; exact s3⟩
  have e0 : bsz (fin q) = d + 1 := by rw [bsz_fin]; exact bsz_top h1 h2
  have hk1 := s1 k (by omega)
  have e1 : wrap64 ((p.length : Int) + 1) = ((p.length + 1 : Nat) : Int) := cst_add (b := 1) (by omega)
  have e2 : wrap64 (wrap64 (8 * (p.length : Int)) - 1) = ((8 * p.length : Nat) : Int) - 1 := by rw [show wrap64 (8 * (p.length : Int)) = 8 * (p.length : Int) from w64 (by omega) (by omega), w64 (by omega) (by omega)]; omega
  have e3 : ((d + 1 : Nat) : Int) - 1 = (d : Int) := by omega
  unfold bpoly_Mod.f
  rw [b_norm (by omega) (by omega), Option.bind_some, b_Degree (Byt.fin hq) (by omega) (by omega), Option.bind_some, e0, e3, e1, e2, Int.toNat_natCast, cpy_is]
  clear e1 e2
  rw [if_neg (by omega), if_pos (by omega), if_pos (by omega)]
  exact hk1
/-- The value of what stands from the i-th bit on. -/
def tv (f : Ser Bool) (n i : Nat) (x : GF) : GF := ev ⟨fun m => (lift f).c (i + m)⟩ (n - i) x
theorem tv_end (f : Ser Bool) (n : Nat) (x : GF) : tv f n n x = 0 := by unfold tv; rw [Nat.sub_self]; rfl
theorem tv_step (f : Ser Bool) {n i : Nat} (h : i < n) (x : GF) : tv f n i x = tv f n (i + 1) x * x + b2g (f.c i) := by
  unfold tv
  rw [show n - i = n - (i + 1) + 1 from by omega, ev_front]
  rw [R2.add_comm, R2.mul_comm]
  congr 2
  congr 1
  exact Ser.ext fun m => by show (lift f).c (i + (m + 1)) = (lift f).c (i + 1 + m); congr 1; omega
theorem tv_all (f : Ser Bool) (n : Nat) (x : GF) : tv f n 0 x = vb f n x := by
  unfold tv vb
  congr 1
  exact Ser.ext fun m => by show (lift f).c (0 + m) = _; rw [Nat.zero_add]
def toL (l : List Int) : Ser Bool := ⟨fun i => decide (l.getD i 0 = 1)⟩
theorem toL_c (l : List Int) (i : Nat) : (toL l).c i = decide (l.getD i 0 = 1) := rfl
def Bt (l : List Int) : Prop := ∀ i, l.getD i 0 = b2i ((toL l).c i)
theorem Bt.of {l : List Int} (f : Nat → Bool) (h : ∀ i, l.getD i 0 = b2i (f i)) : Bt l ∧ toL l = ⟨f⟩ := by
  have e : ∀ i, (toL l).c i = f i := fun i => by
    rw [toL_c, h i]; cases f i <;> rfl
  exact ⟨fun i => by rw [e]; exact h i, Ser.ext e⟩
theorem getD_out {l : List Int} {i : Nat} (h : l.length ≤ i) : l.getD i 0 = 0 := by simp [List.getElem?_eq_none h]
theorem Bt.set {l : List Int} (h : Bt l) {i : Nat} (hi : i < l.length) (v : Bool) : Bt (l.set i (b2i ((toL l).c i ^^ v))) ∧ toL (l.set i (b2i ((toL l).c i ^^ v))) = toL l + mono i v := by
  have := Bt.of (l := l.set i (b2i ((toL l).c i ^^ v))) (fun j => (toL l).c j ^^ (decide (j = i) && v)) fun j => by
    rw [getD_set _ _ _ _ hi]
    by_cases e : i = j
    · subst e; rw [if_pos rfl, decide_eq_true rfl, Bool.true_and]
    · rw [if_neg e, decide_eq_false (fun h => e h.symm), Bool.false_and, Bool.xor_false]; exact h j
  refine ⟨this.1, this.2.trans (Ser.ext fun j => ?_)⟩
  rw [add_c, mono_c]; rfl
theorem Bt.zeros (n : Nat) : Bt (List.replicate n 0) ∧ toL (List.replicate n 0) = 0 := Bt.of (fun _ => false) fun i => by
  by_cases h : i < n
  · simp [List.getElem?_replicate, h, b2i]
  · simp [List.getElem?_replicate, h, b2i]
theorem Bt.one : Bt [1] ∧ toL [1] = 1 := by
  have := Bt.of (l := [1]) (fun i => decide (i = 0)) fun i => by
    cases i with
    | zero => rfl
    | succ i => simp [b2i]
  refine ⟨this.1, this.2.trans (Ser.ext fun i => ?_)⟩
  rw [one_c]
  show decide (i = 0) = _
  by_cases h : i = 0 <;> simp [h, b_zero, b_one]
/-- How long a list is without noughts at its end. -/
def lsz (l : List Int) : Nat := sz (toL l).c l.length
theorem fin_self {r : List Int} (hr : Byt r) (h : r.length = 0 ∨ ∃ j, 8 * (r.length - 1) ≤ j ∧ bitAt r j = true) : P.fin r = r := by
  have hle := fin_le r
  have hlen : (P.fin r).length = r.length := by
    rcases h with h | ⟨j, h1, h2⟩
    · omega
    · have : j < 8 * (P.fin r).length := Nat.lt_of_not_le fun e => by
        have := bitAt_out (l := P.fin r) e
        rw [← toB_c, toB_fin, toB_c, h2] at this; cases this
      omega
  rw [fin_length] at hlen
  unfold P.fin
  rw [hlen, List.take_length]
theorem conj_one1 (y : GF) : conj y 1 = [y] := by rw [conj_succ]; rfl
theorem b_conjL {x : GF} (h0 : x ≠ 0) (h1 : x ≠ 1) {k : Nat} (hk : 13 < k) : ∀ d i fuel, i + d = 12 → d < fuel → conjL (gf_Mul.f k) (gi x) fuel (gi (pw x (2 ^ i))) = some ((conj (pw x (2 ^ i)) (d + 1)).map gi)
  | 0, i, fuel, hi, hf => by
    obtain ⟨f, rfl⟩ : ∃ f, fuel = f + 1 := ⟨fuel - 1, by omega⟩
    obtain rfl : i = 12 := by omega
    have e : pw x (2 ^ 12) * pw x (2 ^ 12) = x := by rw [← pw_add]; exact pw_8192 x
    rw [conjL, g_Mul _ _ hk, Option.bind_some]
    show (if gi (pw x (2 ^ 12) * pw x (2 ^ 12)) = gi x then _ else _) = _
    rw [e, if_pos rfl, conj_one1]; rfl
  | d + 1, i, fuel, hi, hf => by
    obtain ⟨f, rfl⟩ : ∃ f, fuel = f + 1 := ⟨fuel - 1, by omega⟩
    have e : pw x (2 ^ i) * pw x (2 ^ i) = pw x (2 ^ (i + 1)) := by rw [← pw_add, Nat.pow_succ]; congr 1; omega
    have hne : ¬ gi (pw x (2 ^ (i + 1))) = gi x := fun h => by
      have h2 := gi_inj.1 h
      have h3 := pow_ne_one h0 h1 (i := 0) (j := i + 1) (by omega) (by omega)
      rw [Nat.pow_zero, pw_one] at h3
      exact h3 h2.symm
    rw [conjL, g_Mul _ _ hk, Option.bind_some]
    show (if gi (pw x (2 ^ i) * pw x (2 ^ i)) = gi x then _ else (conjL _ _ f (gi (pw x (2 ^ i) * pw x (2 ^ i)))).bind _) = _
    rw [e, if_neg hne, b_conjL h0 h1 hk d (i + 1) f (by omega) (by omega), Option.bind_some, conj_succ (pw x (2 ^ i)), e]; rfl
theorem b_conj {x : GF} (h0 : x ≠ 0) {k : Nat} (hk : 13 < k) : conjL (gf_Mul.f k) (gi x) 20 (gi x) = some ((cj x).map gi) := by
  unfold cj
  by_cases h1 : x = 1
  · subst h1
    rw [if_pos rfl, conjL, g_Mul _ _ hk, Option.bind_some]
    show (if gi (1 * 1) = gi 1 then _ else _) = _
    rw [R2.mul_one, if_pos rfl]; rfl
  · rw [if_neg h1]
    have := b_conjL h0 h1 hk 12 0 20 (by omega) (by omega)
    rw [Nat.pow_zero, pw_one] at this
    exact this
theorem toS_lin (x : GF) : El [gi x, 1] ∧ toS [gi x, 1] = XX + cst x := by
  refine ⟨El.cons.2 ⟨gi_el x, El.cons.2 ⟨gi_el 1, El.nil⟩⟩, ?_⟩
  rw [toS_cons, toS_cons, gof_gi, toS_nil, show (1 : Int) = gi 1 from rfl, gof_gi, r_mul_zero, R2.add_zero, R2.add_comm]
  congr 1
  exact R2.mul_one XX
theorem b_prodL : ∀ (xs : List GF) (p : List Int), El p → fin p = p → p.length + xs.length ≤ 1000 → toS p ≠ 0 → (toS p).c (p.length - 1) ≠ 0 → 0 < p.length →
    ∃ r, (Evt fun k => prodL k (xs.map gi) p = some r) ∧ El r ∧ r.length = p.length + xs.length ∧ toS r = toS p * lins xs
  | [], p, hp, hf, hn, _, _, _ => ⟨p, Evt.all fun k => rfl, hp, rfl, by show _ = toS p * 1; rw [R2.mul_one]⟩
  | x :: xs, p, hp, hf, hn, h0, ht, hl => by
    obtain ⟨l1, l2⟩ := toS_lin x
    have hm := p_Mul p [gi x, 1] hp l1 (by simp at hn ⊢; omega)
    rw [l2] at hm
    obtain ⟨e, he⟩ : ∃ e, p.length = e + 1 := ⟨p.length - 1, by omega⟩
    have htop : (toS p * (XX + cst x)).c (e + 1) = (toS p).c e := by
      have := mul_top (n := e) (m := 1) (f := toS p) (g := XX + cst x) (by rw [← he]; exact toS_bd p) (Bd_lin1 x)
      rw [this, lin_top1, R2.mul_one]
    have ht' : (toS p).c e ≠ 0 := by rwa [he, Nat.add_sub_cancel] at ht
    have hbd : Bd (toS p * (XX + cst x)) (e + 1 + 1) := Bd.mul (n := e) (m := 1) (by rw [← he]; exact toS_bd p) (Bd_lin1 x)
    have hbd2 : Bd (toS p * (XX + cst x)) (p.length + [gi x, 1].length) := hbd.mono (by simp; omega)
    have hlen : (pl (toS p * (XX + cst x)) (p.length + [gi x, 1].length)).length = e + 1 + 1 := pl_len hbd2 (by rw [htop]; exact ht') hbd
    have htS : toS (pl (toS p * (XX + cst x)) (p.length + [gi x, 1].length)) = toS p * (XX + cst x) := toS_pl hbd2
    obtain ⟨r, r1, r2, r3, r4⟩ := b_prodL xs (pl (toS p * (XX + cst x)) (p.length + [gi x, 1].length)) (pl_El _ _) (fin_pl _ _) (by rw [hlen]; simp at hn; omega) (by rw [htS]; exact ser_ne (d := e + 1) (by rw [htop]; exact ht')) (by rw [htS, hlen, Nat.add_sub_cancel, htop]; exact ht') (by omega)
    refine ⟨r, (hm.and r1).mono fun k ⟨g1, g2⟩ => ?_, r2, by rw [r3, hlen, List.length_cons]; omega, by rw [r4, htS]; exact R2.mul_assoc _ _ _⟩
    show (poly_Mul.f k p [gi x, 1]).bind _ = _
    rw [g1, Option.bind_some]; exact g2
theorem or_bit {o : Int} (ho : 0 ≤ o ∧ o < 256) (v : Bool) {j : Nat} (hj : j < 8) : (0 ≤ Go.bits .or .u8 o (wrap64 (b2i v * 2 ^ j) % 256) ∧ Go.bits .or .u8 o (wrap64 (b2i v * 2 ^ j) % 256) < 256) ∧ ∀ m, (Go.bits .or .u8 o (wrap64 (b2i v * 2 ^ j) % 256)).toNat.testBit m = (o.toNat.testBit m || (decide (m = j) && v)) := by
  have e : wrap64 (b2i v * 2 ^ j) % 256 = ((if v then 2 ^ j else 0 : Nat) : Int) := by
    have : j = 0 ∨ j = 1 ∨ j = 2 ∨ j = 3 ∨ j = 4 ∨ j = 5 ∨ j = 6 ∨ j = 7 := by omega
    rcases this with rfl | rfl | rfl | rfl | rfl | rfl | rfl | rfl <;> cases v <;> decide +kernel
  have hp := pow8 hj
  have h2' : (if v then 2 ^ j else 0 : Nat) < 256 := by cases v <;> simp [hp]
  have h2 : (0 : Int) ≤ ((if v then 2 ^ j else 0 : Nat) : Int) ∧ ((if v then 2 ^ j else 0 : Nat) : Int) < 256 := ⟨Int.natCast_nonneg _, Int.ofNat_lt.2 h2'⟩
  rw [e, u8_or _ _ ho.1 ho.2 h2.1 h2.2, Int.toNat_natCast, Int.toNat_natCast]
  have h3 : o.toNat ||| (if v then 2 ^ j else 0) < 2 ^ 8 := Nat.or_lt_two_pow (by omega) h2'
  refine ⟨⟨Int.natCast_nonneg _, Int.ofNat_lt.2 h3⟩, fun m => ?_⟩
  rw [Nat.testBit_or]
  cases v
  · simp
  · simp only [if_true, Nat.testBit_two_pow, Bool.and_true]
    congr 1
    by_cases h : m = j
    · rw [decide_eq_true h, decide_eq_true h.symm]
    · rw [decide_eq_false h, decide_eq_false (fun e => h e.symm)]
theorem b_orL (p : List Int) (f : Nat → Bool) (hf : ∀ i, i < p.length → p.getD i 0 = b2i (f i)) {n : Nat} (hn : p.length ≤ 8 * n) : ∀ j, j ≤ p.length →
    (orL p j (List.replicate n 0)).length = n ∧ Byt (orL p j (List.replicate n 0)) ∧ ∀ i, bitAt (orL p j (List.replicate n 0)) i = (decide (i < j) && f i)
  | 0, _ => ⟨List.length_replicate, Byt.zeros _, fun i => by
    rw [decide_eq_false (by omega), Bool.false_and]
    exact congrArg (fun s => s.c i) (toB_zeros n)⟩
  | j + 1, hj => by
    obtain ⟨h1, h2, h3⟩ := b_orL p f hf hn j (by omega)
    have hb := or_bit (h2.get (j / 8)) (f j) (show j % 8 < 8 by omega)
    rw [orL, hf j (by omega)]
    refine ⟨by rw [List.length_set, h1], h2.set _ hb.1, fun i => ?_⟩
    have h4 := h3 i
    unfold bitAt at h4 ⊢
    rw [getD_set _ _ _ _ (by omega)]
    by_cases e : j / 8 = i / 8
    · rw [if_pos e, hb.2, e, h4]
      by_cases e2 : i = j
      · subst e2; rw [decide_eq_false (by omega), decide_eq_true rfl, decide_eq_true (by omega)]; simp
      · rw [decide_eq_false (show ¬ i % 8 = j % 8 by omega), Bool.false_and, Bool.or_false]
        by_cases e3 : i < j
        · rw [decide_eq_true e3, decide_eq_true (by omega)]
        · rw [decide_eq_false e3, decide_eq_false (by omega)]
    · rw [if_neg e, h4]
      by_cases e3 : i < j
      · rw [decide_eq_true e3, decide_eq_true (by omega)]
      · rw [decide_eq_false e3, decide_eq_false (by omega)]
theorem b_Minimal (n : Int) (h0 : -9223372036854775808 ≤ n) (h1 : n ≤ 9223372036854775807) : ∃ r, (Evt fun k => bpoly_Minimal.f k n = some r) ∧ CanB (mp (pw w (ex n))) r := by
  have hx0 : pw w (ex n) ≠ 0 := pw_ne w_ne _
  generalize hx : pw w (ex n) = x at hx0 ⊢
  have hone : El [1] ∧ toS [1] = 1 := by
    refine ⟨El.cons.2 ⟨gi_el 1, El.nil⟩, ?_⟩
    rw [toS_cons, toS_nil, r_mul_zero, R2.add_zero, show (1 : Int) = gi 1 from rfl, gof_gi]; exact cst_one
  have hcl : (cj x).length ≤ 13 := by rw [cj_length]; unfold mdeg; split <;> omega
  obtain ⟨p, p1, p2, p3, p4⟩ := b_prodL (cj x) [1] hone.1 (by decide) (by simp; omega) (by rw [hone.2]; exact ser_ne (d := 0) (by rw [one_c, if_pos rfl]; exact g_one_ne)) (by rw [hone.2]; show (1 : Ser GF).c 0 ≠ 0; rw [one_c, if_pos rfl]; exact g_one_ne) (by simp)
  rw [hone.2, r_one_mul] at p4
  have hfr : frob (toS p) = toS p := by rw [p4]; exact frob_cj x
  have hpb : ∀ i, p.getD i 0 = b2i ((mp x).c i) := fun i => by
    have h2 : (toS p).c i * (toS p).c i = (toS p).c i := congrArg (fun s => s.c i) hfr
    rw [← gi_toS p2 i]
    have h3 : (mp x).c i = decide ((toS p).c i = 1) := by rw [p4]; rfl
    rw [h3]
    rcases g_sq_self h2 with h | h
    · rw [h, decide_eq_false (fun e => g_one_ne e.symm)]; rfl
    · rw [h, decide_eq_true rfl]; rfl
  obtain ⟨o1, o2, o3⟩ := b_orL p (mp x).c (fun i _ => hpb i) (n := p.length / 8 + 1) (by omega) p.length (Nat.le_refl _)
  have ho : toB (orL p p.length (List.replicate (p.length / 8 + 1) 0)) = mp x := Ser.ext fun i => by
    rw [toB_c, o3]
    by_cases h : i < p.length
    · rw [decide_eq_true h, Bool.true_and]
    · rw [decide_eq_false h, Bool.false_and]
      have := hpb i
      rw [getD_out (by omega)] at this
      cases hc : (mp x).c i
      · rfl
      · rw [hc] at this; exact absurd this (by decide)
  refine ⟨fin (orL p p.length (List.replicate (p.length / 8 + 1) 0)), ?_, ho ▸ CanB.of o2⟩
  refine (p1.and (Evt.of 200 fun k hk => hk)).mono fun k ⟨g1, hk⟩ => ?_
  unfold bpoly_Minimal.f
  rw [if_pos (by omega), g_Exp n h0 h1 (by omega), hx, Option.bind_some]
  show ((conjL (gf_Mul.f k) (gi x) 20 (gi x)).bind _) = _
  rw [b_conj hx0 (by omega), Option.bind_some, if_pos (by rw [List.length_map]; omega), g1, Option.bind_some]
theorem b_Generator_l0 {t : Nat} (ht : t ≤ 8) : ∀ (d i : Nat) (x : List Int), i + d = t → CanB (gen i) x → ∃ r, (Evt fun k => bpoly_Generator.l0 k (t : Int) x ((2 * i + 1 : Nat) : Int) = some (r, 0)) ∧ CanB (gen t) r
  | 0, i, x, hi, hx => by
    obtain rfl : i = t := by omega
    refine ⟨x, Evt.of 0 fun k hk => ?_, hx⟩
    obtain ⟨k, rfl⟩ := fuel hk
    simp only [bpoly_Generator.l0]
    rw [show wrap64 (2 * (i : Int)) = 2 * (i : Int) from w64 (by omega) (by omega), if_neg (by omega)]
  | d + 1, i, x, hi, hx => by
    obtain ⟨m, m1, m2⟩ := b_Minimal ((2 * i + 1 : Nat) : Int) (by omega) (by omega)
    rw [ex_nat, Nat.mod_eq_of_lt (by omega)] at m2
    have hxl := hx.len (gen_bd (by omega))
    have hml := m2.len (mp_bd _)
    have hmd : mdeg (pw w (2 * i + 1)) ≤ 13 := by unfold mdeg; split <;> omega
    obtain ⟨y, y1, y2⟩ := b_Mul hx.byt m2.byt (by omega) (by omega)
    rw [hx.is, m2.is] at y2
    obtain ⟨r, r1, r2⟩ := b_Generator_l0 ht d (i + 1) y (by omega) y2
    refine ⟨r, (m1.and (y1.and r1)).step fun k ⟨g1, g2, g3⟩ => ?_, r2⟩
    have e1 : wrap64 (2 * (t : Int)) = 2 * (t : Int) := w64 (by omega) (by omega)
    have e2 : wrap64 (((2 * i + 1 : Nat) : Int) + 2) = ((2 * (i + 1) + 1 : Nat) : Int) := by rw [w64 (by clear e1; omega) (by clear e1; omega)]; clear e1; omega
    simp only [bpoly_Generator.l0]
    rw [e1, e2]
    clear e1 e2
    rw [if_pos (by omega), g1, Option.bind_some, g2, Option.bind_some, g3]
theorem can_one : CanB 1 [1] := by
  have hb : Byt [1] := Byt.cons (by omega) Byt.nil
  have e : toB [1] = 1 := Ser.ext fun i => by
    rw [toB_c, one_c]
    unfold bitAt
    by_cases h : i = 0
    · subst h; rfl
    · rw [if_neg h]
      by_cases h1 : i / 8 = 0
      · rw [h1]
        have : i % 8 ≠ 0 := by omega
        show Nat.testBit 1 (i % 8) = 0
        rw [Nat.testBit_lt_two_pow (Nat.lt_of_lt_of_le (show 1 < 2 ^ 1 by omega) (Nat.pow_le_pow_right (by omega) (by omega)))]; rfl
      · obtain ⟨q, hq⟩ : ∃ q, i / 8 = q + 1 := ⟨i / 8 - 1, by omega⟩
        rw [hq]; simp [b_zero]
  exact ⟨hb, fin_self hb (.inr ⟨0, by simp, by rw [← toB_c, e]; rfl⟩), e⟩
theorem b_Generator {t : Nat} (ht1 : 1 ≤ t) (ht : t ≤ 8) : ∃ r, (Evt fun k => bpoly_Generator.f k (t : Int) = some (r, 0)) ∧ CanB (gen t) r := by
  obtain ⟨r, r1, r2⟩ := b_Generator_l0 ht t 0 [1] (by omega) can_one
  refine ⟨r, ?_, r2⟩
  obtain ⟨K, hK⟩ := r1
  refine Evt.of (K + 1) fun k hk => ?_
  obtain ⟨k, rfl⟩ := fuel hk
  unfold bpoly_Generator.f
  rw [if_neg (by omega), decide_eq_false (by omega), bpoly_Generator.j0, if_neg (by simp)]
  exact hK k (by omega)
end Go.Proofs.Ytfpdloccmneabaa.L

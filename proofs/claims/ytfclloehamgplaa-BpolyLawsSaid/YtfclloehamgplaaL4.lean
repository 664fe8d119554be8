/- What the functions of layer 4 (bpoly) and of its reference come to: rows of bytes and lists of bits as polynomials of bits. Conditions: the rows are bytes, no longer than the statements let in. -/
import Derived.Test.YtfclloehamgplaaL3
import Derived.Test.YtfclloehamgplaaPx0
import Derived.Test.YtfclloehamgplaaPx4
import Derived.Test.YtfclloehamgplaaPx7
import Derived.Test.YtfclloehamgplaaMBch
import Derived.Lib.BitFns
set_option linter.unusedVariables false
set_option linter.unusedSimpArgs false
namespace Go.Proofs.Ytfclloehamgplaa.L
open Go Go.RowKit Go.Proofs.Ytfclloehamgplaa.P Go.Proofs.YtfclloehamgplaaW.PrintWords Go.Proofs.YtfclloehamgplaaW.PrintLast Go.Proofs.YtfclloehamgplaaW.PrintMore Go.Proofs.CsM
def toB (l : List Int) : Ser Bool := ⟨bitAt l⟩
theorem toB_c (l : List Int) (i : Nat) : (toB l).c i = bitAt l i := rfl
theorem toB_bd (l : List Int) : Bd (toB l) (8 * l.length) := fun i hi => bitAt_out hi
theorem toB_get {l m : List Int} (h : ∀ i, l.getD i 0 = m.getD i 0) : toB l = toB m := Ser.ext fun i => by
  show bitAt l i = bitAt m i
  unfold bitAt; rw [h]
theorem toB_nil : toB [] = 0 := Bd.zero_of (toB_bd [])
theorem toB_fin (l : List Int) : toB (fin l) = toB l := toB_get fun i => fin_get l i
theorem toB_zeros (n : Nat) : toB (List.replicate n 0) = 0 := by
  refine Eq.trans (toB_get fun i => ?_) toB_nil
  by_cases h : i < n
  · simp [List.getElem?_replicate, h]
  · simp [List.getElem?_replicate, h]
theorem bfin_top {l : List Int} (hl : Byt l) (h : 0 < (fin l).length) : ∃ j, 8 * ((fin l).length - 1) ≤ j ∧ j < 8 * (fin l).length ∧ bitAt l j = true := by
  have h1 := fin_top l h
  have hb := hl.get ((fin l).length - 1)
  refine Classical.byContradiction fun hn => h1 ?_
  have : (l.getD ((fin l).length - 1) 0).toNat = 0 := testBit_ext8 (by omega) (by omega) fun j hj => by
    rw [Nat.zero_testBit]
    refine Bool.eq_false_iff.2 fun e => hn ⟨8 * ((fin l).length - 1) + j, by omega, by omega, ?_⟩
    unfold bitAt
    rw [show (8 * ((fin l).length - 1) + j) / 8 = (fin l).length - 1 from by omega, show (8 * ((fin l).length - 1) + j) % 8 = j from by omega]
    exact e
  omega
theorem bfin_len {l : List Int} (hl : Byt l) {d : Nat} (h : (toB l).c d = true) (h' : Bd (toB l) (d + 1)) : (fin l).length = d / 8 + 1 := by
  have h1 : d < 8 * (fin l).length := Nat.lt_of_not_le fun e => by
    have := toB_bd (fin l) d e
    rw [toB_fin] at this
    rw [h] at this; exact absurd this (by decide)
  obtain ⟨j, h2, h3, h4⟩ := bfin_top hl (by omega)
  have h5 : j < d + 1 := Nat.lt_of_not_le fun e => by
    have := h' j e
    rw [toB_c, h4] at this; exact absurd this (by decide)
  omega
theorem bfin_0 {l : List Int} (hl : Byt l) (h : toB l = 0) : fin l = [] := by
  by_cases e : 0 < (fin l).length
  · obtain ⟨j, _, _, h4⟩ := bfin_top hl e
    rw [← toB_c, h] at h4
    have h5 : (0 : Ser Bool).c j = false := rfl
    rw [h5] at h4; cases h4
  · exact List.eq_nil_of_length_eq_zero (by omega)
theorem Byt.fin {l : List Int} (h : Byt l) : Byt (fin l) := h.take _
theorem bfin_eq {l m : List Int} (hl : Byt l) (hm : Byt m) (h : toB l = toB m) : fin l = fin m := by
  refine byt_ext (Byt.fin hl) (Byt.fin hm) ?_ fun i _ => by rw [← toB_c, ← toB_c, toB_fin, toB_fin, h]
  by_cases h0 : toB l = 0
  · rw [bfin_0 hl h0, bfin_0 hm (by rw [← h, h0])]
  · obtain ⟨d, _, h1, h2⟩ := dtop (toB_bd l) h0
    rw [bfin_len hl (b_ne0.1 h1) h2, bfin_len hm (by rw [← h]; exact b_ne0.1 h1) (by rw [← h]; exact h2)]
/-- The shortest row of a polynomial. -/
structure CanB (f : Ser Bool) (r : List Int) : Prop where
  byt : Byt r
  fin : fin r = r
  is : toB r = f
theorem CanB.eq {f g : Ser Bool} {r s : List Int} (h : CanB f r) (h' : CanB g s) (e : f = g) : r = s := by
  rw [← h.fin, ← h'.fin]; exact bfin_eq h.byt h'.byt (by rw [h.is, h'.is, e])
theorem CanB.of {l : List Int} (hl : Byt l) : CanB (toB l) (P.fin l) := ⟨Byt.fin hl, bfin_eq (Byt.fin hl) hl (toB_fin l), toB_fin l⟩
theorem CanB.len {f : Ser Bool} {r : List Int} (h : CanB f r) {n : Nat} (hf : Bd f n) : r.length ≤ (n + 7) / 8 := by
  by_cases e : 0 < r.length
  · obtain ⟨j, h1, h2, h3⟩ := bfin_top h.byt (by rw [h.fin]; exact e)
    rw [h.fin] at h1
    have h5 : j < n := Nat.lt_of_not_le fun e => by
      have := hf j e
      rw [← h.is, toB_c, h3] at this; exact absurd this (by decide)
    omega
  · omega
theorem CanB.length {f : Ser Bool} {r : List Int} (h : CanB f r) {d : Nat} (h1 : f.c d = true) (h2 : Bd f (d + 1)) : r.length = d / 8 + 1 := by
  rw [← h.fin]; exact bfin_len h.byt (by rw [h.is]; exact h1) (by rw [h.is]; exact h2)
theorem CanB.nil {f : Ser Bool} {r : List Int} (h : CanB f r) (e : f = 0) : r = [] := by
  rw [← h.fin]; exact bfin_0 h.byt (by rw [h.is, e])
theorem b_norm_l0 {l : List Int} (hn : l.length ≤ 8000000) : ∀ n k, n ≤ l.length → n < k → bpoly_norm.l0 k (l.take n) = some (l.take (normN l n))
  | 0, k, h, hk => by
    obtain ⟨k, rfl⟩ := fuel hk
    simp only [bpoly_norm.l0]
    rw [if_neg (by simp)]; rfl
  | n + 1, k, h, hk => by
    obtain ⟨k, rfl⟩ := fuel hk
    have e : (l.take (n + 1)).length = n + 1 := by rw [List.length_take]; omega
    simp only [bpoly_norm.l0]
    rw [e, w64 (by omega) (by omega), show ((n + 1 : Nat) : Int) - 1 = (n : Int) from by omega, if_pos (by omega), if_pos (by omega), if_pos (by omega), rd_nat, show (l.take (n + 1)).getD n 0 = l.getD n 0 from by simp [List.getElem?_take], Int.toNat_natCast, List.take_take, Nat.min_eq_left (by omega)]
    unfold normN
    by_cases h0 : l.getD n 0 = 0
    · rw [if_pos h0, if_pos h0, if_pos (by omega)]; exact b_norm_l0 hn n k (by omega) (by omega)
    · rw [if_neg h0, if_neg h0]
theorem b_norm {l : List Int} (hn : l.length ≤ 8000000) {k : Nat} (hk : l.length < k) : bpoly_norm.f k l = some (fin l) := by
  have := b_norm_l0 hn l.length k (Nat.le_refl _) hk
  rwa [List.take_length] at this
theorem b_one_at {l : List Int} (hl : Byt l) (hn : l.length ≤ 8000000) {i : Nat} (hi : i < 8 * l.length) : bpoly_one.f l (i : Int) = some (bitAt l i) := by
  have hb := hl.get (i / 8)
  unfold bpoly_one.f
  rw [tdv 8 (by omega), w64 (by omega) (by omega), if_pos (by omega), if_pos (by omega), tmd 8 (by omega), if_pos (by omega)]
  have e : rd l ((i : Int) / 8) = l.getD (i / 8) 0 := by rw [rd_of (by omega), show ((i : Int) / 8).toNat = i / 8 from by omega]
  have e2 : (i : Int) % 8 = ((i % 8 : Nat) : Int) := by omega
  rw [e, e2, shr_u8 _ _ hb.1 (by omega)]
  have hs : (l.getD (i / 8) 0).toNat >>> (i % 8) < 256 := by
    rw [Nat.shiftRight_eq_div_pow]; have := Nat.div_le_self (l.getD (i / 8) 0).toNat (2 ^ (i % 8)); omega
  rw [u8_and _ _ (Int.natCast_nonneg _) (by omega) (by omega) (by omega), Int.toNat_natCast]
  unfold bitAt
  rw [Nat.testBit_eq_decide_div_mod_eq, Nat.shiftRight_eq_div_pow, show Int.toNat 1 = 1 from rfl, Nat.and_one_is_mod]
  congr 1
  rcases Nat.mod_two_eq_zero_or_one ((l.getD (i / 8) 0).toNat / 2 ^ (i % 8)) with h | h <;> rw [h] <;> rfl
/-- A byte changed. -/
theorem bitAt_setx {l : List Int} (hl : Byt l) {a : Nat} (ha : a < l.length) {v : Int} (hv : 0 ≤ v ∧ v < 256) (j : Nat) : bitAt (l.set a (Go.bits .xor .u8 (l.getD a 0) v)) j = (bitAt l j ^^ (decide (j / 8 = a) && v.toNat.testBit (j % 8))) := by
  have hb := hl.get a
  unfold bitAt
  rw [u8_xor _ _ hb.1 hb.2 hv.1 hv.2, getD_set _ _ _ _ ha]
  by_cases h : a = j / 8
  · rw [if_pos h, Int.toNat_natCast, Nat.testBit_xor, h, decide_eq_true rfl, Bool.true_and]
  · rw [if_neg h, decide_eq_false (fun e => h e.symm), Bool.false_and, Bool.xor_false]
theorem xor_byte {a v : Int} (ha : 0 ≤ a ∧ a < 256) (hv : 0 ≤ v ∧ v < 256) : 0 ≤ Go.bits .xor .u8 a v ∧ Go.bits .xor .u8 a v < 256 := by
  rw [u8_xor _ _ ha.1 ha.2 hv.1 hv.2]
  have : a.toNat ^^^ v.toNat < 2 ^ 8 := Nat.xor_lt_two_pow (by omega) (by omega)
  omega
theorem shl_u16 {x : Int} (h : 0 ≤ x ∧ x < 256) {s : Nat} (hs : s < 8) : shl .u16 (IntKind.u16.wrap x) (s : Int) = ((x.toNat * 2 ^ s : Nat) : Int) ∧ x.toNat * 2 ^ s < 65536 := by
  obtain ⟨a, rfl⟩ := Int.eq_ofNat_of_zero_le h.1
  have hp : 2 ^ s < 256 := pow8 hs
  have hm : a * 2 ^ s < 65536 := by
    have h1 : a < 256 := by omega
    have := Nat.mul_le_mul (show a ≤ 255 by omega) (show 2 ^ s ≤ 255 by omega)
    omega
  refine ⟨?_, by rw [Int.toNat_natCast]; exact hm⟩
  unfold shl
  rw [IntKind.wrap_u16, IntKind.wrap_u16, Int.toNat_natCast, Int.toNat_natCast, show IntKind.u16.bits = 16 from rfl, Nat.min_eq_left (by omega), Int.emod_eq_of_lt (a := (a : Int)) (by omega) (by omega)]
  have e : (a : Int) * 2 ^ s = ((a * 2 ^ s : Nat) : Int) := by rw [Int.natCast_mul, Int.natCast_pow]; rfl
  rw [e]
  omega
theorem cst_et (a : Nat) : Int.tmod (a : Int) 8 = ((a % 8 : Nat) : Int) := by rw [tmd 8 (by omega)]; omega
theorem cst_ed {a : Nat} (h : a ≤ 8000000) : wrap64 (Int.tdiv (a : Int) 8) = ((a / 8 : Nat) : Int) := by rw [tdv 8 (by omega), w64 (by omega) (by omega)]; omega
theorem cst_add {a b : Nat} (h : a + b ≤ 9000000) : wrap64 ((a : Int) + (b : Int)) = ((a + b : Nat) : Int) := by rw [w64 (by omega) (by omega)]; omega
theorem add_key {x at_ i j wv : Nat} (hx : x < 256) (hw : ∀ m, wv.testBit m = (decide (at_ % 8 ≤ m) && x.testBit (m - at_ % 8))) (pb : Nat → Bool) (hp : ∀ m, m < 8 → pb (8 * i + m) = x.testBit m) :
    ((decide (j / 8 = i + at_ / 8) && (wv % 2 ^ 8).testBit (j % 8)) ^^ ((decide (j / 8 = i + at_ / 8 + 1) && (wv / 2 ^ 8).testBit (j % 8)) ^^ (decide (at_ + 8 * (i + 1) ≤ j) && pb (j - at_)))) = (decide (at_ + 8 * i ≤ j) && pb (j - at_)) := by
  rw [Nat.testBit_mod_two_pow, Nat.testBit_div_two_pow, hw, hw]
  by_cases hj : at_ + 8 * i ≤ j ∧ j < at_ + 8 * (i + 1)
  · have eb : pb (j - at_) = x.testBit (j - at_ - 8 * i) := by
      rw [← hp _ (by omega)]; congr 1; omega
    rw [eb, decide_eq_true hj.1, decide_eq_false (show ¬ at_ + 8 * (i + 1) ≤ j by omega), Bool.false_and, Bool.xor_false, Bool.true_and]
    by_cases hq : j / 8 = i + at_ / 8
    · rw [decide_eq_true hq, decide_eq_false (show ¬ j / 8 = i + at_ / 8 + 1 by omega), decide_eq_true (show j % 8 < 8 by omega), decide_eq_true (show at_ % 8 ≤ j % 8 by omega), show j % 8 - at_ % 8 = j - at_ - 8 * i from by omega]
      simp
    · rw [decide_eq_false hq, decide_eq_true (show j / 8 = i + at_ / 8 + 1 by omega), decide_eq_true (show at_ % 8 ≤ j % 8 + 8 by omega), show j % 8 + 8 - at_ % 8 = j - at_ - 8 * i from by omega]
      simp
  · have e1 : (decide (j / 8 = i + at_ / 8) && (decide (j % 8 < 8) && (decide (at_ % 8 ≤ j % 8) && x.testBit (j % 8 - at_ % 8)))) = false := by
      by_cases hq : j / 8 = i + at_ / 8
      · rw [decide_eq_false (show ¬ at_ % 8 ≤ j % 8 by omega)]; simp
      · rw [decide_eq_false hq]; simp
    have e2 : (decide (j / 8 = i + at_ / 8 + 1) && (decide (at_ % 8 ≤ j % 8 + 8) && x.testBit (j % 8 + 8 - at_ % 8))) = false := by
      by_cases hq : j / 8 = i + at_ / 8 + 1
      · have : x.testBit (j % 8 + 8 - at_ % 8) = false := Nat.testBit_lt_two_pow (Nat.lt_of_lt_of_le (show x < 2 ^ 8 from hx) (Nat.pow_le_pow_right (by omega) (by omega)))
        rw [this]; simp
      · rw [decide_eq_false hq]; simp
    rw [e1, e2, Bool.false_xor, Bool.false_xor]
    by_cases h3 : at_ + 8 * i ≤ j
    · rw [decide_eq_true h3, decide_eq_true (show at_ + 8 * (i + 1) ≤ j by omega)]
    · rw [decide_eq_false h3, decide_eq_false (show ¬ at_ + 8 * (i + 1) ≤ j by omega)]
/-- One round. -/
theorem b_add_step {p out : List Int} (hp : Byt p) (hb : Byt out) (hpn : p.length ≤ 1000000) {at_ : Nat} (hat : at_ ≤ 8000000) (hn : out.length ≤ 8000000) (h1 : p.length + at_ / 8 ≤ out.length) (h2 : at_ % 8 ≠ 0 → p.length + at_ / 8 + 1 ≤ out.length) {i : Nat} (hi : i < p.length) :
    ∃ y, y.length = out.length ∧ Byt y ∧ (∀ j, (bitAt y j ^^ (decide (at_ + 8 * (i + 1) ≤ j) && bitAt p (j - at_))) = (bitAt out j ^^ (decide (at_ + 8 * i ≤ j) && bitAt p (j - at_)))) ∧
      ∀ k, bpoly_add.l0 (k + 1) out (at_ : Int) p (p.length : Int) (i : Int) = bpoly_add.l0 k y (at_ : Int) p (p.length : Int) ((i + 1 : Nat) : Int) := by
  have hx := hp.get i
  have hs8 : at_ % 8 < 8 := by omega
  have k1 : i + at_ / 8 ≤ 9000000 := by omega
  have k2 : i + at_ / 8 + 1 ≤ 9000000 := by omega
  have k3 : i + 1 ≤ 9000000 := by omega
  have ha : i + at_ / 8 < out.length := by omega
  have c1 : 0 ≤ ((i + at_ / 8 : Nat) : Int) := Int.natCast_nonneg _
  have c2 : ((i + at_ / 8 : Nat) : Int) < (out.length : Int) := by omega
  have c3 : (i : Int) < (p.length : Int) := by omega
  have c4 : (0 : Int) ≤ (i : Int) := Int.natCast_nonneg _
  have c5 : (0 : Int) ≤ ((at_ % 8 : Nat) : Int) := Int.natCast_nonneg _
  have hxl : (p.getD i 0).toNat < 256 := by omega
  have hpb : ∀ m, m < 8 → bitAt p (8 * i + m) = (p.getD i 0).toNat.testBit m := fun m hm => by
    unfold bitAt
    rw [show (8 * i + m) / 8 = i from by omega, show (8 * i + m) % 8 = m from by omega]
  have hrd : rd p (i : Int) = p.getD i 0 := rd_nat p i
  obtain ⟨hw, hw2⟩ := shl_u16 hx hs8
  have hbits : ∀ m, ((p.getD i 0).toNat * 2 ^ (at_ % 8)).testBit m = (decide (at_ % 8 ≤ m) && (p.getD i 0).toNat.testBit (m - at_ % 8)) := fun m => Nat.testBit_mul_two_pow _ _ _
  have hzero : at_ % 8 = 0 → (p.getD i 0).toNat * 2 ^ (at_ % 8) < 256 := fun e => by rw [e, Nat.pow_zero, Nat.mul_one]; exact hxl
  generalize (p.getD i 0).toNat * 2 ^ (at_ % 8) = wv at hw hw2 hbits hzero
  have hv1 : (0 : Int) ≤ (wv : Int) % 256 ∧ (wv : Int) % 256 < 256 := by clear hw hbits hzero hpb; omega
  have hvv : ((wv : Int) % 256).toNat = wv % 2 ^ 8 := by clear hw hbits hzero hpb; omega
  have hv2 : (0 : Int) ≤ (wv : Int) / 256 % 256 ∧ (wv : Int) / 256 % 256 < 256 := by clear hw hbits hzero hpb; omega
  have hvv2 : ((wv : Int) / 256 % 256).toNat = wv / 2 ^ 8 := by clear hw hbits hzero hpb; omega
  have hb1 : Byt (out.set (i + at_ / 8) (Go.bits .xor .u8 (out.getD (i + at_ / 8) 0) ((wv : Int) % 256))) := hb.set _ (xor_byte (hb.get _) hv1)
  have hl1 : (out.set (i + at_ / 8) (Go.bits .xor .u8 (out.getD (i + at_ / 8) 0) ((wv : Int) % 256))).length = out.length := List.length_set
  have hbit1 := bitAt_setx hb ha hv1
  rw [hvv] at hbit1
  by_cases hbig : (wv : Int) > 255
  · have hs : at_ % 8 ≠ 0 := fun e => by have := hzero e; omega
    have hn2 := h2 hs
    have ha1 : i + at_ / 8 + 1 < out.length := by omega
    have c6 : 0 ≤ ((i + at_ / 8 + 1 : Nat) : Int) := Int.natCast_nonneg _
    have c7 : ((i + at_ / 8 + 1 : Nat) : Int) < (out.length : Int) := by omega
    refine ⟨_, ?_, hb1.set (i + at_ / 8 + 1) (xor_byte (hb1.get (i + at_ / 8 + 1)) hv2), fun j => ?_, fun k => ?_⟩
    · rw [List.length_set, hl1]
    · rw [bitAt_setx hb1 (by rw [hl1]; exact ha1) hv2, hvv2, hbit1, Bool.xor_assoc, Bool.xor_assoc, add_key hxl hbits _ hpb]
    · simp only [bpoly_add.l0]
      have et : Int.tmod (at_ : Int) 8 = ((at_ % 8 : Nat) : Int) := cst_et at_
      have ed : wrap64 (Int.tdiv (at_ : Int) 8) = ((at_ / 8 : Nat) : Int) := cst_ed hat
      have ea : wrap64 ((i : Int) + ((at_ / 8 : Nat) : Int)) = ((i + at_ / 8 : Nat) : Int) := cst_add k1
      have ea1 : wrap64 (((i + at_ / 8 : Nat) : Int) + 1) = ((i + at_ / 8 + 1 : Nat) : Int) := cst_add (b := 1) k2
      have ei : wrap64 ((i : Int) + 1) = ((i + 1 : Nat) : Int) := cst_add (b := 1) k3
      rw [if_pos c3, if_pos c4, if_pos c3, et, if_pos c5, ed, ea, if_pos c1, if_pos c2, hrd, hw, Int.toNat_natCast, rd_nat out, Option.bind_some, ea1, ei, if_pos hbig, if_pos c6, if_pos c7, rd_nat, Int.toNat_natCast]
  · refine ⟨_, hl1, hb1, fun j => ?_, fun k => ?_⟩
    · have h0 : wv / 2 ^ 8 = 0 := Nat.div_eq_of_lt (by omega)
      have := add_key (i := i) (j := j) hxl hbits (bitAt p) hpb
      rw [h0, Nat.zero_testBit, Bool.and_false, Bool.false_xor] at this
      rw [hbit1, Bool.xor_assoc, this]
    · simp only [bpoly_add.l0]
      have et : Int.tmod (at_ : Int) 8 = ((at_ % 8 : Nat) : Int) := cst_et at_
      have ed : wrap64 (Int.tdiv (at_ : Int) 8) = ((at_ / 8 : Nat) : Int) := cst_ed hat
      have ea : wrap64 ((i : Int) + ((at_ / 8 : Nat) : Int)) = ((i + at_ / 8 : Nat) : Int) := cst_add k1
      have ea1 : wrap64 (((i + at_ / 8 : Nat) : Int) + 1) = ((i + at_ / 8 + 1 : Nat) : Int) := cst_add (b := 1) k2
      have ei : wrap64 ((i : Int) + 1) = ((i + 1 : Nat) : Int) := cst_add (b := 1) k3
      rw [if_pos c3, if_pos c4, if_pos c3, et, if_pos c5, ed, ea, if_pos c1, if_pos c2, hrd, hw, Int.toNat_natCast, rd_nat out, Option.bind_some, ei, if_neg hbig]
theorem b_add_l0 {p : List Int} (hp : Byt p) (hpn : p.length ≤ 1000000) {at_ : Nat} (hat : at_ ≤ 8000000) {n : Nat} (hn : n ≤ 8000000) (h1 : p.length + at_ / 8 ≤ n) (h2 : at_ % 8 ≠ 0 → p.length + at_ / 8 + 1 ≤ n) :
    ∀ (d i : Nat) (out : List Int), out.length = n → Byt out → i + d = p.length → ∃ r, (∀ k, d < k → bpoly_add.l0 k out (at_ : Int) p (p.length : Int) (i : Int) = some r) ∧ r.length = n ∧ Byt r ∧
      ∀ j, bitAt r j = (bitAt out j ^^ (decide (at_ + 8 * i ≤ j) && bitAt p (j - at_)))
  | 0, i, out, ho, hb, hd => by
    refine ⟨out, fun k hk => ?_, ho, hb, fun j => ?_⟩
    · obtain ⟨k, rfl⟩ := fuel hk
      simp only [bpoly_add.l0]
      rw [if_neg (by omega)]
    · by_cases h : at_ + 8 * i ≤ j
      · rw [bitAt_out (l := p) (by omega), Bool.and_false, Bool.xor_false]
      · rw [decide_eq_false h, Bool.false_and, Bool.xor_false]
  | d + 1, i, out, ho, hb, hd => by
    obtain ⟨y, y1, y2, y3, y4⟩ := b_add_step hp hb hpn hat (by omega) (by omega) (by omega) (show i < p.length by omega)
    obtain ⟨r, g1, g2, g3, g4⟩ := b_add_l0 hp hpn hat hn h1 h2 d (i + 1) y (by omega) y2 (by omega)
    refine ⟨r, fun k hk => ?_, g2, g3, fun j => by rw [g4, y3]⟩
    obtain ⟨k, rfl⟩ := fuel hk
    rw [y4]; exact g1 k (by omega)
theorem toB_shift {p : List Int} {f : Nat → Bool} {out : List Int} {r : List Int} (at_ : Nat) (h : ∀ j, bitAt r j = (bitAt out j ^^ (decide (at_ ≤ j) && bitAt p (j - at_)))) : toB r = toB out + pw XX at_ * toB p := Ser.ext fun j => by
  rw [add_c, pwXX_c, toB_c, h j]
  show (bitAt out j ^^ _) = (bitAt out j ^^ _)
  congr 1
  by_cases e : at_ ≤ j
  · rw [if_pos e, decide_eq_true e]; rfl
  · rw [if_neg e, decide_eq_false e]; rfl
theorem b_add_at {p out : List Int} (hp : Byt p) (hb : Byt out) (hpn : p.length ≤ 1000000) (hn : out.length ≤ 8000000) {at_ : Nat} (hat : at_ ≤ 8000000) (h1 : p.length + at_ / 8 ≤ out.length) (h2 : at_ % 8 ≠ 0 → p.length + at_ / 8 + 1 ≤ out.length) :
    ∃ r, (∀ k, p.length < k → bpoly_add.f k out p (at_ : Int) = some r) ∧ r.length = out.length ∧ Byt r ∧ toB r = toB out + pw XX at_ * toB p := by
  obtain ⟨r, g1, g2, g3, g4⟩ := b_add_l0 hp hpn hat hn h1 h2 p.length 0 out rfl hb (by omega)
  exact ⟨r, g1, g2, g3, toB_shift (f := fun _ => true) at_ g4⟩
def mono (i : Nat) (v : Bool) : Ser Bool := cst v * pw XX i
theorem mono_c (i : Nat) (v : Bool) (j : Nat) : (mono i v).c j = (decide (j = i) && v) := by
  have e : mono i v = pw XX i * cst v := R2.mul_comm _ _
  rw [e, pwXX_c, cst_c]
  by_cases h : j = i
  · subst h; rw [if_pos (Nat.le_refl _), Nat.sub_self, if_pos rfl, decide_eq_true rfl, Bool.true_and]
  · rw [decide_eq_false h, Bool.false_and]
    by_cases h1 : i ≤ j
    · rw [if_pos h1, if_neg (by omega)]; rfl
    · rw [if_neg h1]; rfl
theorem mono_false (i : Nat) : mono i false = 0 := by
  unfold mono; rw [show (cst false : Ser Bool) = 0 from cst_zero, r_zero_mul]
theorem mono_true (i : Nat) : mono i true = pw XX i := by
  unfold mono; rw [show (cst true : Ser Bool) = 1 from cst_one, r_one_mul]
theorem mono_bd (i : Nat) (v : Bool) : Bd (mono i v) (i + 1) := fun j hj => by
  rw [mono_c, decide_eq_false (by omega), Bool.false_and]; rfl
def cut (f : Ser Bool) (i : Nat) : Ser Bool := ⟨fun j => if j < i then f.c j else 0⟩
theorem cut_zero (f : Ser Bool) : cut f 0 = 0 := Ser.ext fun j => by
  show (if j < 0 then f.c j else 0) = 0
  rw [if_neg (by omega)]
theorem cut_succ (f : Ser Bool) (i : Nat) : cut f (i + 1) = cut f i + mono i (f.c i) := Ser.ext fun j => by
  rw [add_c, mono_c]
  show (if j < i + 1 then f.c j else 0) = ((if j < i then f.c j else 0) ^^ (decide (j = i) && f.c i))
  by_cases h : j = i
  · subst h; rw [if_pos (by omega), if_neg (by omega), decide_eq_true rfl, Bool.true_and]; exact (Bool.false_xor _).symm
  · rw [decide_eq_false h, Bool.false_and, Bool.xor_false]
    by_cases h1 : j < i
    · rw [if_pos h1, if_pos (by omega)]
    · rw [if_neg h1, if_neg (by omega)]
theorem cut_all {f : Ser Bool} {n : Nat} (h : Bd f n) : cut f n = f := Ser.ext fun j => by
  show (if j < n then f.c j else 0) = f.c j
  by_cases h1 : j < n
  · rw [if_pos h1]
  · rw [if_neg h1, h j (by omega)]
theorem b_Add {l m : List Int} (hl : Byt l) (hm : Byt m) (hn : l.length ≤ 100000) (hn' : m.length ≤ 100000) : ∃ r, (Evt fun k => bpoly_Add.f k l m = some r) ∧ CanB (toB l + toB m) r := by
  have em : mx (l.length : Int) (m.length : Int) = ((max l.length m.length : Nat) : Int) := by unfold mx; split <;> omega
  have hmax : max l.length m.length ≤ 100000 := by omega
  have hz : (List.replicate (max l.length m.length) (0 : Int)).length = max l.length m.length := List.length_replicate
  obtain ⟨r, g1, g2, g3, g4⟩ := b_add_at (p := l) (out := List.replicate (max l.length m.length) 0) hl (Byt.zeros _) (by omega) (by omega) (at_ := 0) (by omega) (by omega) (fun h => absurd rfl h)
  obtain ⟨s, s1, s2, s3, s4⟩ := b_add_at (p := m) (out := r) hm g3 (by omega) (by omega) (at_ := 0) (by omega) (by omega) (fun h => absurd rfl h)
  have e : toB s = toB l + toB m := by rw [s4, g4, toB_zeros, r_zero_add, pw_zero, r_one_mul, r_one_mul]
  refine ⟨fin s, Evt.of (max l.length m.length) fun k hk => ?_, e ▸ CanB.of s3⟩
  have h1 := g1 k (by omega)
  have h2 := s1 k (by omega)
  have h3 := b_norm (l := s) (by omega) (k := k) (by omega)
  unfold bpoly_Add.f
  rw [em, if_pos (by omega), Int.toNat_natCast, if_pos (by omega)]
  rw [show bpoly_add.f k (List.replicate (max l.length m.length) 0) l 0 = some r from h1, Option.bind_some, show bpoly_add.f k r m 0 = some s from h2, Option.bind_some, h3, Option.bind_some]
theorem b_Mul_l0 {p q : List Int} (hp : Byt p) (hq : Byt q) (hpn : p.length ≤ 100000) (hqn : q.length ≤ 100000) :
    ∀ (d i : Nat) (out : List Int), out.length = p.length + q.length + 1 → Byt out → toB out = cut (toB p) i * toB q → i + d = 8 * p.length →
      ∃ s, (∀ k, d + p.length + q.length + 2 < k → bpoly_Mul.l0 k p q out ((8 * p.length : Nat) : Int) (i : Int) = some (fin s)) ∧ Byt s ∧ toB s = toB p * toB q
  | 0, i, out, ho, hb, ht, hd => by
    refine ⟨out, fun k hk => ?_, hb, ?_⟩
    · obtain ⟨k, rfl⟩ := fuel hk
      simp only [bpoly_Mul.l0]
      rw [if_neg (by omega), b_norm (by omega) (by omega), Option.bind_some]
    · rw [ht, cut_all ((toB_bd p).mono (by omega))]
  | d + 1, i, out, ho, hb, ht, hd => by
    have hone := b_one_at hp (by omega) (show i < 8 * p.length by omega)
    have k3 : i + 1 ≤ 9000000 := by omega
    by_cases h : bitAt p i = true
    · obtain ⟨r, g1, g2, g3, g4⟩ := b_add_at (p := q) (out := out) hq hb (by omega) (by omega) (at_ := i) (by omega) (by omega) (fun _ => by omega)
      obtain ⟨s, s1, s2, s3⟩ := b_Mul_l0 hp hq hpn hqn d (i + 1) r (by omega) g3 (by rw [g4, ht, cut_succ, toB_c, h, mono_true, r_add_mul]) (by omega)
      refine ⟨s, fun k hk => ?_, s2, s3⟩
      obtain ⟨k, rfl⟩ := fuel hk
      have h1 := g1 k (by omega)
      have h2 := s1 k (by omega)
      simp only [bpoly_Mul.l0]
      rw [if_pos (by omega), hone, Option.bind_some, if_pos h, h1, Option.bind_some, show wrap64 ((i : Int) + 1) = ((i + 1 : Nat) : Int) from cst_add (b := 1) k3]
      exact h2
    · obtain ⟨s, s1, s2, s3⟩ := b_Mul_l0 hp hq hpn hqn d (i + 1) out ho hb (by rw [ht, cut_succ, toB_c, Bool.eq_false_iff.2 h, mono_false, R2.add_zero]) (by omega)
      refine ⟨s, fun k hk => ?_, s2, s3⟩
      obtain ⟨k, rfl⟩ := fuel hk
      have h2 := s1 k (by omega)
      simp only [bpoly_Mul.l0]
      rw [if_pos (by omega), hone, Option.bind_some, if_neg h, show wrap64 ((i : Int) + 1) = ((i + 1 : Nat) : Int) from cst_add (b := 1) k3]
      exact h2
theorem b_Mul {p q : List Int} (hp : Byt p) (hq : Byt q) (hpn : p.length ≤ 100000) (hqn : q.length ≤ 100000) : ∃ r, (Evt fun k => bpoly_Mul.f k p q = some r) ∧ CanB (toB p * toB q) r := by
  obtain ⟨s, s1, s2, s3⟩ := b_Mul_l0 hp hq hpn hqn (8 * p.length) 0 (List.replicate (p.length + q.length + 1) 0) List.length_replicate (Byt.zeros _) (by rw [toB_zeros, cut_zero, r_zero_mul]) (by omega)
  refine ⟨fin s, Evt.of (8 * p.length + p.length + q.length + 2) fun k hk => ?_, s3 ▸ CanB.of s2⟩
  have h := s1 k (by omega)
  have e1 : wrap64 (wrap64 ((p.length : Int) + (q.length : Int)) + 1) = ((p.length + q.length + 1 : Nat) : Int) := by
    rw [show wrap64 ((p.length : Int) + (q.length : Int)) = ((p.length + q.length : Nat) : Int) from cst_add (by omega)]
    exact cst_add (b := 1) (by omega)
  have e2 : wrap64 (8 * (p.length : Int)) = ((8 * p.length : Nat) : Int) := by rw [w64 (by omega) (by omega)]; omega
  unfold bpoly_Mul.f
  rw [e1, e2, Int.toNat_natCast]
  clear e1 e2
  rw [if_pos (by omega), if_pos (by omega)]
  exact h
theorem len8_check : allb (fun v => v == 0 || (v.testBit (Lib.bitLen v - 1) && decide (v < 2 ^ Lib.bitLen v) && decide (0 < Lib.bitLen v) && decide (Lib.bitLen v ≤ 8))) 8 0 = true := by decide +kernel
theorem len8_spec {v : Nat} (h0 : v ≠ 0) (hv : v < 256) : v.testBit (Lib.bitLen v - 1) = true ∧ v < 2 ^ Lib.bitLen v ∧ 0 < Lib.bitLen v ∧ Lib.bitLen v ≤ 8 := by
  have h := allb_sound 8 0 len8_check v (by omega) (by omega)
  rw [show (v == 0) = false from beq_eq_false_iff_ne.2 h0, Bool.false_or] at h
  simp only [Bool.and_eq_true, decide_eq_true_eq] at h
  exact ⟨h.1.1.1, h.1.1.2, h.1.2, h.2⟩
/-- How long a row is in bits. -/
def bsz (l : List Int) : Nat := sz (bitAt l) (8 * l.length)
theorem bsz_is {l : List Int} {f : Ser Bool} {n : Nat} (h : toB l = f) (hf : Bd f n) : bsz l = sz f.c n := by
  rw [← h] at hf ⊢
  exact sz_any (f := toB l) (toB_bd l) hf
theorem bsz_top {l : List Int} {d : Nat} (h : (toB l).c d = true) (h' : Bd (toB l) (d + 1)) : bsz l = d + 1 :=
  sz_is (f := toB l) h h' (Nat.lt_of_not_le fun e => by have := toB_bd l d e; rw [h] at this; exact absurd this (by decide))
theorem bsz_0 {l : List Int} (h : toB l = 0) : bsz l = 0 := sz_0 (f := toB l) _ h
theorem bsz_fin (l : List Int) : bsz (fin l) = bsz l := bsz_is (toB_fin l) (toB_bd l)
theorem b_Degree {l : List Int} (hl : Byt l) (hn : l.length ≤ 1000000) {k : Nat} (hk : l.length < k) : bpoly_Degree.f k l = some ((bsz l : Int) - 1) := by
  unfold bpoly_Degree.f
  rw [b_norm (by omega) hk, Option.bind_some]
  have hle := fin_le l
  by_cases h0 : (fin l).length = 0
  · rw [if_pos (by omega), bsz_0 (by rw [← toB_fin, List.eq_nil_of_length_eq_zero h0, toB_nil])]; rfl
  · obtain ⟨m, hm⟩ : ∃ m, (fin l).length = m + 1 := ⟨(fin l).length - 1, by omega⟩
    have hv := (Byt.fin hl).get m
    have hne : (fin l).getD m 0 ≠ 0 := by
      have := fin_top l (by omega)
      rw [hm, Nat.add_sub_cancel] at this
      rwa [fin_get]
    obtain ⟨t1, t2, t3, t4⟩ := len8_spec (v := ((fin l).getD m 0).toNat) (by omega) (by omega)
    have hb : bsz l = 8 * m + Lib.bitLen ((fin l).getD m 0).toNat := by
      have := bsz_top (l := fin l) (d := 8 * m + (Lib.bitLen ((fin l).getD m 0).toNat - 1)) (by
        show bitAt (fin l) _ = true
        unfold bitAt
        rw [show (8 * m + (Lib.bitLen ((fin l).getD m 0).toNat - 1)) / 8 = m from by omega, show (8 * m + (Lib.bitLen ((fin l).getD m 0).toNat - 1)) % 8 = Lib.bitLen ((fin l).getD m 0).toNat - 1 from by omega]
        exact t1) (fun i hi => by
        show bitAt (fin l) i = false
        by_cases h2 : 8 * (fin l).length ≤ i
        · exact bitAt_out h2
        · unfold bitAt
          rw [show i / 8 = m from by omega]
          exact Nat.testBit_lt_two_pow (Nat.lt_of_lt_of_le t2 (Nat.pow_le_pow_right (by omega) (by omega))))
      rw [bsz_fin] at this
      omega
    have e1 : wrap64 (((m + 1 : Nat) : Int) - 1) = (m : Int) := by rw [w64 (by omega) (by omega)]; omega
    rw [hm, e1, rd_nat]
    generalize (fin l).getD m 0 = v at hv hne t1 t2 t3 t4 hb
    have e2 : bits_Len8.f v = some ((Lib.bitLen v.toNat : Nat) : Int) := by
      unfold bits_Len8.f
      rw [if_pos hv.1, if_pos (by omega)]
    clear t1 t2
    have e3 : wrap64 (wrap64 (wrap64 (wrap64 (8 * ((m + 1 : Nat) : Int)) - 8) + ((Lib.bitLen v.toNat : Nat) : Int)) - 1) = (bsz l : Int) - 1 := by
      rw [show wrap64 (8 * ((m + 1 : Nat) : Int)) = 8 * ((m + 1 : Nat) : Int) from w64 (by omega) (by omega), show wrap64 (8 * ((m + 1 : Nat) : Int) - 8) = 8 * ((m + 1 : Nat) : Int) - 8 from w64 (by omega) (by omega), show wrap64 (8 * ((m + 1 : Nat) : Int) - 8 + ((Lib.bitLen v.toNat : Nat) : Int)) = 8 * ((m + 1 : Nat) : Int) - 8 + ((Lib.bitLen v.toNat : Nat) : Int) from w64 (by omega) (by omega), w64 (by omega) (by omega)]
      omega
    rw [if_neg (by omega), if_pos (by omega), if_pos (by omega), e2, Option.bind_some, e3]
/-- What is left of f behind g, whose degree is d. -/
def Rest (f g r : Ser Bool) (d : Nat) : Prop := Bd r d ∧ ∃ a n, Bd a n ∧ f = a * g + r
theorem Rest.unique {f g r r' : Ser Bool} {d : Nat} (hg : g.c d = true) (hg' : Bd g (d + 1)) (h : Rest f g r d) (h' : Rest f g r' d) : r = r' := by
  obtain ⟨h1, a, n, h2, h3⟩ := h
  obtain ⟨h1', a', n', h2', h3'⟩ := h'
  exact (ddiv_unique (by rw [hg]; decide) hg' (h2.mono (Nat.le_max_left n n')) (h2'.mono (Nat.le_max_right n n')) h1 h1' (h3.symm.trans h3')).2
theorem Rest.add {f f' g r r' : Ser Bool} {d : Nat} (h : Rest f g r d) (h' : Rest f' g r' d) : Rest (f + f') g (r + r') d := by
  obtain ⟨h1, a, n, h2, h3⟩ := h
  obtain ⟨h1', a', n', h2', h3'⟩ := h'
  exact ⟨h1.add h1', a + a', max n n', (h2.mono (Nat.le_max_left n n')).add (h2'.mono (Nat.le_max_right n n')), by rw [h3, h3', r_add_mul]; ac_rfl⟩
theorem Rest.mul {a g : Ser Bool} {n d : Nat} (h : Bd a n) : Rest (a * g) g 0 d := ⟨Bd_zero _, a, n, h, (R2.add_zero _).symm⟩
theorem cpy_is (l : List Int) : cpy l (List.replicate (l.length + 1) 0) = l ++ [0] := by
  unfold cpy
  rw [List.length_replicate, Nat.min_eq_left (by omega), List.take_length, List.drop_replicate, Nat.add_sub_cancel_left]; rfl
theorem b_Mod_l0 {t : List Int} (ht : Byt t) {d n : Nat} (hn : n ≤ 100000) (htl : t.length = d / 8 + 1) (h1 : (toB t).c d = true) (h2 : Bd (toB t) (d + 1)) (hd : d ≤ 1000000) (F : Ser Bool) :
    ∀ (e i : Nat) (out : List Int), out.length = n + 1 → Byt out → Bd (toB out) i → i ≤ 8 * n → i ≤ d + e → (∃ a m, Bd a m ∧ F = a * toB t + toB out) →
      ∃ s, (∀ k, e + n + t.length + 2 < k → bpoly_Mod.l0 k t (d : Int) out ((i : Int) - 1) = some (fin s, 0)) ∧ Byt s ∧ Rest F (toB t) (toB s) d
  | 0, i, out, ho, hb, hbd, hi, he, ha => by
    refine ⟨out, fun k hk => ?_, hb, hbd.mono (by omega), ha⟩
    obtain ⟨k, rfl⟩ := fuel hk
    simp only [bpoly_Mod.l0]
    rw [if_neg (by omega), b_norm (by omega) (by omega), Option.bind_some]
  | e + 1, i, out, ho, hb, hbd, hi, he, ha => by
    by_cases hid : i ≤ d
    · refine ⟨out, fun k hk => ?_, hb, hbd.mono (by omega), ha⟩
      obtain ⟨k, rfl⟩ := fuel hk
      simp only [bpoly_Mod.l0]
      rw [if_neg (by omega), b_norm (by omega) (by omega), Option.bind_some]
    · obtain ⟨j, rfl⟩ : ∃ j, i = j + 1 := ⟨i - 1, by omega⟩
      have hone := b_one_at hb (by omega) (show j < 8 * out.length by omega)
      have ej : ((j + 1 : Nat) : Int) - 1 = (j : Int) := by omega
      have ew : wrap64 ((j : Int) - 1) = (j : Int) - 1 := w64 (by omega) (by omega)
      have ed : wrap64 ((j : Int) - (d : Int)) = ((j - d : Nat) : Int) := by rw [w64 (by omega) (by omega)]; omega
      rw [ej]
      by_cases h : bitAt out j = true
      · have c1 : t.length + (j - d) / 8 + 1 ≤ out.length := by clear ew ed; omega
        obtain ⟨r, g1, g2, g3, g4⟩ := b_add_at (p := t) (out := out) ht hb (by clear ew ed; omega) (by clear ew ed; omega) (at_ := j - d) (by clear ew ed; omega) (by clear ew ed; omega) (fun _ => c1)
        have hX : (pw XX (j - d) * toB t).c j = true := by
          rw [pwXX_c, if_pos (by clear ew ed; omega), show j - (j - d) = d from by clear ew ed; omega]; exact h1
        have hXb : Bd (pw XX (j - d) * toB t) (j + 1) := fun q hq => by
          rw [pwXX_c]; split
          · exact h2 _ (by clear ew ed; omega)
          · rfl
        obtain ⟨s, s1, s2, s3⟩ := b_Mod_l0 ht hn htl h1 h2 hd F e j r (by omega) g3 (by
          rw [g4]
          intro q hq
          by_cases e : q = j
          · subst e; rw [add_c, toB_c, h, hX]; rfl
          · exact (hbd.add hXb) q (by clear ew ed; omega)) (by clear ew ed; omega) (by clear ew ed; omega) (by
          obtain ⟨a, m, a1, a2⟩ := ha
          refine ⟨a + mono (j - d) true, max m (j - d + 1), (a1.mono (Nat.le_max_left _ _)).add ((mono_bd _ _).mono (Nat.le_max_right _ _)), ?_⟩
          rw [a2, g4, r_add_mul, mono_true]
          have := R2.add_self (pw XX (j - d) * toB t)
          rw [show a * toB t + pw XX (j - d) * toB t + (toB out + pw XX (j - d) * toB t) = a * toB t + toB out + (pw XX (j - d) * toB t + pw XX (j - d) * toB t) from by ac_rfl, this, R2.add_zero])
        refine ⟨s, fun k hk => ?_, s2, s3⟩
        obtain ⟨k, rfl⟩ := fuel hk
        have c2 : (j : Int) ≥ (d : Int) := by clear ew ed; omega
        have hk1 := g1 k (by clear ew ed; omega)
        have hk2 := s1 k (by clear ew ed; omega)
        simp only [bpoly_Mod.l0]
        rw [if_pos c2, hone, Option.bind_some, if_pos h, ed, hk1, Option.bind_some, ew]
        exact hk2
      · obtain ⟨s, s1, s2, s3⟩ := b_Mod_l0 ht hn htl h1 h2 hd F e j out ho hb (fun q hq => by
          by_cases e : q = j
          · subst e; exact Bool.eq_false_iff.2 h
          · exact hbd q (by clear ew ed; omega)) (by clear ew ed; omega) (by clear ew ed; omega) ha
        refine ⟨s, fun k hk => ?_, s2, s3⟩
        obtain ⟨k, rfl⟩ := fuel hk
        have c2 : (j : Int) ≥ (d : Int) := by clear ew ed; omega
        have hk2 := s1 k (by clear ew ed; omega)
        simp only [bpoly_Mod.l0]
        rw [if_pos c2, hone, Option.bind_some, if_neg h, ew]
        exact hk2
theorem b_Mod {p q : List Int} (hp : Byt p) (hq : Byt q) (hpn : p.length ≤ 100000) (hqn : q.length ≤ 100000) {d : Nat} (h1 : (toB q).c d = true) (h2 : Bd (toB q) (d + 1)) :
    ∃ r f, (Evt fun k => bpoly_Mod.f k p q = some (r, 0)) ∧ CanB f r ∧ Rest (toB p) (toB q) f d := by
  have hlen := bfin_len hq h1 h2
  have hle := fin_le q
  have hz : (List.replicate (p.length + 1) (0 : Int)).length = p.length + 1 := List.length_replicate
  have hdt : d ≤ 1000000 := by omega
  obtain ⟨s, s1, s2, s3⟩ := b_Mod_l0 (t := fin q) (Byt.fin hq) (n := p.length) hpn hlen (by rw [toB_fin]; exact h1) (by rw [toB_fin]; exact h2) hdt (toB p) (8 * p.length) (8 * p.length) (p ++ [0]) (by simp) (hp.append (Byt.cons (by omega) Byt.nil))
    (by rw [show toB (p ++ [0]) = toB p from toB_get fun i => by
          by_cases hi : i < p.length
          · simp [List.getElem?_append, hi]
          · by_cases e : i = p.length
            · subst e; simp
            · simp [List.getElem?_append, hi, List.getElem?_eq_none (show p.length ≤ i by omega), List.getElem?_eq_none (show ([0] : List Int).length ≤ i - p.length by simp; omega)]]
        exact toB_bd p) (Nat.le_refl _) (by omega) ⟨0, 0, Bd_zero _, by
          rw [r_zero_mul, r_zero_add]
          refine toB_get fun i => ?_
          by_cases hi : i < p.length
          · simp [List.getElem?_append, hi]
          · by_cases e : i = p.length
            · subst e; simp
            · simp [List.getElem?_append, hi, List.getElem?_eq_none (show p.length ≤ i by omega), List.getElem?_eq_none (show ([0] : List Int).length ≤ i - p.length by simp; omega)]⟩
  refine ⟨fin s, toB s, Evt.of (8 * p.length + p.length + q.length + 3) fun k hk => ?_, CanB.of s2, by rw [toB_fin] at s3; exact s3⟩
  have e0 : bsz (fin q) = d + 1 := by rw [bsz_fin]; exact bsz_top h1 h2
  have hk1 := s1 k (by omega)
  have e1 : wrap64 ((p.length : Int) + 1) = ((p.length + 1 : Nat) : Int) := cst_add (b := 1) (by omega)
  have e2 : wrap64 (wrap64 (8 * (p.length : Int)) - 1) = ((8 * p.length : Nat) : Int) - 1 := by rw [show wrap64 (8 * (p.length : Int)) = 8 * (p.length : Int) from w64 (by omega) (by omega), w64 (by omega) (by omega)]; omega
  have e3 : ((d + 1 : Nat) : Int) - 1 = (d : Int) := by omega
  unfold bpoly_Mod.f
  rw [b_norm (by omega) (by omega), Option.bind_some, b_Degree (Byt.fin hq) (by omega) (by omega), Option.bind_some, e0, e3, e1, e2, Int.toNat_natCast, cpy_is]
  clear e1 e2
  rw [if_neg (by omega), if_pos (by omega), if_pos (by omega)]
  exact hk1
/-- The value of what stands from the i-th bit on. -/
def tv (f : Ser Bool) (n i : Nat) (x : GF) : GF := ev ⟨fun m => (lift f).c (i + m)⟩ (n - i) x
theorem tv_end (f : Ser Bool) (n : Nat) (x : GF) : tv f n n x = 0 := by unfold tv; rw [Nat.sub_self]; rfl
theorem tv_step (f : Ser Bool) {n i : Nat} (h : i < n) (x : GF) : tv f n i x = tv f n (i + 1) x * x + b2g (f.c i) := by
  unfold tv
  rw [show n - i = n - (i + 1) + 1 from by omega, ev_front]
  rw [R2.add_comm, R2.mul_comm]
  congr 2
  congr 1
  exact Ser.ext fun m => by show (lift f).c (i + (m + 1)) = (lift f).c (i + 1 + m); congr 1; omega
theorem tv_all (f : Ser Bool) (n : Nat) (x : GF) : tv f n 0 x = vb f n x := by
  unfold tv vb
  congr 1
  exact Ser.ext fun m => by show (lift f).c (0 + m) = _; rw [Nat.zero_add]
theorem b_Value_l0 {p : List Int} (hp : Byt p) (hpn : p.length ≤ 1000000) (x : GF) :
    ∀ (i k : Nat), i ≤ 8 * p.length → i + 14 < k → bpoly_Value.l0 k p (gi x) (gi (tv (toB p) (8 * p.length) i x)) ((i : Int) - 1) = some (gi (vb (toB p) (8 * p.length) x), 0)
  | 0, k, hi, hk => by
    obtain ⟨k, rfl⟩ := fuel hk
    simp only [bpoly_Value.l0]
    rw [if_neg (by omega), tv_all]
  | i + 1, k, hi, hk => by
    obtain ⟨k, rfl⟩ := fuel hk
    have hone := b_one_at hp (by omega) (show i < 8 * p.length by omega)
    have ej : ((i + 1 : Nat) : Int) - 1 = (i : Int) := by omega
    have ew : wrap64 ((i : Int) - 1) = (i : Int) - 1 := w64 (by omega) (by omega)
    have c1 : (i : Int) ≥ 0 := Int.natCast_nonneg _
    have hk2 := b_Value_l0 hp hpn x i k (by clear ew; omega) (by clear ew; omega)
    have hst := tv_step (toB p) (show i < 8 * p.length by clear ew; omega) x
    simp only [bpoly_Value.l0]
    rw [ej, if_pos c1, g_Mul _ _ (by clear ew; omega), Option.bind_some, hone, Option.bind_some, ew]
    show (if bitAt p i = true then bpoly_Value.l0 k p (gi x) (Go.bits .xor .i64 (gi (tv (toB p) (8 * p.length) (i + 1) x * x)) 1) _ else bpoly_Value.l0 k p (gi x) (gi (tv (toB p) (8 * p.length) (i + 1) x * x)) _) = _
    by_cases h : bitAt p i = true
    · rw [if_pos h, ← gi_one, xor_gi, ← hk2, hst, toB_c, h]; rfl
    · rw [if_neg h, ← hk2, hst, toB_c, Bool.eq_false_iff.2 h]
      show _ = bpoly_Value.l0 k p (gi x) (gi (_ + 0)) _
      rw [R2.add_zero]
theorem b_Value {p : List Int} (hp : Byt p) (hpn : p.length ≤ 1000000) (x : GF) : Evt fun k => bpoly_Value.f k p (gi x) = some (gi (vb (toB p) (8 * p.length) x), 0) := Evt.of (8 * p.length + 14) fun k hk => by
  have h := b_Value_l0 hp hpn x (8 * p.length) k (Nat.le_refl _) hk
  have e2 : wrap64 (wrap64 (8 * (p.length : Int)) - 1) = ((8 * p.length : Nat) : Int) - 1 := by rw [show wrap64 (8 * (p.length : Int)) = 8 * (p.length : Int) from w64 (by omega) (by omega), w64 (by omega) (by omega)]; omega
  unfold bpoly_Value.f
  rw [show (0 : Int) = gi 0 from rfl, g_Mul _ _ (by clear e2; omega), Option.bind_some]
  show (if (gi 0 : Int) = gi 0 then _ else _) = _
  rw [if_pos rfl, e2, r_mul_zero]
  rw [tv_end] at h
  exact h
def toL (l : List Int) : Ser Bool := ⟨fun i => decide (l.getD i 0 = 1)⟩
theorem toL_c (l : List Int) (i : Nat) : (toL l).c i = decide (l.getD i 0 = 1) := rfl
def Bt (l : List Int) : Prop := ∀ i, l.getD i 0 = b2i ((toL l).c i)
theorem Bt.of {l : List Int} (f : Nat → Bool) (h : ∀ i, l.getD i 0 = b2i (f i)) : Bt l ∧ toL l = ⟨f⟩ := by
  have e : ∀ i, (toL l).c i = f i := fun i => by
    rw [toL_c, h i]; cases f i <;> rfl
  exact ⟨fun i => by rw [e]; exact h i, Ser.ext e⟩
theorem Bt.set {l : List Int} (h : Bt l) {i : Nat} (hi : i < l.length) (v : Bool) : Bt (l.set i (b2i ((toL l).c i ^^ v))) ∧ toL (l.set i (b2i ((toL l).c i ^^ v))) = toL l + mono i v := by
  have := Bt.of (l := l.set i (b2i ((toL l).c i ^^ v))) (fun j => (toL l).c j ^^ (decide (j = i) && v)) fun j => by
    rw [getD_set _ _ _ _ hi]
    by_cases e : i = j
    · subst e; rw [if_pos rfl, decide_eq_true rfl, Bool.true_and]
    · rw [if_neg e, decide_eq_false (fun h => e h.symm), Bool.false_and, Bool.xor_false]; exact h j
  refine ⟨this.1, this.2.trans (Ser.ext fun j => ?_)⟩
  rw [add_c, mono_c]; rfl
theorem Bt.zeros (n : Nat) : Bt (List.replicate n 0) ∧ toL (List.replicate n 0) = 0 := Bt.of (fun _ => false) fun i => by
  by_cases h : i < n
  · simp [List.getElem?_replicate, h, b2i]
  · simp [List.getElem?_replicate, h, b2i]
theorem Bt.one : Bt [1] ∧ toL [1] = 1 := by
  have := Bt.of (l := [1]) (fun i => decide (i = 0)) fun i => by
    cases i with
    | zero => rfl
    | succ i => simp [b2i]
  refine ⟨this.1, this.2.trans (Ser.ext fun i => ?_)⟩
  rw [one_c]
  show decide (i = 0) = _
  by_cases h : i = 0 <;> simp [h, b_zero, b_one]
/-- How long a list is without noughts at its end. -/
def lsz (l : List Int) : Nat := sz (toL l).c l.length
end Go.Proofs.Ytfclloehamgplaa.L

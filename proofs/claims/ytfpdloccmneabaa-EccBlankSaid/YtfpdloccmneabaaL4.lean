/- What the functions of layer 4 (bpoly) and of its reference come to: rows of bytes and lists of bits as polynomials of bits. Conditions: the rows are bytes, no longer than the statements let in. -/
import Derived.Test.YtfpdloccmneabaaL3
import Derived.Test.YtfpdloccmneabaaPx0
import Derived.Test.YtfpdloccmneabaaPx6
import Derived.Test.YtfpdloccmneabaaPx10
import Derived.Test.YtfpdloccmneabaaPx20
import Derived.Test.YtfpdloccmneabaaMBch
import Derived.Lib.BitFns
set_option linter.unusedVariables false
set_option linter.unusedSimpArgs false
namespace Go.Proofs.Ytfpdloccmneabaa.L
open Go Go.RowKit Go.Proofs.Ytfpdloccmneabaa.P Go.Proofs.YtfpdloccmneabaaW.PrintWords Go.Proofs.YtfpdloccmneabaaW.PrintLast Go.Proofs.YtfpdloccmneabaaW.PrintMore Go.Proofs.CsM
def toB (l : List Int) : Ser Bool := ⟨bitAt l⟩
theorem toB_c (l : List Int) (i : Nat) : (toB l).c i = bitAt l i := rfl
theorem toB_bd (l : List Int) : Bd (toB l) (8 * l.length) := fun i hi => bitAt_out hi
theorem toB_get {l m : List Int} (h : ∀ i, l.getD i 0 = m.getD i 0) : toB l = toB m := Ser.ext fun i => by
  show bitAt l i = bitAt m i
  unfold bitAt; rw [h]
theorem toB_fin (l : List Int) : toB (fin l) = toB l := toB_get fun i => fin_get l i
theorem bfin_top {l : List Int} (hl : Byt l) (h : 0 < (fin l).length) : ∃ j, 8 * ((fin l).length - 1) ≤ j ∧ j < 8 * (fin l).length ∧ bitAt l j = true := by
  have h1 := fin_top l h
  have hb := hl.get ((fin l).length - 1)
  refine Classical.byContradiction fun hn => h1 ?_
  have : (l.getD ((fin l).length - 1) 0).toNat = 0 := testBit_ext8 (by omega) (by omega) fun j hj => by
    rw [Nat.zero_testBit]
    refine Bool.eq_false_iff.2 fun e => hn ⟨8 * ((fin l).length - 1) + j, by omega, by omega, ?_⟩
    unfold bitAt
    rw [show (8 * ((fin l).length - 1) + j) / 8 = (fin l).length - 1 from by omega, show (8 * ((fin l).length - 1) + j) % 8 = j from by omega]
    exact e
  omega
theorem bfin_len {l : List Int} (hl : Byt l) {d : Nat} (h : (toB l).c d = true) (h' : Bd (toB l) (d + 1)) : (fin l).length = d / 8 + 1 := by
  have h1 : d < 8 * (fin l).length := Nat.lt_of_not_le fun e => by
    have := toB_bd (fin l) d e
    rw [toB_fin] at this
    rw [h] at this; exact absurd this (by decide)
  obtain ⟨j, h2, h3, h4⟩ := bfin_top hl (by omega)
  have h5 : j < d + 1 := Nat.lt_of_not_le fun e => by
    have := h' j e
    rw [toB_c, h4] at this; exact absurd this (by decide)
  omega
theorem bfin_0 {l : List Int} (hl : Byt l) (h : toB l = 0) : fin l = [] := by
  by_cases e : 0 < (fin l).length
  · obtain ⟨j, _, _, h4⟩ := bfin_top hl e
    rw [← toB_c, h] at h4
    have h5 : (0 : Ser Bool).c j = false := rfl
    rw [h5] at h4; cases h4
  · exact List.eq_nil_of_length_eq_zero (by omega)
theorem Byt.fin {l : List Int} (h : Byt l) : Byt (fin l) := h.take _
theorem bfin_eq {l m : List Int} (hl : Byt l) (hm : Byt m) (h : toB l = toB m) : fin l = fin m := by
  refine byt_ext (Byt.fin hl) (Byt.fin hm) ?_ fun i _ => by rw [← toB_c, ← toB_c, toB_fin, toB_fin, h]
  by_cases h0 : toB l = 0
  · rw [bfin_0 hl h0, bfin_0 hm (by rw [← h, h0])]
  · obtain ⟨d, _, h1, h2⟩ := dtop (toB_bd l) h0
    rw [bfin_len hl (b_ne0.1 h1) h2, bfin_len hm (by rw [← h]; exact b_ne0.1 h1) (by rw [← h]; exact h2)]
/-- The shortest row of a polynomial. -/
structure CanB (f : Ser Bool) (r : List Int) : Prop where
  byt : Byt r
  fin : fin r = r
  is : toB r = f
theorem CanB.of {l : List Int} (hl : Byt l) : CanB (toB l) (P.fin l) := ⟨Byt.fin hl, bfin_eq (Byt.fin hl) hl (toB_fin l), toB_fin l⟩
theorem CanB.len {f : Ser Bool} {r : List Int} (h : CanB f r) {n : Nat} (hf : Bd f n) : r.length ≤ (n + 7) / 8 := by
  by_cases e : 0 < r.length
  · obtain ⟨j, h1, h2, h3⟩ := bfin_top h.byt (by rw [h.fin]; exact e)
    rw [h.fin] at h1
    have h5 : j < n := Nat.lt_of_not_le fun e => by
      have := hf j e
      rw [← h.is, toB_c, h3] at this; exact absurd this (by decide)
    omega
  · omega
theorem CanB.length {f : Ser Bool} {r : List Int} (h : CanB f r) {d : Nat} (h1 : f.c d = true) (h2 : Bd f (d + 1)) : r.length = d / 8 + 1 := by
  rw [← h.fin]; exact bfin_len h.byt (by rw [h.is]; exact h1) (by rw [h.is]; exact h2)
theorem CanB.nil {f : Ser Bool} {r : List Int} (h : CanB f r) (e : f = 0) : r = [] := by
  rw [← h.fin]; exact bfin_0 h.byt (by rw [h.is, e])
theorem cst_et (a : Nat) : Int.tmod (a : Int) 8 = ((a % 8 : Nat) : Int) := by rw [tmd 8 (by omega)]; omega
theorem cst_ed {a : Nat} (h : a ≤ 8000000) : wrap64 (Int.tdiv (a : Int) 8) = ((a / 8 : Nat) : Int) := by rw [tdv 8 (by omega), w64 (by omega) (by omega)]; omega
theorem cst_add {a b : Nat} (h : a + b ≤ 9000000) : wrap64 ((a : Int) + (b : Int)) = ((a + b : Nat) : Int) := by rw [w64 (by omega) (by omega)]; omega
theorem cst_sub {a b : Nat} (h : b ≤ a) (ha : a ≤ 9000000) : wrap64 ((a : Int) - (b : Int)) = ((a - b : Nat) : Int) := by rw [w64 (by omega) (by omega)]; omega
def mono (i : Nat) (v : Bool) : Ser Bool := cst v * pw XX i
theorem mono_c (i : Nat) (v : Bool) (j : Nat) : (mono i v).c j = (decide (j = i) && v) := by
  have e : mono i v = pw XX i * cst v := R2.mul_comm _ _
  rw [e, pwXX_c, cst_c]
  by_cases h : j = i
  · subst h; rw [if_pos (Nat.le_refl _), Nat.sub_self, if_pos rfl, decide_eq_true rfl, Bool.true_and]
  · rw [decide_eq_false h, Bool.false_and]
    by_cases h1 : i ≤ j
    · rw [if_pos h1, if_neg (by omega)]; rfl
    · rw [if_neg h1]; rfl
theorem mono_false (i : Nat) : mono i false = 0 := by
  unfold mono; rw [show (cst false : Ser Bool) = 0 from cst_zero, r_zero_mul]
def cut (f : Ser Bool) (i : Nat) : Ser Bool := ⟨fun j => if j < i then f.c j else 0⟩
/-- How long a row is in bits. -/
def bsz (l : List Int) : Nat := sz (bitAt l) (8 * l.length)
/-- What is left of f behind g, whose degree is d. -/
def Rest (f g r : Ser Bool) (d : Nat) : Prop := Bd r d ∧ ∃ a n, Bd a n ∧ f = a * g + r
theorem Rest.add {f f' g r r' : Ser Bool} {d : Nat} (h : Rest f g r d) (h' : Rest f' g r' d) : Rest (f + f') g (r + r') d := by
  obtain ⟨h1, a, n, h2, h3⟩ := h
  obtain ⟨h1', a', n', h2', h3'⟩ := h'
  exact ⟨h1.add h1', a + a', max n n', (h2.mono (Nat.le_max_left n n')).add (h2'.mono (Nat.le_max_right n n')), by rw [h3, h3', r_add_mul]; ac_rfl⟩
theorem Rest.start {f g : Ser Bool} {d : Nat} (h : Bd f d) : Rest f g f d := ⟨h, 0, 0, Bd_zero _, by rw [r_zero_mul, r_zero_add]⟩
/-- The value of what stands from the i-th bit on. -/
def tv (f : Ser Bool) (n i : Nat) (x : GF) : GF := ev ⟨fun m => (lift f).c (i + m)⟩ (n - i) x
theorem tv_end (f : Ser Bool) (n : Nat) (x : GF) : tv f n n x = 0 := by unfold tv; rw [Nat.sub_self]; rfl
theorem tv_step (f : Ser Bool) {n i : Nat} (h : i < n) (x : GF) : tv f n i x = tv f n (i + 1) x * x + b2g (f.c i) := by
  unfold tv
  rw [show n - i = n - (i + 1) + 1 from by omega, ev_front]
  rw [R2.add_comm, R2.mul_comm]
  congr 2
  congr 1
  exact Ser.ext fun m => by show (lift f).c (i + (m + 1)) = (lift f).c (i + 1 + m); congr 1; omega
theorem tv_all (f : Ser Bool) (n : Nat) (x : GF) : tv f n 0 x = vb f n x := by
  unfold tv vb
  congr 1
  exact Ser.ext fun m => by show (lift f).c (0 + m) = _; rw [Nat.zero_add]
def toL (l : List Int) : Ser Bool := ⟨fun i => decide (l.getD i 0 = 1)⟩
theorem toL_c (l : List Int) (i : Nat) : (toL l).c i = decide (l.getD i 0 = 1) := rfl
def Bt (l : List Int) : Prop := ∀ i, l.getD i 0 = b2i ((toL l).c i)
theorem Bt.of {l : List Int} (f : Nat → Bool) (h : ∀ i, l.getD i 0 = b2i (f i)) : Bt l ∧ toL l = ⟨f⟩ := by
  have e : ∀ i, (toL l).c i = f i := fun i => by
    rw [toL_c, h i]; cases f i <;> rfl
  exact ⟨fun i => by rw [e]; exact h i, Ser.ext e⟩
theorem Bt.set {l : List Int} (h : Bt l) {i : Nat} (hi : i < l.length) (v : Bool) : Bt (l.set i (b2i ((toL l).c i ^^ v))) ∧ toL (l.set i (b2i ((toL l).c i ^^ v))) = toL l + mono i v := by
  have := Bt.of (l := l.set i (b2i ((toL l).c i ^^ v))) (fun j => (toL l).c j ^^ (decide (j = i) && v)) fun j => by
    rw [getD_set _ _ _ _ hi]
    by_cases e : i = j
    · subst e; rw [if_pos rfl, decide_eq_true rfl, Bool.true_and]
    · rw [if_neg e, decide_eq_false (fun h => e h.symm), Bool.false_and, Bool.xor_false]; exact h j
  refine ⟨this.1, this.2.trans (Ser.ext fun j => ?_)⟩
  rw [add_c, mono_c]; rfl
theorem Bt.zeros (n : Nat) : Bt (List.replicate n 0) ∧ toL (List.replicate n 0) = 0 := Bt.of (fun _ => false) fun i => by
  by_cases h : i < n
  · simp [List.getElem?_replicate, h, b2i]
  · simp [List.getElem?_replicate, h, b2i]
theorem Bt.one : Bt [1] ∧ toL [1] = 1 := by
  have := Bt.of (l := [1]) (fun i => decide (i = 0)) fun i => by
    cases i with
    | zero => rfl
    | succ i => simp [b2i]
  refine ⟨this.1, this.2.trans (Ser.ext fun i => ?_)⟩
  rw [one_c]
  show decide (i = 0) = _
  by_cases h : i = 0 <;> simp [h, b_zero, b_one]
/-- How long a list is without noughts at its end. -/
def lsz (l : List Int) : Nat := sz (toL l).c l.length
end Go.Proofs.Ytfpdloccmneabaa.L

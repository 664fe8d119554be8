/- Plain mathematics: Go's sums, shifts and bitwise operations on numbers that fit, as those of the natural numbers; rows of bytes and their bits. No condition. -/
import Derived.Laws.BitsLemmas
import Derived.Laws.BitsAllLaws
import Derived.Lib.Bytes
import Derived.Test.YtfpdloccmneabaaMRing
import Derived.Test.YtfpdloccmneabaaWWords
import Derived.Test.YtfpdloccmneabaaWMore
set_option linter.unusedVariables false
set_option linter.unusedSimpArgs false
namespace Go.Proofs.CsM
open Go Go.RowKit Go.Proofs.YtfpdloccmneabaaW.PrintWords Go.Proofs.YtfpdloccmneabaaW.PrintMore
theorem w64 {n : Int} (h0 : -9223372036854775808 ≤ n) (h1 : n ≤ 9223372036854775807) : wrap64 n = n := by unfold wrap64; omega
theorem tdv {a : Int} (b : Int) (h : 0 ≤ a) : Int.tdiv a b = a / b := Int.tdiv_eq_ediv_of_nonneg h
theorem tmd {a : Int} (b : Int) (h : 0 ≤ a) : Int.tmod a b = a % b := Int.tmod_eq_emod_of_nonneg h
theorem wraps_i64 (n : Int) (h₀ : 0 ≤ n) (h₁ : n < 2 ^ 62) : IntKind.i64.wrap n = n := by rw [IntKind.wrap_i64]; omega
theorem ofInt_64 (a : Nat) (ha : a < 18446744073709551616) : (BitVec.ofInt 64 (a : Int)).toNat = a := by
  rw [BitVec.ofInt_natCast, BitVec.toNat_ofNat]; exact Nat.mod_eq_of_lt ha
theorem i64_xor {a b : Int} (ha : 0 ≤ a) (ha' : a < 2 ^ 62) (hb : 0 ≤ b) (hb' : b < 2 ^ 62) : Go.bits .xor .i64 a b = ((a.toNat ^^^ b.toNat : Nat) : Int) := by
  obtain ⟨x, rfl⟩ := Int.eq_ofNat_of_zero_le ha
  obtain ⟨y, rfl⟩ := Int.eq_ofNat_of_zero_le hb
  have hx : x < 2 ^ 62 := by exact_mod_cast ha'
  have hy : y < 2 ^ 62 := by exact_mod_cast hb'
  have hp : (2 : Nat) ^ 62 ≤ 18446744073709551616 := by decide
  show Go.bits .xor .i64 (x : Int) (y : Int) = ((x ^^^ y : Nat) : Int)
  have hl := Nat.xor_lt_two_pow (n := 62) hx hy
  have e : (BitVec.ofInt 64 (x : Int) ^^^ BitVec.ofInt 64 (y : Int)).toNat = x ^^^ y := by
    rw [BitVec.toNat_xor, ofInt_64 x (by omega), ofInt_64 y (by omega)]
  have e2 : Go.bits .xor .i64 (x : Int) (y : Int) = IntKind.i64.wrap (((BitVec.ofInt 64 (x : Int) ^^^ BitVec.ofInt 64 (y : Int)).toNat : Nat) : Int) := rfl
  rw [e2, e]
  exact wraps_i64 _ (Int.natCast_nonneg _) (by exact_mod_cast hl)
theorem i64_and1 {a : Int} (ha : 0 ≤ a) (ha' : a < 2 ^ 62) : Go.bits .and .i64 a 1 = a % 2 := by
  have h := bits_mask .i64 62 (by decide) wraps_i64 1 (by decide) a ha ha'
  simpa using h
theorem rd_nat (xs : List Int) (i : Nat) : rd xs (i : Int) = xs.getD i 0 := by unfold rd; rw [Int.toNat_natCast]
theorem rd_of {xs : List Int} {i : Int} (h : 0 ≤ i) : rd xs i = xs.getD i.toNat 0 := rfl
def Byt (l : List Int) : Prop := ∀ x ∈ l, 0 ≤ x ∧ x < 256
theorem byt_wf {l : List Int} (h : ∀ x ∈ l, (Lit.int .u8 x).wf = true) : Byt l := fun x hx => by
  have := h x hx
  simp only [Lit.wf, IntKind.min, IntKind.max, IntKind.signed, IntKind.bits, Bool.and_eq_true, decide_eq_true_eq] at this
  have h1 := this.1
  have h2 := this.2
  simp at h1 h2
  omega
theorem Byt.get {l : List Int} (h : Byt l) (i : Nat) : 0 ≤ l.getD i 0 ∧ l.getD i 0 < 256 := by
  by_cases hi : i < l.length
  · have e : l.getD i 0 = l[i] := by simp [hi]
    rw [e]; exact h _ (List.getElem_mem hi)
  · have e : l.getD i 0 = 0 := by simp [List.getElem?_eq_none (show l.length ≤ i by omega)]
    rw [e]; omega
theorem Byt.nil : Byt [] := fun x hx => by simp at hx
theorem Byt.cons {a : Int} {l : List Int} (ha : 0 ≤ a ∧ a < 256) (h : Byt l) : Byt (a :: l) := fun x hx => by
  rcases List.mem_cons.1 hx with rfl | hx
  · exact ha
  · exact h x hx
theorem Byt.append {l m : List Int} (h : Byt l) (k : Byt m) : Byt (l ++ m) := fun x hx => by
  rcases List.mem_append.1 hx with hx | hx
  · exact h x hx
  · exact k x hx
theorem Byt.set {l : List Int} (h : Byt l) (i : Nat) {v : Int} (hv : 0 ≤ v ∧ v < 256) : Byt (l.set i v) := fun x hx => by
  rcases List.mem_or_eq_of_mem_set hx with hx | rfl
  · exact h x hx
  · exact hv
theorem Byt.take {l : List Int} (h : Byt l) (n : Nat) : Byt (l.take n) := fun x hx => h x (List.mem_of_mem_take hx)
theorem Byt.drop {l : List Int} (h : Byt l) (n : Nat) : Byt (l.drop n) := fun x hx => h x (List.mem_of_mem_drop hx)
theorem Byt.zeros (n : Nat) : Byt (List.replicate n 0) := fun x hx => by
  rw [(List.mem_replicate.1 hx).2]; omega
/-- The bit i of a row. -/
def bitAt (l : List Int) (i : Nat) : Bool := (l.getD (i / 8) 0).toNat.testBit (i % 8)
theorem bitAt_out {l : List Int} {i : Nat} (h : 8 * l.length ≤ i) : bitAt l i = false := by
  unfold bitAt
  have e : l.getD (i / 8) 0 = 0 := by simp [List.getElem?_eq_none (show l.length ≤ i / 8 by omega)]
  rw [e]; simp
theorem testBit_ext8 {a b : Nat} (ha : a < 256) (hb : b < 256) (h : ∀ j, j < 8 → a.testBit j = b.testBit j) : a = b := by
  refine Nat.eq_of_testBit_eq fun j => ?_
  by_cases hj : j < 8
  · exact h j hj
  · have hp : 256 ≤ 2 ^ j := by
      have := Nat.pow_le_pow_right (show 0 < 2 by omega) (show 8 ≤ j by omega)
      simpa using this
    rw [Nat.testBit_lt_two_pow (by omega), Nat.testBit_lt_two_pow (by omega)]
theorem byt_ext {l m : List Int} (hl : Byt l) (hm : Byt m) (hlen : l.length = m.length) (h : ∀ i, i < 8 * l.length → bitAt l i = bitAt m i) : l = m := by
  refine List.ext_getElem hlen fun i h1 h2 => ?_
  have e1 : l.getD i 0 = l[i] := by simp [h1]
  have e2 : m.getD i 0 = m[i] := by simp [h2]
  have b1 := hl.get i
  have b2 := hm.get i
  rw [e1] at b1; rw [e2] at b2
  have : l[i].toNat = m[i].toNat := testBit_ext8 (by omega) (by omega) fun j hj => by
    have hh := h (8 * i + j) (by omega)
    unfold bitAt at hh
    rw [show (8 * i + j) / 8 = i from by omega, show (8 * i + j) % 8 = j from by omega, e1, e2] at hh
    exact hh
  omega
theorem one_shl (j : Nat) (h : j < 8) : shl .u8 1 (j : Int) = ((2 ^ j : Nat) : Int) := by
  unfold shl
  have : j = 0 ∨ j = 1 ∨ j = 2 ∨ j = 3 ∨ j = 4 ∨ j = 5 ∨ j = 6 ∨ j = 7 := by omega
  rcases this with rfl | rfl | rfl | rfl | rfl | rfl | rfl | rfl <;> rfl
theorem pow8 {j : Nat} (h : j < 8) : 2 ^ j < 256 := Nat.pow_lt_pow_right (show 1 < 2 by omega) h
theorem shr_u8 (x : Int) (j : Nat) (hx : 0 ≤ x) (hj : j ≤ 8) : shr .u8 x (j : Int) = ((x.toNat >>> j : Nat) : Int) := by
  obtain ⟨a, rfl⟩ := Int.eq_ofNat_of_zero_le hx
  unfold shr
  rw [Int.toNat_natCast, show IntKind.u8.bits = 8 from rfl, Nat.min_eq_left hj, Nat.shiftRight_eq_div_pow, Int.toNat_natCast]
  simp
/-- A bit turned. -/
def flipb (l : List Int) (p : Nat) : List Int := l.set (p / 8) ((((l.getD (p / 8) 0).toNat ^^^ 2 ^ (p % 8)) : Nat) : Int)
theorem flipb_length (l : List Int) (p : Nat) : (flipb l p).length = l.length := by simp [flipb]
theorem flipb_byt {l : List Int} (h : Byt l) (p : Nat) : Byt (flipb l p) := by
  have hx := h.get (p / 8)
  have hp8 := pow8 (show p % 8 < 8 by omega)
  have h2 : (l.getD (p / 8) 0).toNat ^^^ 2 ^ (p % 8) < 2 ^ 8 := Nat.xor_lt_two_pow (by omega) hp8
  have h3 : (l.getD (p / 8) 0).toNat ^^^ 2 ^ (p % 8) < 256 := h2
  exact h.set _ ⟨Int.natCast_nonneg _, by omega⟩
theorem getD_set (l : List Int) (i j : Nat) (v : Int) (hi : i < l.length) : (l.set i v).getD j 0 = if i = j then v else l.getD j 0 := by
  by_cases h : i = j
  · subst h; rw [if_pos rfl, List.getD_eq_getElem?_getD, List.getElem?_set_self hi]; rfl
  · rw [if_neg h, List.getD_eq_getElem?_getD, List.getElem?_set_ne h, List.getD_eq_getElem?_getD]
theorem bitAt_flipb {l : List Int} {p : Nat} (hp : p < 8 * l.length) (i : Nat) : bitAt (flipb l p) i = (bitAt l i ^^ decide (i = p)) := by
  unfold bitAt flipb
  rw [getD_set _ _ _ _ (by omega)]
  by_cases h : p / 8 = i / 8
  · rw [if_pos h, Int.toNat_natCast, Nat.testBit_xor, Nat.testBit_two_pow, h]
    congr 1
    by_cases h2 : i = p
    · subst h2; simp
    · have : ¬ p % 8 = i % 8 := by omega
      simp [h2, this]
  · rw [if_neg h]
    have : ¬ i = p := fun e => h (by rw [e])
    simp [this]
/-- Bits turned, one by one. -/
def turnb (l : List Int) : List Nat → List Int
  | [] => l
  | p :: ps => turnb (flipb l p) ps
/-- Does it stand there an odd number of times? -/
def odds (ps : List Nat) (i : Nat) : Bool := match ps with
  | [] => false
  | p :: ps => decide (i = p) ^^ odds ps i
/-- Those that are unlike, rising. -/
def diffs (f : Nat → Bool) (n : Nat) : List Nat := (List.range n).filter f
theorem diffs_succ (f : Nat → Bool) (n : Nat) : diffs f (n + 1) = diffs f n ++ (if f n then [n] else []) := by
  unfold diffs
  rw [List.range_succ, List.filter_append]
  congr 1
  cases h : f n <;> simp [h]
theorem diffs_congr {f g : Nat → Bool} {n : Nat} (h : ∀ i, i < n → f i = g i) : diffs f n = diffs g n :=
  List.filter_congr fun i hi => h i (List.mem_range.1 hi)
theorem mem_diffs {f : Nat → Bool} {n i : Nat} : i ∈ diffs f n ↔ i < n ∧ f i = true := by simp [diffs]
/-- How many are. -/
def cnt (f : Nat → Bool) (n : Nat) : Nat := (diffs f n).length
theorem cnt_succ (f : Nat → Bool) (n : Nat) : cnt f (n + 1) = cnt f n + (if f n then 1 else 0) := by
  unfold cnt; rw [diffs_succ, List.length_append]; split <;> rfl
theorem cnt_zero (f : Nat → Bool) : cnt f 0 = 0 := rfl
theorem cnt_le (f : Nat → Bool) (n : Nat) : cnt f n ≤ n := by
  induction n with
  | zero => exact Nat.le_refl _
  | succ n ih => rw [cnt_succ]; split <;> omega
theorem cnt_congr {f g : Nat → Bool} {n : Nat} (h : ∀ i, i < n → f i = g i) : cnt f n = cnt g n := by unfold cnt; rw [diffs_congr h]
theorem cnt_none {f : Nat → Bool} {n : Nat} (h : ∀ i, i < n → f i = false) : cnt f n = 0 := by
  induction n with
  | zero => rfl
  | succ n ih => rw [cnt_succ, ih (fun i hi => h i (by omega)), h n (by omega)]; rfl
theorem cnt_add (f : Nat → Bool) (n m : Nat) : cnt f (n + m) = cnt f n + cnt (fun i => f (n + i)) m := by
  induction m with
  | zero => simp [cnt_zero]
  | succ m ih => rw [← Nat.add_assoc, cnt_succ, ih, cnt_succ]; omega
end Go.Proofs.CsM

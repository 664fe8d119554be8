/- What the functions of layer 1 (bits) and of its reference come to, in plain Lean: bits, rows of bits, what is turned, what is apart. Conditions: the rows are bytes, as long as the statements let in. -/
import Derived.Test.YtlaadaigffmibaaPx0
import Derived.Test.YtlaadaigffmibaaMNum
set_option linter.unusedVariables false
set_option linter.unusedSimpArgs false
namespace Go.Proofs.Ytlaadaigffmibaa.L
open Go Go.RowKit Go.Proofs.Ytlaadaigffmibaa.P Go.Proofs.YtlaadaigffmibaaW.PrintWords Go.Proofs.YtlaadaigffmibaaW.PrintLast Go.Proofs.YtlaadaigffmibaaW.PrintMore Go.Proofs.CsM

def b2i (b : Bool) : Int := if b then 1 else 0
theorem b2i_inj {a b : Bool} : b2i a = b2i b ↔ a = b := by cases a <;> cases b <;> simp [b2i]
theorem b2i_01 (b : Bool) : 0 ≤ b2i b ∧ b2i b ≤ 1 := by cases b <;> simp [b2i]
theorem testBit_i (x : Int) (j : Nat) (hx : 0 ≤ x) : x / 2 ^ j % 2 = b2i (x.toNat.testBit j) := by
  obtain ⟨a, rfl⟩ := Int.eq_ofNat_of_zero_le hx
  rw [Int.toNat_natCast, Nat.testBit_eq_decide_div_mod_eq]
  have e : (a : Int) / 2 ^ j % 2 = ((a / 2 ^ j % 2 : Nat) : Int) := by simp
  rw [e]
  rcases Nat.mod_two_eq_zero_or_one (a / 2 ^ j) with h | h <;> simp [h, b2i]
def ints (ns : List Nat) : List Int := ns.map fun (n : Nat) => (n : Int)
theorem ints_length (ns : List Nat) : (ints ns).length = ns.length := by simp [ints]
theorem ints_get (ns : List Nat) (i : Nat) (h : i < ns.length) : (ints ns).getD i 0 = ((ns[i] : Nat) : Int) := by simp [ints, h]
theorem fuel {k n : Nat} (h : n < k) : ∃ m, k = m + 1 := ⟨k - 1, by omega⟩


/-- The bits of a row, as numbers. -/
def bl (l : List Int) : List Int := (List.range (8 * l.length)).map fun i => b2i (bitAt l i)
theorem bl_length (l : List Int) : (bl l).length = 8 * l.length := by simp [bl]
theorem bl_get (l : List Int) (i : Nat) (h : i < 8 * l.length) : (bl l).getD i 0 = b2i (bitAt l i) := by simp [bl, h]
theorem list_snoc_map (f : Nat → Int) (n : Nat) : (List.range (n + 1)).map f = (List.range n).map f ++ [f n] := by rw [List.range_succ, List.map_append]; rfl




/-- All places are there, as natural numbers; or one is not. -/
theorem places_or (n : Nat) (ps : List Int) : (∃ ns : List Nat, ps = ints ns ∧ ∀ m ∈ ns, m < 8 * n) ∨ ∃ q, q < ps.length ∧ (ps.getD q 0 < 0 ∨ 8 * (n : Int) ≤ ps.getD q 0) := by
  induction ps with
  | nil => exact .inl ⟨[], rfl, fun m hm => by simp at hm⟩
  | cons p ps ih =>
    by_cases h : 0 ≤ p ∧ p < 8 * (n : Int)
    · rcases ih with ⟨ns, h1, h2⟩ | ⟨q, h1, h2⟩
      · refine .inl ⟨p.toNat :: ns, ?_, fun m hm => ?_⟩
        · have e : ints (p.toNat :: ns) = (p.toNat : Int) :: ints ns := rfl
          rw [e, ← h1]; congr 1; omega
        · rcases List.mem_cons.1 hm with rfl | hm
          · omega
          · exact h2 m hm
      · exact .inr ⟨q + 1, by simp; omega, by simpa using h2⟩
    · exact .inr ⟨0, by simp, by simp; omega⟩


/-- Where two rows are unlike. -/
def apart (a b : List Int) : List Nat := diffs (fun i => bitAt a i ^^ bitAt b i) (8 * a.length)
theorem apart_le (a b : List Int) : (apart a b).length ≤ 8 * a.length := cnt_le _ _
theorem apart_lt (a b : List Int) : ∀ n ∈ apart a b, n < 8 * a.length := fun n hn => (mem_diffs.1 hn).1




/-- The ones of a number below 256. -/
def ones8 (n : Nat) : Nat := cnt (fun j => n.testBit j) 8
def ones (l : List Int) : Nat := cnt (bitAt l) (8 * l.length)
theorem ones8_step : allb (fun n => n == 0 || ones8 n == ones8 (n &&& ((n + 255) % 256)) + 1) 8 0 = true := by decide +kernel
theorem ones8_zero : ones8 0 = 0 := by decide +kernel
theorem ones_le (l : List Int) : ones l ≤ 8 * l.length := cnt_le _ _
theorem ones_take (l : List Int) (i : Nat) : cnt (bitAt l) (8 * i + 8) = cnt (bitAt l) (8 * i) + ones8 (l.getD i 0).toNat := by
  rw [cnt_add]
  congr 1
  exact cnt_congr fun j hj => by
    unfold bitAt
    rw [show (8 * i + j) / 8 = i from by omega, show (8 * i + j) % 8 = j from by omega]


/-- Two rows of bytes as texts. -/
theorem str_eq {a b : List Int} (ha : Byt a) (hb : Byt b) : (strOfNums a).toList = (strOfNums b).toList ↔ a = b := by
  constructor
  · intro h
    rw [Lib.strOfNums_toList, Lib.strOfNums_toList] at h
    have hlen : a.length = b.length := by have := congrArg List.length h; simpa [Lib.bytesOf] using this
    refine List.ext_getElem hlen fun i h1 h2 => ?_
    have e : (Lib.bytesOf a)[i]? = (Lib.bytesOf b)[i]? := by rw [h]
    simp only [Lib.bytesOf, List.getElem?_map, List.getElem?_eq_getElem h1, List.getElem?_eq_getElem h2, Option.map_some, Option.some.injEq] at e
    have b1 := ha _ (List.getElem_mem h1)
    have b2 := hb _ (List.getElem_mem h2)
    have e2 := congrArg UInt8.toNat e
    rw [UInt8.toNat_ofNat', UInt8.toNat_ofNat'] at e2
    omega
  · rintro rfl; rfl
theorem str_beq {a b : List Int} (ha : Byt a) (hb : Byt b) : ((strOfNums a).toList == (strOfNums b).toList) = decide (a = b) := by
  rw [Bool.eq_iff_iff, beq_iff_eq, str_eq ha hb, decide_eq_true_eq]


end Go.Proofs.Ytlaadaigffmibaa.L

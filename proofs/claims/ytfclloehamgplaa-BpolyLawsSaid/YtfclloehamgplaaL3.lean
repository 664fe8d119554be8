/- What the functions of layer 3 (poly) and of its reference come to, in plain Lean: lists of elements as polynomials. No condition but that the lists are of elements, where it says so. -/
import Derived.Test.YtfclloehamgplaaL2
import Derived.Test.YtfclloehamgplaaPx0
import Derived.Test.YtfclloehamgplaaPx4
import Derived.Test.YtfclloehamgplaaMPoly
set_option linter.unusedVariables false
set_option linter.unusedSimpArgs false
namespace Go.Proofs.Ytfclloehamgplaa.L
open Go Go.RowKit Go.Proofs.Ytfclloehamgplaa.P Go.Proofs.YtfclloehamgplaaW.PrintWords Go.Proofs.YtfclloehamgplaaW.PrintLast Go.Proofs.YtfclloehamgplaaW.PrintMore Go.Proofs.CsM
def El (l : List Int) : Prop := ∀ x ∈ l, isEl x
instance (l : List Int) : Decidable (El l) := by unfold El; exact inferInstance
theorem El.get {l : List Int} (h : El l) (i : Nat) : isEl (l.getD i 0) := by
  by_cases hi : i < l.length
  · have : l.getD i 0 = l[i] := by simp [hi]
    rw [this]; exact h _ (List.getElem_mem hi)
  · have : l.getD i 0 = 0 := by simp [List.getElem?_eq_none (Nat.le_of_not_lt hi)]
    rw [this]; decide
theorem El.nil : El [] := fun x hx => by simp at hx
theorem El.cons {a : Int} {l : List Int} : El (a :: l) ↔ isEl a ∧ El l := by simp [El]
theorem El.set {l : List Int} (h : El l) (i : Nat) {v : Int} (hv : isEl v) : El (l.set i v) := fun x hx => by
  rcases List.mem_or_eq_of_mem_set hx with h1 | h1
  · exact h x h1
  · rw [h1]; exact hv
theorem El.take {l : List Int} (h : El l) (n : Nat) : El (l.take n) := fun x hx => h x (List.mem_of_mem_take hx)
theorem El.append {l m : List Int} (h : El l) (h' : El m) : El (l ++ m) := fun x hx => by
  rcases List.mem_append.1 hx with h1 | h1
  · exact h x h1
  · exact h' x h1
theorem El.zeros (n : Nat) : El (List.replicate n 0) := fun x hx => by
  rw [(List.mem_replicate.1 hx).2]; decide
/-- A list as a polynomial. -/
def toS (l : List Int) : Ser GF := ⟨fun i => gof (l.getD i 0)⟩
/-- A list's first n coefficients laid down. -/
def ofS (f : Ser GF) (n : Nat) : List Int := (List.range n).map fun i => gi (f.c i)
theorem normN_le (l : List Int) : ∀ n, normN l n ≤ n
  | 0 => Nat.le_refl _
  | n + 1 => by unfold normN; split; exact Nat.le_succ_of_le (normN_le l n); exact Nat.le_refl _
theorem normN_zero (l : List Int) : ∀ n i, normN l n ≤ i → i < n → l.getD i 0 = 0
  | 0, i, _, h => by omega
  | n + 1, i, h, hi => by
    unfold normN at h
    split at h
    · rename_i h0
      by_cases e : i = n
      · subst e; exact h0
      · exact normN_zero l n i h (by omega)
    · omega
theorem normN_top (l : List Int) : ∀ n, 0 < normN l n → l.getD (normN l n - 1) 0 ≠ 0
  | 0, h => by simp [normN] at h
  | n + 1, h => by
    unfold normN at h ⊢
    split
    · rename_i h0; rw [if_pos h0] at h; exact normN_top l n h
    · rename_i h0; exact h0
theorem fin_length (l : List Int) : (fin l).length = normN l l.length := by
  unfold fin; rw [List.length_take]; exact Nat.min_eq_left (normN_le l _)
theorem fin_le (l : List Int) : (fin l).length ≤ l.length := by rw [fin_length]; exact normN_le l _
theorem fin_get (l : List Int) (i : Nat) : (fin l).getD i 0 = l.getD i 0 := by
  by_cases h : i < normN l l.length
  · unfold fin; simp [List.getElem?_take, h]
  · have h1 : (fin l).getD i 0 = 0 := by simp [List.getElem?_eq_none (show (fin l).length ≤ i by rw [fin_length]; omega)]
    rw [h1]
    by_cases h2 : i < l.length
    · exact (normN_zero l _ i (by omega) h2).symm
    · simp [List.getElem?_eq_none (show l.length ≤ i by omega)]
theorem fin_top (l : List Int) (h : 0 < (fin l).length) : l.getD ((fin l).length - 1) 0 ≠ 0 := by
  rw [fin_length] at h ⊢; exact normN_top l _ h
/-- The list of a polynomial. -/
def pl (f : Ser GF) (n : Nat) : List Int := fin (ofS f n)
def Evt (p : Nat → Prop) : Prop := ∃ K, ∀ k, K ≤ k → p k
theorem Evt.of {p : Nat → Prop} (K : Nat) (h : ∀ k, K < k → p k) : Evt p := ⟨K + 1, fun k hk => h k hk⟩
theorem Evt.all {p : Nat → Prop} (h : ∀ k, p k) : Evt p := ⟨0, fun k _ => h k⟩
theorem Evt.mono {p q : Nat → Prop} (h : Evt p) (f : ∀ k, p k → q k) : Evt q := by
  obtain ⟨K, h⟩ := h; exact ⟨K, fun k hk => f k (h k hk)⟩
theorem Evt.and {p q : Nat → Prop} (h : Evt p) (h' : Evt q) : Evt (fun k => p k ∧ q k) := by
  obtain ⟨K, h⟩ := h; obtain ⟨K', h'⟩ := h'
  exact ⟨K + K', fun k hk => ⟨h k (by omega), h' k (by omega)⟩⟩
theorem Evt.step {p q : Nat → Prop} (h : Evt p) (f : ∀ k, p k → q (k + 1)) : Evt q := by
  obtain ⟨K, h⟩ := h
  refine ⟨K + 1, fun k hk => ?_⟩
  obtain ⟨k, rfl⟩ := fuel (show 0 < k by omega)
  exact f k (h k (by omega))
theorem Evt.get {p : Nat → Prop} (h : Evt p) : ∃ k, p k := by obtain ⟨K, h⟩ := h; exact ⟨K, h K (Nat.le_refl _)⟩
def elB (x : Int) : Bool := decide (isEl x)
end Go.Proofs.Ytfclloehamgplaa.L

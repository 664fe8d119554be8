/- What the functions of layer 3 (poly) and of its reference come to, in plain Lean: lists of elements as polynomials. No condition but that the lists are of elements, where it says so. -/
import Derived.Test.YtfpdloccmneabaaL2
import Derived.Test.YtfpdloccmneabaaPx0
import Derived.Test.YtfpdloccmneabaaPx6
import Derived.Test.YtfpdloccmneabaaPx10
import Derived.Test.YtfpdloccmneabaaMPoly
set_option linter.unusedVariables false
set_option linter.unusedSimpArgs false
namespace Go.Proofs.Ytfpdloccmneabaa.L
open Go Go.RowKit Go.Proofs.Ytfpdloccmneabaa.P Go.Proofs.YtfpdloccmneabaaW.PrintWords Go.Proofs.YtfpdloccmneabaaW.PrintLast Go.Proofs.YtfpdloccmneabaaW.PrintMore Go.Proofs.CsM
def El (l : List Int) : Prop := ∀ x ∈ l, isEl x
instance (l : List Int) : Decidable (El l) := by unfold El; exact inferInstance
theorem El.get {l : List Int} (h : El l) (i : Nat) : isEl (l.getD i 0) := by
  by_cases hi : i < l.length
  · have : l.getD i 0 = l[i] := by simp [hi]
    rw [this]; exact h _ (List.getElem_mem hi)
  · have : l.getD i 0 = 0 := by simp [List.getElem?_eq_none (Nat.le_of_not_lt hi)]
    rw [this]; decide
theorem El.nil : El [] := fun x hx => by simp at hx
theorem El.cons {a : Int} {l : List Int} : El (a :: l) ↔ isEl a ∧ El l := by simp [El]
theorem El.set {l : List Int} (h : El l) (i : Nat) {v : Int} (hv : isEl v) : El (l.set i v) := fun x hx => by
  rcases List.mem_or_eq_of_mem_set hx with h1 | h1
  · exact h x h1
  · rw [h1]; exact hv
theorem El.take {l : List Int} (h : El l) (n : Nat) : El (l.take n) := fun x hx => h x (List.mem_of_mem_take hx)
theorem El.append {l m : List Int} (h : El l) (h' : El m) : El (l ++ m) := fun x hx => by
  rcases List.mem_append.1 hx with h1 | h1
  · exact h x h1
  · exact h' x h1
theorem El.zeros (n : Nat) : El (List.replicate n 0) := fun x hx => by
  rw [(List.mem_replicate.1 hx).2]; decide
/-- A list as a polynomial. -/
def toS (l : List Int) : Ser GF := ⟨fun i => gof (l.getD i 0)⟩
theorem gof_zero : gof 0 = 0 := by rw [← gi_zero, gof_gi]
theorem toS_c (l : List Int) (i : Nat) : (toS l).c i = gof (l.getD i 0) := rfl
theorem gi_toS {l : List Int} (h : El l) (i : Nat) : gi ((toS l).c i) = l.getD i 0 := by rw [toS_c, gi_gof (h.get i)]
theorem toS_bd (l : List Int) : Bd (toS l) l.length := fun i hi => by
  rw [toS_c, show l.getD i 0 = 0 from by simp [List.getElem?_eq_none hi], gof_zero]
/-- A list's first n coefficients laid down. -/
def ofS (f : Ser GF) (n : Nat) : List Int := (List.range n).map fun i => gi (f.c i)
theorem ofS_length (f : Ser GF) (n : Nat) : (ofS f n).length = n := by simp [ofS]
theorem ofS_get (f : Ser GF) (n i : Nat) : (ofS f n).getD i 0 = if i < n then gi (f.c i) else 0 := by
  unfold ofS
  by_cases h : i < n
  · rw [if_pos h]; simp [h]
  · rw [if_neg h]; simp [List.getElem?_eq_none, h]
theorem ofS_El (f : Ser GF) (n : Nat) : El (ofS f n) := fun x hx => by
  obtain ⟨i, _, rfl⟩ := List.mem_map.1 hx; exact gi_el _
theorem toS_ofS {f : Ser GF} {n : Nat} (h : Bd f n) : toS (ofS f n) = f := Ser.ext fun i => by
  rw [toS_c, ofS_get]
  by_cases hi : i < n
  · rw [if_pos hi, gof_gi]
  · rw [if_neg hi, gof_zero, h i (by omega)]
theorem list_ext {l m : List Int} (h : l.length = m.length) (h' : ∀ i, l.getD i 0 = m.getD i 0) : l = m := by
  apply List.ext_getElem h
  intro i h1 h2
  have := h' i
  simpa [h1, h2] using this
theorem el_ext {l m : List Int} (hl : El l) (hm : El m) (h : l.length = m.length) (e : toS l = toS m) : l = m :=
  list_ext h fun i => by rw [← gi_toS hl, ← gi_toS hm, e]
theorem normN_le (l : List Int) : ∀ n, normN l n ≤ n
  | 0 => Nat.le_refl _
  | n + 1 => by unfold normN; split; exact Nat.le_succ_of_le (normN_le l n); exact Nat.le_refl _
theorem normN_zero (l : List Int) : ∀ n i, normN l n ≤ i → i < n → l.getD i 0 = 0
  | 0, i, _, h => by omega
  | n + 1, i, h, hi => by
    unfold normN at h
    split at h
    · rename_i h0
      by_cases e : i = n
      · subst e; exact h0
      · exact normN_zero l n i h (by omega)
    · omega
theorem normN_top (l : List Int) : ∀ n, 0 < normN l n → l.getD (normN l n - 1) 0 ≠ 0
  | 0, h => by simp [normN] at h
  | n + 1, h => by
    unfold normN at h ⊢
    split
    · rename_i h0; rw [if_pos h0] at h; exact normN_top l n h
    · rename_i h0; exact h0
theorem fin_length (l : List Int) : (fin l).length = normN l l.length := by
  unfold fin; rw [List.length_take]; exact Nat.min_eq_left (normN_le l _)
theorem fin_get (l : List Int) (i : Nat) : (fin l).getD i 0 = l.getD i 0 := by
  by_cases h : i < normN l l.length
  · unfold fin; simp [List.getElem?_take, h]
  · have h1 : (fin l).getD i 0 = 0 := by simp [List.getElem?_eq_none (show (fin l).length ≤ i by rw [fin_length]; omega)]
    rw [h1]
    by_cases h2 : i < l.length
    · exact (normN_zero l _ i (by omega) h2).symm
    · simp [List.getElem?_eq_none (show l.length ≤ i by omega)]
theorem fin_El {l : List Int} (h : El l) : El (fin l) := h.take _
theorem toS_fin (l : List Int) : toS (fin l) = toS l := Ser.ext fun i => by rw [toS_c, toS_c, fin_get]
theorem fin_top (l : List Int) (h : 0 < (fin l).length) : l.getD ((fin l).length - 1) 0 ≠ 0 := by
  rw [fin_length] at h ⊢; exact normN_top l _ h
theorem fin_top' {l : List Int} (hl : El l) (h : 0 < (fin l).length) : (toS l).c ((fin l).length - 1) ≠ 0 := fun e => by
  refine fin_top l h ?_
  rw [← gi_toS hl, e, gi_zero]
theorem fin_bd (l : List Int) : Bd (toS l) (fin l).length := by rw [← toS_fin]; exact toS_bd _
theorem fin_len {l : List Int} (hl : El l) {d : Nat} (h : (toS l).c d ≠ 0) (h' : Bd (toS l) (d + 1)) : (fin l).length = d + 1 := by
  have h1 : d < (fin l).length := by
    refine Nat.lt_of_not_le fun e => h (fin_bd l d e)
  by_cases e : (fin l).length = d + 1
  · exact e
  · exact absurd (h' _ (by omega)) (fin_top' hl (by omega))
theorem fin_len0 {l : List Int} (hl : El l) (h : toS l = 0) : fin l = [] := by
  by_cases e : 0 < (fin l).length
  · exact absurd (by rw [h]; rfl) (fin_top' hl e)
  · exact List.eq_nil_of_length_eq_zero (by omega)
theorem fin_eq {l m : List Int} (hl : El l) (hm : El m) (h : toS l = toS m) : fin l = fin m := by
  refine el_ext (fin_El hl) (fin_El hm) ?_ (by rw [toS_fin, toS_fin, h])
  by_cases h0 : toS l = 0
  · rw [fin_len0 hl h0, fin_len0 hm (by rw [← h, h0])]
  · obtain ⟨d, _, h1, h2⟩ := exists_top (toS_bd l) h0
    rw [fin_len hl h1 h2, fin_len hm (by rw [← h]; exact h1) (by rw [← h]; exact h2)]
theorem fin_fin {l : List Int} (hl : El l) : fin (fin l) = fin l := fin_eq (fin_El hl) hl (toS_fin l)
/-- The list of a polynomial. -/
def pl (f : Ser GF) (n : Nat) : List Int := fin (ofS f n)
def Evt (p : Nat → Prop) : Prop := ∃ K, ∀ k, K ≤ k → p k
theorem Evt.of {p : Nat → Prop} (K : Nat) (h : ∀ k, K < k → p k) : Evt p := ⟨K + 1, fun k hk => h k hk⟩
theorem Evt.all {p : Nat → Prop} (h : ∀ k, p k) : Evt p := ⟨0, fun k _ => h k⟩
theorem Evt.mono {p q : Nat → Prop} (h : Evt p) (f : ∀ k, p k → q k) : Evt q := by
  obtain ⟨K, h⟩ := h; exact ⟨K, fun k hk => f k (h k hk)⟩
theorem Evt.and {p q : Nat → Prop} (h : Evt p) (h' : Evt q) : Evt (fun k => p k ∧ q k) := by
  obtain ⟨K, h⟩ := h; obtain ⟨K', h'⟩ := h'
  exact ⟨K + K', fun k hk => ⟨h k (by omega), h' k (by omega)⟩⟩
theorem Evt.step {p q : Nat → Prop} (h : Evt p) (f : ∀ k, p k → q (k + 1)) : Evt q := by
  obtain ⟨K, h⟩ := h
  refine ⟨K + 1, fun k hk => ?_⟩
  obtain ⟨k, rfl⟩ := fuel (show 0 < k by omega)
  exact f k (h k (by omega))
theorem Evt.get {p : Nat → Prop} (h : Evt p) : ∃ k, p k := by obtain ⟨K, h⟩ := h; exact ⟨K, h K (Nat.le_refl _)⟩
def elB (x : Int) : Bool := decide (isEl x)
end Go.Proofs.Ytfpdloccmneabaa.L

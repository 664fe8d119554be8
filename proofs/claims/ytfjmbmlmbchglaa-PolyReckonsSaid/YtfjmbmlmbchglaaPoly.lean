/- Lemmas for the laws of layer 3: sums, products and equal lists as the laws call them. -/
import Derived.Test.YtfjmbmlmbchglaaL3b
set_option linter.unusedVariables false
set_option linter.unusedSimpArgs false
namespace Go.Proofs.Ytfjmbmlmbchglaa.Pure
open Go Go.RowKit Go.Proofs.Ytfjmbmlmbchglaa.P Go.Proofs.YtfjmbmlmbchglaaW.PrintWords Go.Proofs.YtfjmbmlmbchglaaW.PrintLast Go.Proofs.YtfjmbmlmbchglaaW.PrintMore Go.Proofs.CsM Go.Proofs.Ytfjmbmlmbchglaa.L

theorem awake : Evt fun k => casematelaw03_awake.f k = some true := Evt.of 39 fun k hk => by
  unfold casematelaw03_awake.f; exact if_pos (by omega)
theorem canon_eq {l m : List Int} (hl : El l) (hm : El m) (fl : fin l = l) (fm : fin m = m) (h : toS l = toS m) : l = m := by
  rw [← fl, ← fm]; exact fin_eq hl hm h
theorem ints (a b : List Int) (hn : a.length ≤ 2 ^ 60) : Evt fun k => casemateref01_Ints.f k a b = some (decide (a = b)) := Evt.of a.length fun k hk => r1_Ints a b hn hk
theorem ints_yes {a b : List Int} (hn : a.length ≤ 2 ^ 60) (h : a = b) : Evt fun k => casemateref01_Ints.f k a b = some true := (ints a b hn).mono fun k e => by rw [e, decide_eq_true h]
/-- A canonical list of elements. -/
structure Can (f : Ser GF) (n : Nat) (r : List Int) : Prop where
  el : El r
  fin : fin r = r
  toS : toS r = f
  len : r.length ≤ n
theorem Can.of {f : Ser GF} {n : Nat} (h : Bd f n) : Can f n (pl f n) := ⟨pl_El _ _, fin_pl _ _, toS_pl h, pl_length_le _ _⟩
theorem Can.eq {f g : Ser GF} {n m : Nat} {r s : List Int} (h : Can f n r) (h' : Can g m s) (e : f = g) : r = s := canon_eq h.el h'.el h.fin h'.fin (by rw [h.toS, h'.toS, e])
theorem Can.nil {f : Ser GF} {n : Nat} {r : List Int} (h : Can f n r) (e : f = 0) : r = [] := by
  rw [← h.fin]; exact fin_len0 h.el (by rw [h.toS, e])
theorem Can.length {f : Ser GF} {n d : Nat} {r : List Int} (h : Can f n r) (h1 : f.c d ≠ 0) (h2 : Bd f (d + 1)) : r.length = d + 1 := by
  rw [← h.fin]; exact fin_len h.el (by rw [h.toS]; exact h1) (by rw [h.toS]; exact h2)
theorem Can.bd {f : Ser GF} {n : Nat} {r : List Int} (h : Can f n r) : Bd f n := by rw [← h.toS]; exact (toS_bd r).mono h.len
theorem l_add {l m : List Int} (hl : El l) (hm : El m) (n : Nat) (hn : l.length ≤ n ∧ m.length ≤ n) (hn' : n ≤ 1000000) : ∃ r, (Evt fun k => casematelaw03_add.f k l m = some r) ∧ Can (toS l + toS m) n r := by
  refine ⟨_, (p_Add l m hl hm (by omega)).mono fun k h => by unfold casematelaw03_add.f; rw [h, Option.bind_some], ?_⟩
  have := Can.of (((toS_bd l).mono (Nat.le_max_left _ m.length)).add ((toS_bd m).mono (Nat.le_max_right l.length _)))
  exact ⟨this.el, this.fin, this.toS, Nat.le_trans this.len (by omega)⟩
theorem l_mul {l m : List Int} (hl : El l) (hm : El m) (n : Nat) (hn : l.length + m.length ≤ n) (hn' : n ≤ 1000000) : ∃ r, (Evt fun k => casematelaw03_mul.f k l m = some r) ∧ Can (toS l * toS m) n r := by
  refine ⟨_, (p_Mul l m hl hm (by omega)).mono fun k h => by unfold casematelaw03_mul.f; rw [h, Option.bind_some], ?_⟩
  have := Can.of (((toS_bd l).mul' (toS_bd m)).mono (Nat.sub_le _ 1))
  exact ⟨this.el, this.fin, this.toS, Nat.le_trans this.len hn⟩
theorem l_der {l : List Int} (hl : El l) (n : Nat) (hn : l.length ≤ n) (hn' : n ≤ 1000000) : ∃ r, (Evt fun k => poly_Derive.f k l = some (r, 0)) ∧ Can (der (toS l)) n r := by
  refine ⟨_, p_Derive l hl (by omega), ?_⟩
  have := Can.of (der_bd' (toS_bd l))
  exact ⟨this.el, this.fin, this.toS, Nat.le_trans this.len hn⟩
theorem l_small (l m : List Int) : casematelaw03_small.f l m = some (decide (l.length ≤ 60 ∧ m.length ≤ 60)) := by
  unfold casematelaw03_small.f
  by_cases h : l.length ≤ 60
  · rw [if_pos (by omega)]; congr 1; rw [Bool.eq_iff_iff, decide_eq_true_iff, decide_eq_true_iff]; omega
  · rw [if_neg (by omega), decide_eq_false (by omega)]

end Go.Proofs.Ytfjmbmlmbchglaa.Pure

/- Lemmas for the laws of layer 1: when a row is small, the document's examples, the sums of the laws' own loops. -/
import Derived.Test.YtkhhnihcagnbaaaL1
set_option linter.unusedVariables false
set_option linter.unusedSimpArgs false
namespace Go.Proofs.Ytkhhnihcagnbaaa.Pure
open Go Go.RowKit Go.Proofs.Ytkhhnihcagnbaaa.P Go.Proofs.YtkhhnihcagnbaaaW.PrintWords Go.Proofs.YtkhhnihcagnbaaaW.PrintLast Go.Proofs.YtkhhnihcagnbaaaW.PrintMore Go.Proofs.CsM Go.Proofs.Ytkhhnihcagnbaaa.L

theorem small_f (l m : List Int) : casematelaw01_small.f l m = some (decide (l.length ≤ 200 ∧ m.length ≤ 300)) := by
  unfold casematelaw01_small.f
  by_cases h : l.length ≤ 200
  · rw [if_pos (by omega)]; congr 1; by_cases h2 : m.length ≤ 300 <;> simp [h, h2]; omega; omega
  · rw [if_neg (by omega)]; simp [h]
theorem awake60 : casematelaw01_awake.f 60 = some true := by decide +kernel
theorem awake {k : Nat} (h : 60 ≤ k) : casematelaw01_awake.f k = some true := at_rounds (g := casematelaw01_awake.f) casematelaw01_awake.mono h awake60

theorem apart_self (l : List Int) : apart l l = [] := by
  unfold apart diffs
  rw [List.filter_eq_nil_iff]; intro i _; simp
theorem apart_comm {a b : List Int} (h : a.length = b.length) : apart a b = apart b a := by
  unfold apart
  rw [h]
  exact diffs_congr fun i _ => Bool.xor_comm _ _
theorem turn_apart {a b : List Int} (ha : Byt a) (hb : Byt b) (h : a.length = b.length) : turnb a (apart a b) = b := by
  refine byt_ext (turnb_byt ha _) hb (by rw [turnb_length, h]) (fun i hi => ?_)
  rw [turnb_length] at hi
  rw [bitAt_turnb (apart_lt a b)]
  unfold apart
  rw [odds_diffs]
  simp [hi]
theorem apart_tri {a b c : List Int} (h : a.length = b.length) : (apart a c).length ≤ (apart a b).length + (apart b c).length := by
  unfold apart
  rw [← h]
  have := cnt_xor_le (fun i => bitAt a i ^^ bitAt b i) (fun i => bitAt b i ^^ bitAt c i) (8 * a.length)
  have e : cnt (fun i => (bitAt a i ^^ bitAt b i) ^^ (bitAt b i ^^ bitAt c i)) (8 * a.length) = cnt (fun i => bitAt a i ^^ bitAt c i) (8 * a.length) := cnt_congr fun i _ => by cases bitAt a i <;> cases bitAt b i <;> cases bitAt c i <;> rfl
  rw [e] at this
  exact this
theorem bitAt_zeros (n i : Nat) : bitAt (List.replicate n 0) i = false := by
  unfold bitAt
  simp only [List.getD_eq_getElem?_getD, List.getElem?_replicate]
  split <;> simp
theorem ones_diffs (b : List Int) : apart b (List.replicate b.length 0) = diffs (bitAt b) (8 * b.length) := by
  unfold apart
  exact diffs_congr fun i _ => by rw [bitAt_zeros]; simp
theorem odds_range (n i : Nat) : odds (List.range n) i = decide (i < n) := by
  rw [odds_nodup List.nodup_range]; simp
theorem diffs_get (f : Nat → Bool) (N i : Nat) (h : i < N) (hf : f i = true) : cnt f i < (diffs f N).length ∧ (diffs f N).getD (cnt f i) 0 = i := by
  obtain ⟨d, rfl⟩ : ∃ d, N = i + 1 + d := ⟨N - i - 1, by omega⟩
  have e : ∃ r, diffs f (i + 1 + d) = diffs f i ++ i :: r := by
    induction d with
    | zero => exact ⟨[], by rw [Nat.add_zero, diffs_succ, hf]; rfl⟩
    | succ d ih =>
      obtain ⟨r, hr⟩ := ih (by omega)
      rw [← Nat.add_assoc, diffs_succ, hr]
      exact ⟨r ++ _, by rw [List.append_assoc, List.cons_append]⟩
  obtain ⟨r, hr⟩ := e
  rw [hr]
  unfold cnt
  simp
end Go.Proofs.Ytkhhnihcagnbaaa.Pure

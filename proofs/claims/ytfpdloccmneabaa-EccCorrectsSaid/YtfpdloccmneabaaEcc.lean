/- Lemmas for the laws of layer 6. No condition. -/
import Derived.Test.YtfpdloccmneabaaL6b
import Derived.Test.YtfpdloccmneabaaPx0
import Derived.Test.YtfpdloccmneabaaPx6
import Derived.Test.YtfpdloccmneabaaPx10
import Derived.Test.YtfpdloccmneabaaPx20
set_option linter.unusedVariables false
set_option linter.unusedSimpArgs false
namespace Go.Proofs.Ytfpdloccmneabaa.Pure
open Go Go.RowKit Go.Proofs.Ytfpdloccmneabaa.P Go.Proofs.YtfpdloccmneabaaW.PrintWords Go.Proofs.YtfpdloccmneabaaW.PrintLast Go.Proofs.YtfpdloccmneabaaW.PrintMore Go.Proofs.CsM Go.Proofs.Ytfpdloccmneabaa.L
theorem awake : Evt fun k => casematelaw06_awake.f k = some true := by
  have e : casematelaw06_awake.f 400 = some true := by decide +kernel
  exact ⟨400, fun k hk => at_rounds (g := casematelaw06_awake.f) casematelaw06_awake.mono hk e⟩
theorem small_no {a b s n t : Int} (h : ¬ MayI a b s n t) : casematelaw06_small.f a b s n t = some true := by
  unfold casematelaw06_small.f
  rw [r6_May, Option.bind_some, if_neg (by rw [decide_eq_false h]; decide)]
theorem small_geo {a b s n t : Nat} (g : Geo a b s n t) : casematelaw06_small.f a b s n t = some (decide (s * n ≤ 64)) := by
  unfold casematelaw06_small.f
  rw [r6_May, Option.bind_some, if_pos (decide_eq_true g.may), g.r_room, Option.bind_some]
  congr 1
  exact decide_eq_decide.2 (by omega)
theorem bne_self (x : Int) : (x != x) = false := by simp
theorem raw_len {a b s n t : Nat} (g : Geo a b s n t) {d : List Int} (hd : Byt d) (hl : d.length = s * n) : (pk t n s d ++ [0]).length = s * wh n t + 1 ∧ Byt (pk t n s d ++ [0]) := by
  obtain ⟨h1, h2⟩ := g.pk_length s d hd hl
  refine ⟨by rw [List.length_append, h1]; rfl, h2.append (Byt.cons (by omega) Byt.nil)⟩
theorem getD_set {l : List Int} {i : Nat} (hi : i < l.length) (v : Int) (j : Nat) : (l.set i v).getD j 0 = if j = i then v else l.getD j 0 := by
  rw [List.getD_eq_getElem?_getD, List.getD_eq_getElem?_getD, List.getElem?_set]
  by_cases h : i = j
  · subst h; rw [if_pos rfl, if_pos rfl, if_pos hi]; rfl
  · rw [if_neg h, if_neg (fun e => h e.symm)]
theorem getD_sg {w i j : Nat} {R : List Int} (hj : j < w) : (sg w R i).getD j 0 = R.getD (i * w + j) 0 := by
  unfold sg
  rw [List.getD_eq_getElem?_getD, List.getElem?_take, if_pos hj, List.getElem?_drop, ← List.getD_eq_getElem?_getD]
theorem trn {j : Nat} (hj : j < 8) : Evt fun k => casematelaw06_turned.f k (j : Int) = some ((2 ^ j : Nat) : Int) := by
  have key : ∀ i : Nat, i < 8 → casematelaw06_turned.f 20 (i : Int) = some ((2 ^ i : Nat) : Int) := by decide +kernel
  exact ⟨20, fun k hk => at_rounds (g := fun k => casematelaw06_turned.f k (j : Int)) (fun k => casematelaw06_turned.mono _ k) hk (key j hj)⟩
theorem bitAt_set {l : List Int} {a : Nat} (ha : a < l.length) (v : Int) (j : Nat) : bitAt (l.set a v) j = if j / 8 = a then v.toNat.testBit (j % 8) else bitAt l j := by
  unfold bitAt
  rw [getD_set ha]
  by_cases h : j / 8 = a
  · rw [if_pos h, if_pos h]
  · rw [if_neg h, if_neg h]
theorem bitAt_sg {w i : Nat} {R : List Int} {j : Nat} (hj : j < 8 * w) : bitAt (sg w R i) j = bitAt R (8 * (i * w) + j) := by
  unfold bitAt
  rw [getD_sg (by omega), show (8 * (i * w) + j) / 8 = i * w + j / 8 from by omega, show (8 * (i * w) + j) % 8 = j % 8 from by omega]
end Go.Proofs.Ytfpdloccmneabaa.Pure

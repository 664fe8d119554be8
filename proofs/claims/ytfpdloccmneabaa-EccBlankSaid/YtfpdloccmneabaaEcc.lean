/- Lemmas for the laws of layer 6. No condition. -/
import Derived.Test.YtfpdloccmneabaaL6b
import Derived.Test.YtfpdloccmneabaaPx0
import Derived.Test.YtfpdloccmneabaaPx6
import Derived.Test.YtfpdloccmneabaaPx10
import Derived.Test.YtfpdloccmneabaaPx20
set_option linter.unusedVariables false
set_option linter.unusedSimpArgs false
namespace Go.Proofs.Ytfpdloccmneabaa.Pure
open Go Go.RowKit Go.Proofs.Ytfpdloccmneabaa.P Go.Proofs.YtfpdloccmneabaaW.PrintWords Go.Proofs.YtfpdloccmneabaaW.PrintLast Go.Proofs.YtfpdloccmneabaaW.PrintMore Go.Proofs.CsM Go.Proofs.Ytfpdloccmneabaa.L
theorem awake : Evt fun k => casematelaw06_awake.f k = some true := by
  have e : casematelaw06_awake.f 400 = some true := by decide +kernel
  exact ⟨400, fun k hk => at_rounds (g := casematelaw06_awake.f) casematelaw06_awake.mono hk e⟩
theorem small_no {a b s n t : Int} (h : ¬ MayI a b s n t) : casematelaw06_small.f a b s n t = some true := by
  unfold casematelaw06_small.f
  rw [r6_May, Option.bind_some, if_neg (by rw [decide_eq_false h]; decide)]
theorem small_geo {a b s n t : Nat} (g : Geo a b s n t) : casematelaw06_small.f a b s n t = some (decide (s * n ≤ 64)) := by
  unfold casematelaw06_small.f
  rw [r6_May, Option.bind_some, if_pos (decide_eq_true g.may), g.r_room, Option.bind_some]
  congr 1
  exact decide_eq_decide.2 (by omega)
theorem getD_set {l : List Int} {i : Nat} (hi : i < l.length) (v : Int) (j : Nat) : (l.set i v).getD j 0 = if j = i then v else l.getD j 0 := by
  rw [List.getD_eq_getElem?_getD, List.getD_eq_getElem?_getD, List.getElem?_set]
  by_cases h : i = j
  · subst h; rw [if_pos rfl, if_pos rfl, if_pos hi]; rfl
  · rw [if_neg h, if_neg (fun e => h e.symm)]
theorem few_true {t w : Nat} {R : List Int} : ∀ (m i : Nat), (∀ j, i ≤ j → j < i + m → 8 * w - ones (sg w R j) ≤ t) → few t w R m i = true
  | 0, i, h => rfl
  | m + 1, i, h => by
    rw [few, decide_eq_true (h i (Nat.le_refl _) (by omega)), few_true m (i + 1) (fun j h1 h2 => h j (by omega) (by omega))]; rfl
theorem few_false {t w : Nat} {R : List Int} : ∀ (m i j : Nat), i ≤ j → j < i + m → t < 8 * w - ones (sg w R j) → few t w R m i = false
  | 0, i, j, h1, h2, h => by omega
  | m + 1, i, j, h1, h2, h => by
    by_cases e : j = i
    · subst e; rw [few, decide_eq_false (by omega), Bool.false_and]
    · rw [few, few_false m (i + 1) j (by omega) (by omega) h, Bool.and_false]
theorem full_bit {l : List Int} {j : Nat} (h : l.getD (j / 8) 0 = 255) : bitAt l j = true := by
  unfold bitAt
  rw [h]
  have hj : j % 8 < 8 := Nat.mod_lt _ (by decide)
  have key : ∀ i, i < 8 → (255 : Int).toNat.testBit i = true := by decide
  exact key _ hj
theorem getD_sg {w i j : Nat} {R : List Int} (hj : j < w) : (sg w R i).getD j 0 = R.getD (i * w + j) 0 := by
  unfold sg
  rw [List.getD_eq_getElem?_getD, List.getElem?_take, if_pos hj, List.getElem?_drop, ← List.getD_eq_getElem?_getD]
theorem trn {j : Nat} (hj : j < 8) : Evt fun k => casematelaw06_turned.f k (j : Int) = some ((2 ^ j : Nat) : Int) := by
  have key : ∀ i : Nat, i < 8 → casematelaw06_turned.f 20 (i : Int) = some ((2 ^ i : Nat) : Int) := by decide +kernel
  exact ⟨20, fun k hk => at_rounds (g := fun k => casematelaw06_turned.f k (j : Int)) (fun k => casematelaw06_turned.mono _ k) hk (key j hj)⟩
theorem bitAt_set {l : List Int} {a : Nat} (ha : a < l.length) (v : Int) (j : Nat) : bitAt (l.set a v) j = if j / 8 = a then v.toNat.testBit (j % 8) else bitAt l j := by
  unfold bitAt
  rw [getD_set ha]
  by_cases h : j / 8 = a
  · rw [if_pos h, if_pos h]
  · rw [if_neg h, if_neg h]
theorem bitAt_sg {w i : Nat} {R : List Int} {j : Nat} (hj : j < 8 * w) : bitAt (sg w R i) j = bitAt R (8 * (i * w) + j) := by
  unfold bitAt
  rw [getD_sg (by omega), show (8 * (i * w) + j) / 8 = i * w + j / 8 from by omega, show (8 * (i * w) + j) % 8 = j % 8 from by omega]
end Go.Proofs.Ytfpdloccmneabaa.Pure

/- Lemmas for the laws of layer 6. No condition. -/
import Derived.Test.YtfpdloccmneabaaL6b
import Derived.Test.YtfpdloccmneabaaPx0
import Derived.Test.YtfpdloccmneabaaPx6
import Derived.Test.YtfpdloccmneabaaPx10
import Derived.Test.YtfpdloccmneabaaPx20
set_option linter.unusedVariables false
set_option linter.unusedSimpArgs false
namespace Go.Proofs.Ytfpdloccmneabaa.Pure
open Go Go.RowKit Go.Proofs.Ytfpdloccmneabaa.P Go.Proofs.YtfpdloccmneabaaW.PrintWords Go.Proofs.YtfpdloccmneabaaW.PrintLast Go.Proofs.YtfpdloccmneabaaW.PrintMore Go.Proofs.CsM Go.Proofs.Ytfpdloccmneabaa.L
theorem awake : Evt fun k => casematelaw06_awake.f k = some true := by
  have e : casematelaw06_awake.f 400 = some true := by decide +kernel
  exact ⟨400, fun k hk => at_rounds (g := casematelaw06_awake.f) casematelaw06_awake.mono hk e⟩
theorem small_no {a b s n t : Int} (h : ¬ MayI a b s n t) : casematelaw06_small.f a b s n t = some true := by
  unfold casematelaw06_small.f
  rw [r6_May, Option.bind_some, if_neg (by rw [decide_eq_false h]; decide)]
theorem small_geo {a b s n t : Nat} (g : Geo a b s n t) : casematelaw06_small.f a b s n t = some (decide (s * n ≤ 64)) := by
  unfold casematelaw06_small.f
  rw [r6_May, Option.bind_some, if_pos (decide_eq_true g.may), g.r_room, Option.bind_some]
  congr 1
  exact decide_eq_decide.2 (by omega)
theorem bne_self (x : Int) : (x != x) = false := by simp
theorem raw_len {a b s n t : Nat} (g : Geo a b s n t) {d : List Int} (hd : Byt d) (hl : d.length = s * n) : (pk t n s d ++ [0]).length = s * wh n t + 1 ∧ Byt (pk t n s d ++ [0]) := by
  obtain ⟨h1, h2⟩ := g.pk_length s d hd hl
  refine ⟨by rw [List.length_append, h1]; rfl, h2.append (Byt.cons (by omega) Byt.nil)⟩
theorem getD_set {l : List Int} {i : Nat} (hi : i < l.length) (v : Int) (j : Nat) : (l.set i v).getD j 0 = if j = i then v else l.getD j 0 := by
  rw [List.getD_eq_getElem?_getD, List.getD_eq_getElem?_getD, List.getElem?_set]
  by_cases h : i = j
  · subst h; rw [if_pos rfl, if_pos rfl, if_pos hi]; rfl
  · rw [if_neg h, if_neg (fun e => h e.symm)]
end Go.Proofs.Ytfpdloccmneabaa.Pure

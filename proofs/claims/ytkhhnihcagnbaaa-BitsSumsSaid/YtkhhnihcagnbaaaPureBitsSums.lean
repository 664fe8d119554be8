/- The pure statement of the law BitsSums: what the printed function of the law comes to is true at every input. No condition. -/
import Derived.Test.YtkhhnihcagnbaaaBits
import Derived.Test.YtkhhnihcagnbaaaPx9
set_option linter.unusedVariables false
set_option linter.unusedSimpArgs false
namespace Go.Proofs.Ytkhhnihcagnbaaa.Pure
open Go Go.RowKit Go.Proofs.Ytkhhnihcagnbaaa.P Go.Proofs.YtkhhnihcagnbaaaW.PrintWords Go.Proofs.YtkhhnihcagnbaaaW.PrintLast Go.Proofs.YtkhhnihcagnbaaaW.PrintMore Go.Proofs.CsM Go.Proofs.Ytkhhnihcagnbaaa.L
theorem sums_l0 (a b u v t : List Int) (x : List Int) (hb : Byt b) (ht : t = b) (hx : x.length ≤ 2 ^ 40) (hu : u.length ≤ 2 ^ 40) (hv : v.length ≤ x.length + u.length) : ∀ (d k j : Nat), j + d = x.length → d + 60 < k → casematelaw01_BitsSums.l0 k b x x u v t (j : Int) = some true
  | 0, k, j, hd, hk => by
    obtain ⟨k, rfl⟩ := fuel hk
    rw [casematelaw01_BitsSums.l0]
    rw [if_neg (by omega), awake (by omega), Option.bind_some, if_pos rfl, w64 (by omega) (by omega), if_pos (by omega), ht]; simp
  | d + 1, k, j, hd, hk => by
    obtain ⟨k, rfl⟩ := fuel hk
    rw [casematelaw01_BitsSums.l0]
    rw [if_pos (by omega), if_pos (by omega), if_pos (by omega), if_pos rfl, w64 (by omega) (by omega)]
    exact sums_l0 a b u v t x hb ht hx hu hv d k (j + 1) (by omega) (by omega)
theorem BitsSums : casematelaw01_BitsSums.Pure := by
  intro l0 l1 l2 _ _ hw _ _ hw1 _ _ hw2
  have hb := byt_wf hw
  have hb1 := byt_wf hw1
  have hb2 := byt_wf hw2
  refine ⟨8000, ?_⟩
  unfold casematelaw01_BitsSums.f
  rw [small_f, Option.bind_some]
  have quit : casematelaw01_BitsSums.j0 8000 l0 l1 l2 true = some true := by
    show casematelaw01_BitsSums.j0 (7999 + 1) l0 l1 l2 true = _
    rw [casematelaw01_BitsSums.j0]
    rw [if_pos rfl]
  by_cases hn : l0.length ≤ 200
  · rw [if_pos (by simp [hn])]
    by_cases h1 : l0.length = l1.length
    · rw [if_pos (by omega)]
      by_cases h2 : l0.length = l2.length
      · rw [show ((l0.length : Int) != (l2.length : Int)) = false from by simp [h2]]
        show casematelaw01_BitsSums.j0 (7999 + 1) l0 l1 l2 false = _
        rw [casematelaw01_BitsSums.j0]
        have e1 := apart_le l0 l1
        have e2 := apart_le l1 l2
        rw [if_neg (by simp), b_Apart_ok hb hb1 (by omega) h1 (by omega), Option.bind_some, b_Apart_ok hb1 hb (by omega) h1.symm (by omega), Option.bind_some, b_Apart_ok hb hb (by omega) rfl (by omega), Option.bind_some,
          b_Apart_ok hb1 hb2 (by omega) (by omega) (by omega), Option.bind_some, b_Apart_ok hb hb2 (by omega) (by omega) (by omega), Option.bind_some,
          b_Turn_ok hb (by omega) (by rw [ints_length]; omega) (apart l0 l1) rfl (apart_lt l0 l1) (by rw [ints_length]; omega), Option.bind_some, if_pos rfl, if_pos rfl, if_pos rfl, if_pos rfl, if_pos rfl, if_pos rfl,
          if_pos (by rw [apart_comm h1]), apart_self]
        show casematelaw01_BitsSums.j1 (7998 + 1) _ _ _ _ _ _ _ = _
        rw [casematelaw01_BitsSums.j1]
        rw [if_neg (by simp [ints]), ← apart_comm h1, turn_apart hb hb1 h1]
        have h3 := apart_tri (a := l0) (b := l1) (c := l2) h1
        exact sums_l0 l0 l1 _ _ l1 _ hb1 rfl (by rw [ints_length]; omega) (by rw [ints_length]; omega) (by rw [ints_length, ints_length, ints_length]; exact h3) _ 7998 0 (by rw [Nat.zero_add]) (by rw [ints_length]; omega)
      · rw [show ((l0.length : Int) != (l2.length : Int)) = true from by simp [h2]; omega]
        exact quit
    · rw [if_neg (by omega)]; exact quit
  · rw [if_neg (by simp [hn])]; exact quit
end Go.Proofs.Ytkhhnihcagnbaaa.Pure

/- The pure statement of the law BitsTurns: what the printed function of the law comes to is true at every input. No condition. -/
import Derived.Test.YtkhhnihcagnbaaaBits
import Derived.Test.YtkhhnihcagnbaaaPx5
set_option linter.unusedVariables false
set_option linter.unusedSimpArgs false
namespace Go.Proofs.Ytkhhnihcagnbaaa.Pure
open Go Go.RowKit Go.Proofs.Ytkhhnihcagnbaaa.P Go.Proofs.YtkhhnihcagnbaaaW.PrintWords Go.Proofs.YtkhhnihcagnbaaaW.PrintLast Go.Proofs.YtkhhnihcagnbaaaW.PrintMore Go.Proofs.CsM Go.Proofs.Ytkhhnihcagnbaaa.L
theorem BitsTurns : casematelaw01_BitsTurns.Pure := by
  intro l0 l1 _ _ hw _ _ _
  have hb := byt_wf hw
  refine ⟨20000, ?_⟩
  unfold casematelaw01_BitsTurns.f
  rw [small_f, Option.bind_some]
  by_cases hn : l0.length ≤ 200 ∧ l1.length ≤ 300
  · obtain ⟨hn, hm⟩ := hn
    rw [if_pos (by simp [hn, hm]), Option.bind_some, if_pos (by simp; omega), Option.bind_some, List.nil_append]
    rcases places_or l0.length l1 with ⟨ns, h1, h2⟩ | hq
    · rw [b_Turn_ok hb (by omega) (by omega) ns h1 h2 (by omega), Option.bind_some, if_pos rfl, r1_In_yes (by omega) (by omega) ns h1 h2 (by omega), Option.bind_some, if_pos rfl, awake (by omega), Option.bind_some, if_pos rfl, if_pos rfl,
        r1_Turn hb (by omega) (by omega) ns h1 h2 (by omega), Option.bind_some]
      simp
    · rw [b_Turn_no (by omega) (by omega) hq (by omega), Option.bind_some, if_pos rfl, r1_In_no (by omega) (by omega) hq (by omega), Option.bind_some, if_neg (by simp), awake (by omega), Option.bind_some, if_pos rfl, if_pos rfl]
      simp
  · rw [if_neg (by simpa using hn)]
end Go.Proofs.Ytkhhnihcagnbaaa.Pure

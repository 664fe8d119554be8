/- The pure statement of the law BchEncodes: what the printed function of the law comes to is true at every input. No condition. -/
import Derived.Test.YtbaiildpabdlpaaBch
import Derived.Test.YtbaiildpabdlpaaPx13
import Derived.Test.YtbaiildpabdlpaaPx1
set_option linter.unusedVariables false
set_option linter.unusedSimpArgs false
namespace Go.Proofs.Ytbaiildpabdlpaa.Pure
open Go Go.RowKit Go.Proofs.Ytbaiildpabdlpaa.P Go.Proofs.YtbaiildpabdlpaaW.PrintWords Go.Proofs.YtbaiildpabdlpaaW.PrintLast Go.Proofs.YtbaiildpabdlpaaW.PrintMore Go.Proofs.CsM Go.Proofs.Ytbaiildpabdlpaa.L
theorem BchEncodes : casematelaw05_BchEncodes.Pure := by
  intro t d ht hd1 hd2 hd3
  have hb := byt_wf hd3
  refine Evt.get ?_
  by_cases hs : d.length ≤ 40
  · have hsm : casematelaw05_small.f d [] = some true := by rw [l_small, decide_eq_true ⟨hs, by simp⟩]
    by_cases hbad : t < 1 ∨ t > 8
    · have hj : Evt fun k => casematelaw05_BchEncodes.j0 k t d [] 1 0 1 true = some true := awake.step fun k h => by
        rw [casematelaw05_BchEncodes.j0, if_pos rfl, h, Option.bind_some, if_pos rfl, if_pos rfl, if_pos rfl, if_pos (show (([] : List Int).length : Int) = 0 from rfl)]; rfl
      refine hj.mono fun k h => ?_
      unfold casematelaw05_BchEncodes.f
      rw [hsm, Option.bind_some, if_pos rfl, Option.bind_some, if_pos (by simp; omega), Option.bind_some, List.nil_append, c_Encode_no (by omega) k, Option.bind_some, c_Bits_no hbad, Option.bind_some, if_pos rfl]
      by_cases h1 : t < 1
      · rw [if_pos h1]; exact h
      · rw [if_neg h1, decide_eq_true (by omega)]; exact h
    · obtain ⟨u, rfl, u1, u8⟩ := nat_of hbad
      by_cases hz : d.length = 0
      · have hj : Evt fun k => casematelaw05_BchEncodes.j1 k (u : Int) d [] 1 false = some true := awake.step fun k h => by
          rw [casematelaw05_BchEncodes.j1, if_neg (by simp), if_pos (by omega), h, Option.bind_some, if_pos rfl, if_pos rfl]; rfl
        refine (hj.step (q := fun k => casematelaw05_BchEncodes.j0 k (u : Int) d [] 1 ((13 * u : Nat) : Int) 0 false = some true) fun k h => by
          rw [casematelaw05_BchEncodes.j0, if_neg (by simp), w13 u8, if_pos rfl]; exact h).mono fun k h => ?_
        unfold casematelaw05_BchEncodes.f
        rw [hsm, Option.bind_some, if_pos rfl, Option.bind_some, if_pos (by simp; omega), Option.bind_some, List.nil_append, c_Encode_no (by omega) k, Option.bind_some, c_Bits u1 u8, Option.bind_some, if_pos rfl, if_neg (by omega), decide_eq_false (by omega)]
        exact h
      · obtain ⟨m, m1, m2⟩ := c_Encode u1 u8 hb (by omega) (by omega)
        have hj : Evt fun k => casematelaw05_BchEncodes.j1 k (u : Int) d m 0 false = some true := (awake.and (r5_Encode u1 u8 hb (by omega) (by omega) m2)).step fun k ⟨h, h2⟩ => by
          rw [casematelaw05_BchEncodes.j1, if_neg (by simp), if_neg (by omega), h, Option.bind_some, if_pos rfl, if_pos rfl, h2, Option.bind_some, str_beq m2.byt m2.byt, decide_eq_true rfl]
        refine (m1.and (hj.step (q := fun k => casematelaw05_BchEncodes.j0 k (u : Int) d m 0 ((13 * u : Nat) : Int) 0 false = some true) fun k h => by
          rw [casematelaw05_BchEncodes.j0, if_neg (by simp), w13 u8, if_pos rfl]; exact h)).mono fun k ⟨g, h⟩ => ?_
        unfold casematelaw05_BchEncodes.f
        rw [hsm, Option.bind_some, if_pos rfl, Option.bind_some, if_pos (by simp; omega), Option.bind_some, List.nil_append, g, Option.bind_some, c_Bits u1 u8, Option.bind_some, if_pos rfl, if_neg (by omega), decide_eq_false (by omega)]
        exact h
  · refine Evt.all fun k => ?_
    unfold casematelaw05_BchEncodes.f
    rw [l_small, Option.bind_some, if_neg (by simp; omega)]
end Go.Proofs.Ytbaiildpabdlpaa.Pure

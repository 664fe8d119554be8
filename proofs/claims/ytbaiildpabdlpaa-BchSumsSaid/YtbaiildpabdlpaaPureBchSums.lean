/- The pure statement of the law BchSums: what the printed function of the law comes to is true at every input. No condition. -/
import Derived.Test.YtbaiildpabdlpaaBch
import Derived.Test.YtbaiildpabdlpaaPx18
import Derived.Test.YtbaiildpabdlpaaPx1
import Derived.Test.YtbaiildpabdlpaaPx14
set_option linter.unusedVariables false
set_option linter.unusedSimpArgs false
namespace Go.Proofs.Ytbaiildpabdlpaa.Pure
open Go Go.RowKit Go.Proofs.Ytbaiildpabdlpaa.P Go.Proofs.YtbaiildpabdlpaaW.PrintWords Go.Proofs.YtbaiildpabdlpaaW.PrintLast Go.Proofs.YtbaiildpabdlpaaW.PrintMore Go.Proofs.CsM Go.Proofs.Ytbaiildpabdlpaa.L
theorem BchSums : casematelaw05_BchSums.Pure := by
  intro t d m ht hd1 hd2 hd3 hm1 hm2 hm3
  have hb := byt_wf hd3
  have hbm := byt_wf hm3
  refine Evt.get ?_
  by_cases hs : d.length ≤ 40 ∧ m.length ≤ 40
  · have hsm : casematelaw05_small.f d m = some true := by rw [l_small, decide_eq_true hs]
    by_cases hbad : t < 1 ∨ t > 8 ∨ d.length < 1 ∨ d.length > 512 ∨ m.length ≠ mb t.toNat
    · have hmay : casemateref05_May.f t d (m.length : Int) = some false := by
        by_cases h2 : t < 1 ∨ t > 8 ∨ d.length < 1 ∨ d.length > 512
        · exact r5_May_no h2 _
        · obtain ⟨u, rfl, u1, u8⟩ := nat_of (t := t) (by omega)
          rw [Int.toNat_natCast] at hbad
          rw [r5_May u1 u8 (by omega) (by omega), decide_eq_false (by omega)]
      refine awake.mono fun k h => ?_
      unfold casematelaw05_BchSums.f
      rw [hsm, Option.bind_some, if_pos rfl, c_Sums_no hbad k, Option.bind_some, hmay, Option.bind_some, if_neg (by simp), h, Option.bind_some, if_pos rfl, if_pos rfl]; rfl
    · obtain ⟨u, rfl, u1, u8⟩ := nat_of (t := t) (by omega)
      rw [Int.toNat_natCast] at hbad
      have hW : Wok u d m := ⟨u1, u8, hb, hbm, by omega, by omega, by omega⟩
      refine ((c_Sums hW).and (awake.and ((r5_Sums hW).and (Evt.of 16 fun k hk => hk)))).mono fun k ⟨g1, g2, g3, g4⟩ => ?_
      unfold casematelaw05_BchSums.f
      rw [hsm, Option.bind_some, if_pos rfl, g1, Option.bind_some, r5_May u1 u8 hW.d1 hW.d512, Option.bind_some, decide_eq_true hW.ml, if_pos rfl, g2, Option.bind_some, if_pos rfl, if_pos rfl, g3, Option.bind_some, r1_Ints _ _ (by rw [sml_length]; omega) (by rw [sml_length]; omega), Option.bind_some, decide_eq_true rfl]
  · refine Evt.all fun k => ?_
    unfold casematelaw05_BchSums.f
    rw [l_small, Option.bind_some, if_neg (by simpa using hs)]
end Go.Proofs.Ytbaiildpabdlpaa.Pure

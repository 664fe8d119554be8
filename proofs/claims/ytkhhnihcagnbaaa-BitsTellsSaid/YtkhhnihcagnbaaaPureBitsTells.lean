/- The pure statement of the law BitsTells: what the printed function of the law comes to is true at every input. No condition. -/
import Derived.Test.YtkhhnihcagnbaaaBits
import Derived.Test.YtkhhnihcagnbaaaPx3
set_option linter.unusedVariables false
set_option linter.unusedSimpArgs false
namespace Go.Proofs.Ytkhhnihcagnbaaa.Pure
open Go Go.RowKit Go.Proofs.Ytkhhnihcagnbaaa.P Go.Proofs.YtkhhnihcagnbaaaW.PrintWords Go.Proofs.YtkhhnihcagnbaaaW.PrintLast Go.Proofs.YtkhhnihcagnbaaaW.PrintMore Go.Proofs.CsM Go.Proofs.Ytkhhnihcagnbaaa.L
theorem tells_l0 {l : List Int} (hb : Byt l) (hn : l.length ≤ 200) (a : Int) : ∀ (d k i : Nat), i + d = 8 * l.length → d + 2100 < k → casematelaw01_BitsTells.l0 k l a ((cnt (bitAt l) i : Nat) : Int) (bl l) (i : Int) = some true
  | 0, k, i, hd, hk => by
    obtain ⟨k, rfl⟩ := fuel hk
    have hi : i = 8 * l.length := by omega
    have hlen := bl_length l
    rw [casematelaw01_BitsTells.l0]
    rw [if_neg (by omega), b_At hb (by omega), Option.bind_some, b_Ones hb (by omega) (by omega), Option.bind_some, hi, show cnt (bitAt l) (8 * l.length) = ones l from rfl, if_pos rfl]
    obtain ⟨k, rfl⟩ := fuel (show 0 < k by omega)
    by_cases h0 : a < 0
    · rw [if_pos h0, casematelaw01_BitsTells.j1, if_pos rfl, awake (by omega), Option.bind_some, if_pos rfl, if_neg (show ¬ (0 ≤ a ∧ a < 8 * (l.length : Int)) by omega)]; simp
    · rw [if_neg h0, casematelaw01_BitsTells.j1, awake (by omega), Option.bind_some, if_pos rfl, Option.bind_some, if_pos rfl]
      by_cases h1 : a ≥ (bl l).length
      · rw [if_pos (decide_eq_true h1), if_neg (show ¬ (0 ≤ a ∧ a < 8 * (l.length : Int)) by omega)]; simp
      · have hg := bl_get l a.toNat (by omega)
        rw [if_neg (by simp only [decide_eq_true_eq]; exact h1), if_pos (show 0 ≤ a ∧ a < 8 * (l.length : Int) by omega), if_pos (by omega), if_pos (by omega), rd_of (by omega), hg, if_pos rfl]; simp
  | d + 1, k, i, hd, hk => by
    obtain ⟨k, rfl⟩ := fuel hk
    have hlen := bl_length l
    have hc := cnt_le (bitAt l) i
    have hg := bl_get l i (by omega)
    rw [casematelaw01_BitsTells.l0]
    rw [if_pos (by omega), if_pos (by omega), rd_nat, hg]
    have e : ((cnt (bitAt l) i : Nat) : Int) + b2i (bitAt l i) = ((cnt (bitAt l) (i + 1) : Nat) : Int) := by rw [cnt_succ]; cases bitAt l i <;> simp [b2i]
    have h01 := b2i_01 (bitAt l i)
    rw [w64 (show -9223372036854775808 ≤ ((cnt (bitAt l) i : Nat) : Int) + b2i (bitAt l i) by omega) (by omega), w64 (by omega) (by omega), e]
    exact tells_l0 hb hn a d k (i + 1) (by omega) (by omega)
theorem BitsTells : casematelaw01_BitsTells.Pure := by
  intro l0 a1 _ _ hw _
  have hb := byt_wf hw
  refine ⟨6000, ?_⟩
  unfold casematelaw01_BitsTells.f
  rw [small_f, Option.bind_some]
  by_cases hn : l0.length ≤ 200
  · rw [if_pos (by simp [hn]), r1_All hb (by omega) (by omega), Option.bind_some]
    exact tells_l0 hb hn a1 (8 * l0.length) 6000 0 (by omega) (by omega)
  · rw [if_neg (by simp [hn])]
end Go.Proofs.Ytkhhnihcagnbaaa.Pure

/- The pure statement of the law BitsOnes: what the printed function of the law comes to is true at every input. No condition. -/
import Derived.Test.YtkhhnihcagnbaaaBits
import Derived.Test.YtkhhnihcagnbaaaPx10
set_option linter.unusedVariables false
set_option linter.unusedSimpArgs false
namespace Go.Proofs.Ytkhhnihcagnbaaa.Pure
open Go Go.RowKit Go.Proofs.Ytkhhnihcagnbaaa.P Go.Proofs.YtkhhnihcagnbaaaW.PrintWords Go.Proofs.YtkhhnihcagnbaaaW.PrintLast Go.Proofs.YtkhhnihcagnbaaaW.PrintMore Go.Proofs.CsM Go.Proofs.Ytkhhnihcagnbaaa.L
theorem ones_l1 {b : List Int} (hb : Byt b) (hn : b.length ≤ 200) : ∀ (d k j : Nat), j + d = ones b → d + 2100 < k →
    casematelaw01_BitsOnes.l1 k b (ints (diffs (bitAt b) (8 * b.length))) 0 (turnb b (List.range (8 * b.length))) 0 (j : Int) = some true
  | 0, k, j, hd, hk => by
    obtain ⟨k, rfl⟩ := fuel hk
    have hl : (diffs (bitAt b) (8 * b.length)).length = ones b := rfl
    have ho := ones_le b
    have ht : ones (turnb b (List.range (8 * b.length))) + ones b = 8 * b.length := by
      unfold ones
      rw [turnb_length]
      have e : cnt (bitAt (turnb b (List.range (8 * b.length)))) (8 * b.length) = cnt (fun i => !bitAt b i) (8 * b.length) := cnt_congr fun i hi => by
        rw [bitAt_turnb (fun p hp => List.mem_range.1 hp), odds_range]; simp [hi]
      rw [e]
      exact cnt_not (bitAt b) (8 * b.length)
    rw [casematelaw01_BitsOnes.l1]
    rw [if_neg (by rw [ints_length, hl]; omega), awake (by omega), Option.bind_some, if_pos rfl, if_pos rfl, if_pos rfl, b_Ones hb (by omega) (by omega), Option.bind_some, if_pos (by rw [ints_length, hl]),
      b_Ones (turnb_byt hb _) (by rw [turnb_length]; omega) (by rw [turnb_length]; omega), Option.bind_some, ints_length, hl, w64 (show -9223372036854775808 ≤ 8 * (b.length : Int) by omega) (by omega), w64 (by omega) (by omega)]
    congr 1
    rw [beq_iff_eq]; omega
  | d + 1, k, j, hd, hk => by
    obtain ⟨k, rfl⟩ := fuel hk
    have hl : (diffs (bitAt b) (8 * b.length)).length = ones b := rfl
    have ho := ones_le b
    have hj : j < (diffs (bitAt b) (8 * b.length)).length := by omega
    have hm := mem_diffs.1 (List.getElem_mem hj)
    have e : rd (ints (diffs (bitAt b) (8 * b.length))) (j : Int) = (((diffs (bitAt b) (8 * b.length))[j] : Nat) : Int) := by rw [rd_nat, ints_get _ _ hj]
    rw [casematelaw01_BitsOnes.l1]
    rw [if_pos (by rw [ints_length]; omega), if_pos (by omega), e, b_At hb (by omega), Option.bind_some, b_At (turnb_byt hb _) (by rw [turnb_length]; omega), Option.bind_some, turnb_length, if_pos (show (0 : Int) ≤ _ ∧ _ by omega), Int.toNat_natCast,
      if_pos (show (0 : Int) ≤ _ ∧ _ by omega), bitAt_turnb (fun p hp => List.mem_range.1 hp), odds_range, hm.2]
    simp only [hm.1, decide_true, Bool.xor_self, b2i, if_true, if_false, Bool.false_eq_true]
    rw [w64 (by omega) (by omega)]
    exact ones_l1 hb hn d k (j + 1) (by omega) (by omega)
theorem ones_l0 {b : List Int} (hb : Byt b) (hn : b.length ≤ 200) : ∀ (d k i : Nat), i + d = 8 * b.length → d + 4000 < k →
    casematelaw01_BitsOnes.l0 k b (ints (diffs (bitAt b) (8 * b.length))) 0 (ints (List.range i)) (i : Int) = some true
  | 0, k, i, hd, hk => by
    obtain ⟨k, rfl⟩ := fuel hk
    have hi : i = 8 * b.length := by omega
    have ho := ones_le b
    subst hi
    rw [casematelaw01_BitsOnes.l0]
    rw [w64 (by omega) (by omega), if_neg (by omega), ints_length, List.length_range]
    by_cases h : ((8 * b.length : Nat) : Int) > 300
    · rw [if_pos h]
    · rw [if_neg h, b_Turn_ok hb (by omega) (by rw [ints_length, List.length_range]; omega) (List.range (8 * b.length)) rfl (fun p hp => List.mem_range.1 hp) (by rw [ints_length, List.length_range]; omega), Option.bind_some]
      exact ones_l1 hb hn (ones b) k 0 (by omega) (by omega)
  | d + 1, k, i, hd, hk => by
    obtain ⟨k, rfl⟩ := fuel hk
    rw [casematelaw01_BitsOnes.l0]
    rw [w64 (by omega) (by omega), if_pos (by omega), if_pos (by rw [ints_length, List.length_range]; omega), w64 (by omega) (by omega)]
    have e : ints (List.range i) ++ [(i : Int)] = ints (List.range (i + 1)) := by rw [List.range_succ]; simp [ints]
    rw [e]
    exact ones_l0 hb hn d k (i + 1) (by omega) (by omega)
theorem BitsOnes : casematelaw01_BitsOnes.Pure := by
  intro l0 _ _ hw
  have hb := byt_wf hw
  refine ⟨9000, ?_⟩
  unfold casematelaw01_BitsOnes.f
  rw [small_f, Option.bind_some]
  by_cases hn : l0.length ≤ 200
  · rw [if_pos (by simp [hn]), if_pos (by omega), if_pos (by rw [Int.toNat_natCast]; omega), Int.toNat_natCast, b_Apart_ok hb (Byt.zeros _) (by omega) (by simp) (by omega), Option.bind_some, ones_diffs]
    exact ones_l0 hb hn (8 * l0.length) 9000 0 (by omega) (by omega)
  · rw [if_neg (by simp [hn])]
end Go.Proofs.Ytkhhnihcagnbaaa.Pure

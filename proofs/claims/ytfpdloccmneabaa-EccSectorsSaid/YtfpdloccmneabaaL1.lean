/- What the functions of layer 1 (bits) and of its reference come to, in plain Lean: bits, rows of bits, what is turned, what is apart. Conditions: the rows are bytes, as long as the statements let in. -/
import Derived.Test.YtfpdloccmneabaaPx0
import Derived.Test.YtfpdloccmneabaaPx6
import Derived.Test.YtfpdloccmneabaaPx20
import Derived.Test.YtfpdloccmneabaaMNum
set_option linter.unusedVariables false
set_option linter.unusedSimpArgs false
namespace Go.Proofs.Ytfpdloccmneabaa.L
open Go Go.RowKit Go.Proofs.Ytfpdloccmneabaa.P Go.Proofs.YtfpdloccmneabaaW.PrintWords Go.Proofs.YtfpdloccmneabaaW.PrintLast Go.Proofs.YtfpdloccmneabaaW.PrintMore Go.Proofs.CsM
def b2i (b : Bool) : Int := if b then 1 else 0
def ints (ns : List Nat) : List Int := ns.map fun (n : Nat) => (n : Int)
theorem fuel {k n : Nat} (h : n < k) : ∃ m, k = m + 1 := ⟨k - 1, by omega⟩
/-- The bits of a row, as numbers. -/
def bl (l : List Int) : List Int := (List.range (8 * l.length)).map fun i => b2i (bitAt l i)
/-- Where two rows are unlike. -/
def apart (a b : List Int) : List Nat := diffs (fun i => bitAt a i ^^ bitAt b i) (8 * a.length)
/-- The ones of a number below 256. -/
def ones8 (n : Nat) : Nat := cnt (fun j => n.testBit j) 8
def ones (l : List Int) : Nat := cnt (bitAt l) (8 * l.length)
theorem ones8_step : allb (fun n => n == 0 || ones8 n == ones8 (n &&& ((n + 255) % 256)) + 1) 8 0 = true := by decide +kernel
theorem ones8_zero : ones8 0 = 0 := by decide +kernel
theorem ones_le (l : List Int) : ones l ≤ 8 * l.length := cnt_le _ _
theorem ones_take (l : List Int) (i : Nat) : cnt (bitAt l) (8 * i + 8) = cnt (bitAt l) (8 * i) + ones8 (l.getD i 0).toNat := by
  rw [cnt_add]
  congr 1
  exact cnt_congr fun j hj => by
    unfold bitAt
    rw [show (8 * i + j) / 8 = i from by omega, show (8 * i + j) % 8 = j from by omega]
theorem b_Ones_l1 (l : List Int) (i : Int) : ∀ (m : Nat) (n c : Nat) (k : Nat) (r : Option Int), n < 256 → ones8 n = m → c + m ≤ 2 ^ 60 → m < k → (∀ k', k = k' + m + 1 → bits_Ones.l0 k' ((c + m : Nat) : Int) l (l.length : Int) (wrap64 (i + 1)) = r) → bits_Ones.l1 k (c : Int) (n : Int) l (l.length : Int) i = r
  | m, n, c, k, r, hn, hm, hc, hk, hr => by
    obtain ⟨k, rfl⟩ := fuel hk
    have hstep := allb_sound 8 0 ones8_step n (Nat.zero_le _) (by simpa using hn)
    simp only [Bool.or_eq_true, beq_iff_eq] at hstep
    simp only [bits_Ones.l1]
    by_cases h0 : n = 0
    · subst h0
      rw [ones8_zero] at hm
      subst hm
      rw [if_pos (by simp)]
      exact hr k (by omega)
    · rcases hstep with hstep | hstep
      · exact absurd hstep h0
      · rw [if_neg (by omega), w64 (by omega) (by omega)]
        have e : (((n : Int) - 1) % 256) = (((n + 255) % 256 : Nat) : Int) := by omega
        have hlt : n &&& ((n + 255) % 256) ≤ n := Nat.and_le_left
        rw [e, u8_and _ _ (by omega) (by omega) (by omega) (by omega), Int.toNat_natCast, Int.toNat_natCast, show ((c : Int) + 1) = ((c + 1 : Nat) : Int) from by omega]
        cases m with
        | zero => omega
        | succ m => exact b_Ones_l1 l i m _ (c + 1) k r (by omega) (by omega) (by omega) (by omega) (fun k' hk' => by rw [show c + 1 + m = c + (m + 1) from by omega]; exact hr k' (by omega))
  termination_by m => m
theorem b_Ones_l0 {l : List Int} (hl : Byt l) (hn : l.length ≤ 2 ^ 40) : ∀ (d k i : Nat), i + d = l.length → 10 * d < k → bits_Ones.l0 k ((cnt (bitAt l) (8 * i) : Nat) : Int) l (l.length : Int) (i : Int) = some ((ones l : Nat) : Int)
  | 0, k, i, hd, hk => by
    obtain ⟨k, rfl⟩ := fuel hk
    simp only [bits_Ones.l0]
    have : i = l.length := by omega
    rw [if_neg (by omega), this]; rfl
  | d + 1, k, i, hd, hk => by
    obtain ⟨k, rfl⟩ := fuel hk
    simp only [bits_Ones.l0]
    have hb := hl.get i
    have h8 : ones8 (l.getD i 0).toNat ≤ 8 := cnt_le _ _
    have hc : cnt (bitAt l) (8 * i) ≤ 8 * i := cnt_le _ _
    rw [if_pos (by omega), if_pos (by omega), if_pos (by omega), rd_nat, show l.getD i 0 = ((l.getD i 0).toNat : Int) from by omega]
    refine b_Ones_l1 l i _ _ _ k _ (by omega) rfl (by omega) (by omega) (fun k' hk' => ?_)
    rw [w64 (by omega) (by omega), ← ones_take, show 8 * i + 8 = 8 * (i + 1) from by omega]
    exact b_Ones_l0 hl hn d k' (i + 1) (by omega) (by omega)
theorem b_Ones {l : List Int} (hl : Byt l) (hn : l.length ≤ 2 ^ 40) {k : Nat} (hk : 10 * l.length < k) : bits_Ones.f k l = some ((ones l : Nat) : Int) := by
  unfold bits_Ones.f
  exact b_Ones_l0 hl hn l.length k 0 (by omega) hk
end Go.Proofs.Ytfpdloccmneabaa.L

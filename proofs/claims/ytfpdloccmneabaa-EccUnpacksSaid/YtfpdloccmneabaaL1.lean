/- What the functions of layer 1 (bits) and of its reference come to, in plain Lean: bits, rows of bits, what is turned, what is apart. Conditions: the rows are bytes, as long as the statements let in. -/
import Derived.Test.YtfpdloccmneabaaPx0
import Derived.Test.YtfpdloccmneabaaPx6
import Derived.Test.YtfpdloccmneabaaPx18
import Derived.Test.YtfpdloccmneabaaMNum
set_option linter.unusedVariables false
set_option linter.unusedSimpArgs false
namespace Go.Proofs.Ytfpdloccmneabaa.L
open Go Go.RowKit Go.Proofs.Ytfpdloccmneabaa.P Go.Proofs.YtfpdloccmneabaaW.PrintWords Go.Proofs.YtfpdloccmneabaaW.PrintLast Go.Proofs.YtfpdloccmneabaaW.PrintMore Go.Proofs.CsM
def b2i (b : Bool) : Int := if b then 1 else 0
theorem b2i_inj {a b : Bool} : b2i a = b2i b ↔ a = b := by cases a <;> cases b <;> simp [b2i]
theorem testBit_i (x : Int) (j : Nat) (hx : 0 ≤ x) : x / 2 ^ j % 2 = b2i (x.toNat.testBit j) := by
  obtain ⟨a, rfl⟩ := Int.eq_ofNat_of_zero_le hx
  rw [Int.toNat_natCast, Nat.testBit_eq_decide_div_mod_eq]
  have e : (a : Int) / 2 ^ j % 2 = ((a / 2 ^ j % 2 : Nat) : Int) := by simp
  rw [e]
  rcases Nat.mod_two_eq_zero_or_one (a / 2 ^ j) with h | h <;> simp [h, b2i]
def ints (ns : List Nat) : List Int := ns.map fun (n : Nat) => (n : Int)
theorem fuel {k n : Nat} (h : n < k) : ∃ m, k = m + 1 := ⟨k - 1, by omega⟩
theorem r1_At_l0 (x1 : Int) (h : 0 ≤ x1) : ∀ (d k : Nat) (x5 x6 : Int), 0 ≤ x5 → x5 < 256 → 0 ≤ x6 → x6 + d = x1 % 8 → d < k → casemateref01_At.l0 k x1 x5 x6 = some (x5 / 2 ^ d % 2)
  | 0, k, x5, x6, h5, h5', h6, hd, hk => by
    obtain ⟨k, rfl⟩ := fuel hk
    simp only [casemateref01_At.l0]
    rw [tmd 8 h, if_neg (by omega), tmd 2 h5]
    simp
  | d + 1, k, x5, x6, h5, h5', h6, hd, hk => by
    obtain ⟨k, rfl⟩ := fuel hk
    simp only [casemateref01_At.l0]
    rw [tmd 8 h, if_pos (by omega), tdv 2 h5, w64 (by omega) (by omega), w64 (by omega) (by omega), r1_At_l0 x1 h d k _ _ (by omega) (by omega) (by omega) (by omega) (by omega)]
    congr 1
    rw [Int.ediv_ediv_of_nonneg (by omega), Int.pow_succ, Int.mul_comm]
theorem r1_At {l : List Int} (hl : Byt l) (hn : l.length ≤ 2 ^ 50) {i : Nat} (hi : i < 8 * l.length) {k : Nat} (hk : 8 < k) : casemateref01_At.f k l (i : Int) = some (b2i (bitAt l i)) := by
  have hb := hl.get (i / 8)
  unfold casemateref01_At.f
  rw [tdv 8 (by omega), w64 (by omega) (by omega), if_pos (by omega), if_pos (by omega)]
  have e : rd l ((i : Int) / 8) = l.getD (i / 8) 0 := by rw [rd_of (by omega), show ((i : Int) / 8).toNat = i / 8 from by omega]
  rw [e, w64 (by omega) (by omega), r1_At_l0 (i : Int) (by omega) (i % 8) k _ 0 hb.1 hb.2 (by omega) (by omega) (by omega), testBit_i _ _ hb.1]
  rfl
/-- The bits of a row, as numbers. -/
def bl (l : List Int) : List Int := (List.range (8 * l.length)).map fun i => b2i (bitAt l i)
theorem bl_length (l : List Int) : (bl l).length = 8 * l.length := by simp [bl]
theorem bl_get (l : List Int) (i : Nat) (h : i < 8 * l.length) : (bl l).getD i 0 = b2i (bitAt l i) := by simp [bl, h]
theorem list_snoc_map (f : Nat → Int) (n : Nat) : (List.range (n + 1)).map f = (List.range n).map f ++ [f n] := by rw [List.range_succ, List.map_append]; rfl
theorem r1_All_l0 {l : List Int} (hl : Byt l) (hn : l.length ≤ 2 ^ 40) : ∀ (d k i : Nat), i + d = 8 * l.length → d + 9 < k →
    casemateref01_All.l0 k l ((List.range i).map fun i => b2i (bitAt l i)) (i : Int) = some (bl l)
  | 0, k, i, hd, hk => by
    obtain ⟨k, rfl⟩ := fuel hk
    simp only [casemateref01_All.l0]
    rw [w64 (by omega) (by omega), if_neg (by omega)]
    have : i = 8 * l.length := by omega
    rw [this]; rfl
  | d + 1, k, i, hd, hk => by
    obtain ⟨k, rfl⟩ := fuel hk
    simp only [casemateref01_All.l0]
    rw [w64 (by omega) (by omega), if_pos (by omega), r1_At hl (by omega) (show i < 8 * l.length by omega) (by omega), Option.bind_some, if_pos (by simp; omega), ← list_snoc_map (fun i => b2i (bitAt l i)), w64 (by omega) (by omega)]
    exact r1_All_l0 hl hn d k (i + 1) (by omega) (by omega)
theorem r1_All {l : List Int} (hl : Byt l) (hn : l.length ≤ 2 ^ 40) {k : Nat} (hk : 8 * l.length + 9 < k) : casemateref01_All.f k l = some (bl l) :=
  r1_All_l0 hl hn (8 * l.length) k 0 (by omega) hk
/-- Where two rows are unlike. -/
def apart (a b : List Int) : List Nat := diffs (fun i => bitAt a i ^^ bitAt b i) (8 * a.length)
/-- The ones of a number below 256. -/
def ones8 (n : Nat) : Nat := cnt (fun j => n.testBit j) 8
def ones (l : List Int) : Nat := cnt (bitAt l) (8 * l.length)
theorem ones8_step : allb (fun n => n == 0 || ones8 n == ones8 (n &&& ((n + 255) % 256)) + 1) 8 0 = true := by decide +kernel
theorem ones8_zero : ones8 0 = 0 := by decide +kernel
theorem ones_le (l : List Int) : ones l ≤ 8 * l.length := cnt_le _ _
theorem ones_take (l : List Int) (i : Nat) : cnt (bitAt l) (8 * i + 8) = cnt (bitAt l) (8 * i) + ones8 (l.getD i 0).toNat := by
  rw [cnt_add]
  congr 1
  exact cnt_congr fun j hj => by
    unfold bitAt
    rw [show (8 * i + j) / 8 = i from by omega, show (8 * i + j) % 8 = j from by omega]
theorem b_Ones_l1 (l : List Int) (i : Int) : ∀ (m : Nat) (n c : Nat) (k : Nat) (r : Option Int), n < 256 → ones8 n = m → c + m ≤ 2 ^ 60 → m < k → (∀ k', k = k' + m + 1 → bits_Ones.l0 k' ((c + m : Nat) : Int) l (l.length : Int) (wrap64 (i + 1)) = r) → bits_Ones.l1 k (c : Int) (n : Int) l (l.length : Int) i = r
  | m, n, c, k, r, hn, hm, hc, hk, hr => by
    obtain ⟨k, rfl⟩ := fuel hk
    have hstep := allb_sound 8 0 ones8_step n (Nat.zero_le _) (by simpa using hn)
    simp only [Bool.or_eq_true, beq_iff_eq] at hstep
    simp only [bits_Ones.l1]
    by_cases h0 : n = 0
    · subst h0
      rw [ones8_zero] at hm
      subst hm
      rw [if_pos (by simp)]
      exact hr k (by omega)
    · rcases hstep with hstep | hstep
      · exact absurd hstep h0
      · rw [if_neg (by omega), w64 (by omega) (by omega)]
        have e : (((n : Int) - 1) % 256) = (((n + 255) % 256 : Nat) : Int) := by omega
        have hlt : n &&& ((n + 255) % 256) ≤ n := Nat.and_le_left
        rw [e, u8_and _ _ (by omega) (by omega) (by omega) (by omega), Int.toNat_natCast, Int.toNat_natCast, show ((c : Int) + 1) = ((c + 1 : Nat) : Int) from by omega]
        cases m with
        | zero => omega
        | succ m => exact b_Ones_l1 l i m _ (c + 1) k r (by omega) (by omega) (by omega) (by omega) (fun k' hk' => by rw [show c + 1 + m = c + (m + 1) from by omega]; exact hr k' (by omega))
  termination_by m => m
theorem b_Ones_l0 {l : List Int} (hl : Byt l) (hn : l.length ≤ 2 ^ 40) : ∀ (d k i : Nat), i + d = l.length → 10 * d < k → bits_Ones.l0 k ((cnt (bitAt l) (8 * i) : Nat) : Int) l (l.length : Int) (i : Int) = some ((ones l : Nat) : Int)
  | 0, k, i, hd, hk => by
    obtain ⟨k, rfl⟩ := fuel hk
    simp only [bits_Ones.l0]
    have : i = l.length := by omega
    rw [if_neg (by omega), this]; rfl
  | d + 1, k, i, hd, hk => by
    obtain ⟨k, rfl⟩ := fuel hk
    simp only [bits_Ones.l0]
    have hb := hl.get i
    have h8 : ones8 (l.getD i 0).toNat ≤ 8 := cnt_le _ _
    have hc : cnt (bitAt l) (8 * i) ≤ 8 * i := cnt_le _ _
    rw [if_pos (by omega), if_pos (by omega), if_pos (by omega), rd_nat, show l.getD i 0 = ((l.getD i 0).toNat : Int) from by omega]
    refine b_Ones_l1 l i _ _ _ k _ (by omega) rfl (by omega) (by omega) (fun k' hk' => ?_)
    rw [w64 (by omega) (by omega), ← ones_take, show 8 * i + 8 = 8 * (i + 1) from by omega]
    exact b_Ones_l0 hl hn d k' (i + 1) (by omega) (by omega)
theorem b_Ones {l : List Int} (hl : Byt l) (hn : l.length ≤ 2 ^ 40) {k : Nat} (hk : 10 * l.length < k) : bits_Ones.f k l = some ((ones l : Nat) : Int) := by
  unfold bits_Ones.f
  exact b_Ones_l0 hl hn l.length k 0 (by omega) hk
theorem r1_Put_l1 (l : List Int) (i : Nat) (hi : i < 2 ^ 50) (x3 : List Int) (hl : l.length < 2 ^ 50) (h3 : i / 8 < x3.length) (hin : i < l.length) : ∀ (d k : Nat) (j : Nat), j + d = i % 8 → d < k →
    ∃ k', k = k' + d + 1 ∧ casemateref01_Put.l1 k l x3 (i : Int) ((2 ^ j : Nat) : Int) (j : Int) = casemateref01_Put.l0 k' l (x3.set (i / 8) ((x3.getD (i / 8) 0 + (wrap64 (((2 ^ (i % 8) : Nat) : Int) * l.getD i 0)) % 256) % 256)) ((i + 1 : Nat) : Int)
  | 0, k, j, hd, hk => by
    obtain ⟨k, rfl⟩ := fuel hk
    refine ⟨k, rfl, ?_⟩
    simp only [casemateref01_Put.l1]
    have hj : j = i % 8 := by omega
    rw [tmd 8 (by omega), if_neg (by omega), tdv 8 (by omega), w64 (show -9223372036854775808 ≤ (i : Int) / 8 by omega) (by omega), if_pos (by omega), if_pos (by omega), if_pos (by omega), if_pos (by omega), w64 (show -9223372036854775808 ≤ (i : Int) + 1 by omega) (by omega)]
    have e1 : ((i : Int) / 8).toNat = i / 8 := by omega
    have e2 : rd x3 ((i : Int) / 8) = x3.getD (i / 8) 0 := by rw [rd_of (by omega), e1]
    rw [e1, e2, rd_nat, hj]; rfl
  | d + 1, k, j, hd, hk => by
    obtain ⟨k, rfl⟩ := fuel hk
    obtain ⟨k', hk', e⟩ := r1_Put_l1 l i hi x3 hl h3 hin d k (j + 1) (by omega) (by omega)
    refine ⟨k', by omega, ?_⟩
    simp only [casemateref01_Put.l1]
    have hp := pow8 (show j < 8 by omega)
    rw [Nat.pow_succ] at e
    generalize 2 ^ j = q at e hp ⊢
    rw [tmd 8 (by omega), if_pos (by omega), w64 (show -9223372036854775808 ≤ 2 * (q : Int) by omega) (by omega), w64 (show -9223372036854775808 ≤ (j : Int) + 1 by omega) (by omega), show 2 * (q : Int) = ((q * 2 : Nat) : Int) from by omega]
    exact e
/-- Bytes of bits: some row of bytes that has these bits. -/
theorem r1_Put_l0 {l : List Int} (f : Nat → Bool) (hf : ∀ i, i < l.length → l.getD i 0 = b2i (f i)) (hn : l.length < 2 ^ 50) : ∀ (d k i : Nat) (x : List Int), i + d = l.length → 10 * d < k → x.length = (l.length + 7) / 8 → Byt x →
    (∀ j, bitAt x j = (decide (j < i) && f j)) → ∃ r, casemateref01_Put.l0 k l x (i : Int) = some r ∧ r.length = (l.length + 7) / 8 ∧ Byt r ∧ ∀ j, bitAt r j = (decide (j < l.length) && f j)
  | 0, k, i, x, hd, hk, hx, hb, hbit => by
    obtain ⟨k, rfl⟩ := fuel hk
    refine ⟨x, ?_, hx, hb, fun j => by rw [hbit]; congr 2; simp; omega⟩
    simp only [casemateref01_Put.l0]
    rw [if_neg (by omega)]
  | d + 1, k, i, x, hd, hk, hx, hb, hbit => by
    obtain ⟨k, rfl⟩ := fuel hk
    have hin : i < l.length := by omega
    obtain ⟨k', hk', e⟩ := r1_Put_l1 l i (by omega) x hn (by omega) hin (i % 8) k 0 (by omega) (by omega)
    have hl0 : casemateref01_Put.l0 (k + 1) l x (i : Int) = casemateref01_Put.l1 k l x (i : Int) ((2 ^ 0 : Nat) : Int) ((0 : Nat) : Int) := by
      simp only [casemateref01_Put.l0]
      rw [if_pos (by omega)]; rfl
    rw [hl0, e]
    have hxb := hb.get (i / 8)
    have p8 := pow8 (show i % 8 < 8 by omega)
    have hbi : bitAt x i = false := by rw [hbit]; simp
    -- the byte with the bit
    have hnew : ((x.getD (i / 8) 0 + (wrap64 (((2 ^ (i % 8) : Nat) : Int) * l.getD i 0)) % 256) % 256) = ((((x.getD (i / 8) 0).toNat ^^^ (if f i then 2 ^ (i % 8) else 0)) : Nat) : Int) := by
      rw [hf i hin]
      cases hfi : f i with
      | false => simp only [b2i, if_false, Bool.false_eq_true, Int.mul_zero, Nat.xor_zero]; rw [w64 (by omega) (by omega)]; omega
      | true =>
        simp only [b2i, if_true, Int.mul_one]
        have hc : (x.getD (i / 8) 0).toNat.testBit (i % 8) = false := hbi
        have hadd : (x.getD (i / 8) 0).toNat ^^^ 2 ^ (i % 8) = (x.getD (i / 8) 0).toNat + 2 ^ (i % 8) ∧ (x.getD (i / 8) 0).toNat + 2 ^ (i % 8) < 256 := by
          have key : allb (fun v => (List.range 8).all fun j => v.testBit j || ((v ^^^ 2 ^ j) == v + 2 ^ j && decide (v + 2 ^ j < 256))) 8 0 = true := by decide +kernel
          have := allb_sound 8 0 key (x.getD (i / 8) 0).toNat (Nat.zero_le _) (show _ < 0 + 2 ^ 8 by omega)
          rw [List.all_eq_true] at this
          have := this (i % 8) (List.mem_range.2 (by omega))
          rw [hc, Bool.false_or, Bool.and_eq_true, beq_iff_eq, decide_eq_true_eq] at this
          exact this
        rw [hadd.1]
        have h9 := hadd.2
        generalize 2 ^ (i % 8) = q at p8 h9 ⊢
        rw [w64 (by omega) (by omega)]; omega
    rw [hnew]
    refine r1_Put_l0 f hf hn d k' (i + 1) _ (by omega) (by omega) (by rw [List.length_set]; exact hx) ?_ ?_
    · have h2 : (x.getD (i / 8) 0).toNat ^^^ (if f i then 2 ^ (i % 8) else 0) < 2 ^ 8 := Nat.xor_lt_two_pow (show _ < 2 ^ 8 by omega) (by split; exact p8; omega)
      have h3 : (x.getD (i / 8) 0).toNat ^^^ (if f i then 2 ^ (i % 8) else 0) < 256 := h2
      exact hb.set _ ⟨Int.natCast_nonneg _, by omega⟩
    · intro j
      by_cases hj : j / 8 = i / 8
      · unfold bitAt
        rw [getD_set _ _ _ _ (by omega), if_pos hj.symm, Int.toNat_natCast, Nat.testBit_xor, ← hj]
        have := hbit j
        unfold bitAt at this
        rw [this]
        by_cases e : j = i
        · subst e; cases f j <;> simp
        · have h1 : ¬ i % 8 = j % 8 := by omega
          have h2 : (j < i + 1) = (j < i) := by apply propext; omega
          cases f i <;> simp [h1, h2]
      · have := hbit j
        unfold bitAt at this ⊢
        rw [getD_set _ _ _ _ (by omega), if_neg (fun h => hj h.symm), this]
        have h2 : (j < i + 1) = (j < i) := by apply propext; constructor <;> intro h <;> (have : j ≠ i := fun e => hj (by rw [e])); omega; omega
        simp [h2]
theorem r1_Put {l : List Int} (f : Nat → Bool) (hf : ∀ i, i < l.length → l.getD i 0 = b2i (f i)) (hn : l.length < 2 ^ 44) {k : Nat} (hk : 10 * l.length < k) : ∃ r, casemateref01_Put.f k l = some r ∧ r.length = (l.length + 7) / 8 ∧ Byt r ∧ ∀ j, bitAt r j = (decide (j < l.length) && f j) := by
  unfold casemateref01_Put.f
  rw [w64 (show -9223372036854775808 ≤ (l.length : Int) + 7 by omega) (by omega), tdv 8 (by omega), w64 (by omega) (by omega), if_pos (by omega), if_pos (by omega)]
  have e : (((l.length : Int) + 7) / 8).toNat = (l.length + 7) / 8 := by omega
  rw [e]
  refine r1_Put_l0 f hf (by omega) l.length k 0 _ (by omega) hk (by simp) (Byt.zeros _) (fun j => ?_)
  unfold bitAt
  simp only [List.getD_eq_getElem?_getD, List.getElem?_replicate]
  split <;> simp
end Go.Proofs.Ytfpdloccmneabaa.L

/- What the functions of layer 1 (bits) and of its reference come to, in plain Lean: bits, rows of bits, what is turned, what is apart. Conditions: the rows are bytes, as long as the statements let in. -/
import Derived.Test.YtbaiildpabdlpaaPx0
import Derived.Test.YtbaiildpabdlpaaPx8
import Derived.Test.YtbaiildpabdlpaaPx9
import Derived.Test.YtbaiildpabdlpaaPx12
import Derived.Test.YtbaiildpabdlpaaPx17
import Derived.Test.YtbaiildpabdlpaaPx20
import Derived.Test.YtbaiildpabdlpaaPx22
import Derived.Test.YtbaiildpabdlpaaMNum
set_option linter.unusedVariables false
set_option linter.unusedSimpArgs false
namespace Go.Proofs.Ytbaiildpabdlpaa.L
open Go Go.RowKit Go.Proofs.Ytbaiildpabdlpaa.P Go.Proofs.YtbaiildpabdlpaaW.PrintWords Go.Proofs.YtbaiildpabdlpaaW.PrintLast Go.Proofs.YtbaiildpabdlpaaW.PrintMore Go.Proofs.CsM
def b2i (b : Bool) : Int := if b then 1 else 0
theorem b2i_inj {a b : Bool} : b2i a = b2i b ↔ a = b := by cases a <;> cases b <;> simp [b2i]
theorem testBit_i (x : Int) (j : Nat) (hx : 0 ≤ x) : x / 2 ^ j % 2 = b2i (x.toNat.testBit j) := by
  obtain ⟨a, rfl⟩ := Int.eq_ofNat_of_zero_le hx
  rw [Int.toNat_natCast, Nat.testBit_eq_decide_div_mod_eq]
  have e : (a : Int) / 2 ^ j % 2 = ((a / 2 ^ j % 2 : Nat) : Int) := by simp
  rw [e]
  rcases Nat.mod_two_eq_zero_or_one (a / 2 ^ j) with h | h <;> simp [h, b2i]
def ints (ns : List Nat) : List Int := ns.map fun (n : Nat) => (n : Int)
theorem ints_length (ns : List Nat) : (ints ns).length = ns.length := by simp [ints]
theorem ints_get (ns : List Nat) (i : Nat) (h : i < ns.length) : (ints ns).getD i 0 = ((ns[i] : Nat) : Int) := by simp [ints, h]
theorem fuel {k n : Nat} (h : n < k) : ∃ m, k = m + 1 := ⟨k - 1, by omega⟩
theorem r1_At_l0 (x1 : Int) (h : 0 ≤ x1) : ∀ (d k : Nat) (x5 x6 : Int), 0 ≤ x5 → x5 < 256 → 0 ≤ x6 → x6 + d = x1 % 8 → d < k → casemateref01_At.l0 k x1 x5 x6 = some (x5 / 2 ^ d % 2)
  | 0, k, x5, x6, h5, h5', h6, hd, hk => by
    obtain ⟨k, rfl⟩ := fuel hk
    simp only [casemateref01_At.l0]
    rw [tmd 8 h, if_neg (by omega), tmd 2 h5]
    simp
  | d + 1, k, x5, x6, h5, h5', h6, hd, hk => by
    obtain ⟨k, rfl⟩ := fuel hk
    simp only [casemateref01_At.l0]
    rw [tmd 8 h, if_pos (by omega), tdv 2 h5, w64 (by omega) (by omega), w64 (by omega) (by omega), r1_At_l0 x1 h d k _ _ (by omega) (by omega) (by omega) (by omega) (by omega)]
    congr 1
    rw [Int.ediv_ediv_of_nonneg (by omega), Int.pow_succ, Int.mul_comm]
theorem r1_At {l : List Int} (hl : Byt l) (hn : l.length ≤ 2 ^ 50) {i : Nat} (hi : i < 8 * l.length) {k : Nat} (hk : 8 < k) : casemateref01_At.f k l (i : Int) = some (b2i (bitAt l i)) := by
  have hb := hl.get (i / 8)
  unfold casemateref01_At.f
  rw [tdv 8 (by omega), w64 (by omega) (by omega), if_pos (by omega), if_pos (by omega)]
  have e : rd l ((i : Int) / 8) = l.getD (i / 8) 0 := by rw [rd_of (by omega), show ((i : Int) / 8).toNat = i / 8 from by omega]
  rw [e, w64 (by omega) (by omega), r1_At_l0 (i : Int) (by omega) (i % 8) k _ 0 hb.1 hb.2 (by omega) (by omega) (by omega), testBit_i _ _ hb.1]
  rfl
/-- The bits of a row, as numbers. -/
def bl (l : List Int) : List Int := (List.range (8 * l.length)).map fun i => b2i (bitAt l i)
theorem bl_length (l : List Int) : (bl l).length = 8 * l.length := by simp [bl]
theorem bl_get (l : List Int) (i : Nat) (h : i < 8 * l.length) : (bl l).getD i 0 = b2i (bitAt l i) := by simp [bl, h]
theorem list_snoc_map (f : Nat → Int) (n : Nat) : (List.range (n + 1)).map f = (List.range n).map f ++ [f n] := by rw [List.range_succ, List.map_append]; rfl
theorem r1_All_l0 {l : List Int} (hl : Byt l) (hn : l.length ≤ 2 ^ 40) : ∀ (d k i : Nat), i + d = 8 * l.length → d + 9 < k →
    casemateref01_All.l0 k l ((List.range i).map fun i => b2i (bitAt l i)) (i : Int) = some (bl l)
  | 0, k, i, hd, hk => by
    obtain ⟨k, rfl⟩ := fuel hk
    simp only [casemateref01_All.l0]
    rw [w64 (by omega) (by omega), if_neg (by omega)]
    have : i = 8 * l.length := by omega
    rw [this]; rfl
  | d + 1, k, i, hd, hk => by
    obtain ⟨k, rfl⟩ := fuel hk
    simp only [casemateref01_All.l0]
    rw [w64 (by omega) (by omega), if_pos (by omega), r1_At hl (by omega) (show i < 8 * l.length by omega) (by omega), Option.bind_some, if_pos (by simp; omega), ← list_snoc_map (fun i => b2i (bitAt l i)), w64 (by omega) (by omega)]
    exact r1_All_l0 hl hn d k (i + 1) (by omega) (by omega)
theorem r1_All {l : List Int} (hl : Byt l) (hn : l.length ≤ 2 ^ 40) {k : Nat} (hk : 8 * l.length + 9 < k) : casemateref01_All.f k l = some (bl l) :=
  r1_All_l0 hl hn (8 * l.length) k 0 (by omega) hk
theorem b_Turn_l0 {l : List Int} (hn : l.length ≤ 2 ^ 40) (ps : List Int) (hp : ps.length ≤ 2 ^ 40) (ns : List Nat) (hns : ps = ints ns) (hin : ∀ n ∈ ns, n < 8 * l.length) :
    ∀ (d k j : Nat) (x : List Int), x.length = l.length → Byt x → j + d = ps.length → d < k → bits_Turn.l0 k l x ps (ps.length : Int) (j : Int) = some (turnb x (ns.drop j), 0)
  | 0, k, j, x, hx, hb, hd, hk => by
    obtain ⟨k, rfl⟩ := fuel hk
    simp only [bits_Turn.l0]
    have hl : ns.length = ps.length := by rw [hns, ints_length]
    rw [if_neg (by omega), List.drop_of_length_le (by omega)]; rfl
  | d + 1, k, j, x, hx, hb, hd, hk => by
    obtain ⟨k, rfl⟩ := fuel hk
    simp only [bits_Turn.l0]
    have hl : ns.length = ps.length := by rw [hns, ints_length]
    have hj : j < ns.length := by omega
    have e : rd ps (j : Int) = ((ns[j] : Nat) : Int) := by rw [rd_nat, hns, ints_get _ _ hj]
    have hlt : ns[j] < 8 * l.length := hin _ (List.getElem_mem hj)
    have hdr : ns.drop j = ns[j] :: ns.drop (j + 1) := List.drop_eq_getElem_cons hj
    have hbx := hb.get (ns[j] / 8)
    rw [if_pos (by omega), if_pos (by omega), if_pos (by omega), e, if_neg (by omega), w64 (by omega) (by omega), if_neg (by omega), tdv 8 (by omega), tmd 8 (by omega), w64 (by omega) (by omega), if_pos (by omega), if_pos (by omega), if_pos (by omega), w64 (by omega) (by omega)]
    have e1 : (((ns[j] : Nat) : Int) / 8).toNat = ns[j] / 8 := by omega
    have e2 : rd x (((ns[j] : Nat) : Int) / 8) = x.getD (ns[j] / 8) 0 := by rw [rd_of (by omega), e1]
    have p8 := pow8 (show ns[j] % 8 < 8 by omega)
    rw [e1, e2, show (((ns[j] : Nat) : Int) % 8) = ((ns[j] % 8 : Nat) : Int) from by omega, one_shl _ (by omega), u8_xor _ _ hbx.1 hbx.2 (Int.natCast_nonneg _) (by omega), Int.toNat_natCast]
    have := b_Turn_l0 hn ps hp ns hns hin d k (j + 1) (flipb x ns[j]) (by rw [flipb_length, hx]) (flipb_byt hb _) (by omega) (by omega)
    rw [hdr, turnb]
    exact this
theorem b_Turn_ok {l : List Int} (hb : Byt l) (hn : l.length ≤ 2 ^ 40) {ps : List Int} (hp : ps.length ≤ 2 ^ 40) (ns : List Nat) (hns : ps = ints ns) (hin : ∀ n ∈ ns, n < 8 * l.length) {k : Nat} (hk : ps.length < k) :
    bits_Turn.f k l ps = some (turnb l ns, 0) := by
  unfold bits_Turn.f
  rw [if_pos (by omega), if_pos (by rw [Int.toNat_natCast]; omega)]
  exact b_Turn_l0 hn ps hp ns hns hin ps.length k 0 l rfl hb (by omega) hk
/-- Where two rows are unlike. -/
def apart (a b : List Int) : List Nat := diffs (fun i => bitAt a i ^^ bitAt b i) (8 * a.length)
theorem apart_le (a b : List Int) : (apart a b).length ≤ 8 * a.length := cnt_le _ _
theorem apart_lt (a b : List Int) : ∀ n ∈ apart a b, n < 8 * a.length := fun n hn => (mem_diffs.1 hn).1
theorem bit_of_xor {a b : List Int} (ha : Byt a) (hb : Byt b) {i j : Nat} (hj : j < 8) (hi : i < a.length) (hi' : i < b.length) :
    (Go.bits .and .u8 (shr .u8 (Go.bits .xor .u8 (rd a (i : Int)) (rd b (i : Int))) (j : Int)) 1 = 1) ↔ (bitAt a (8 * i + j) ^^ bitAt b (8 * i + j)) = true := by
  have h1 := ha.get i
  have h2 := hb.get i
  rw [rd_nat, rd_nat, u8_xor _ _ h1.1 h1.2 h2.1 h2.2]
  have hx : (a.getD i 0).toNat ^^^ (b.getD i 0).toNat < 2 ^ 8 := Nat.xor_lt_two_pow (show _ < 2 ^ 8 by omega) (show _ < 2 ^ 8 by omega)
  have hx' : (a.getD i 0).toNat ^^^ (b.getD i 0).toNat < 256 := hx
  rw [shr_u8 _ _ (Int.natCast_nonneg _) (by omega), Int.toNat_natCast, u8_and _ _ (Int.natCast_nonneg _) (by
    rw [Nat.shiftRight_eq_div_pow]; have := Nat.div_le_self ((a.getD i 0).toNat ^^^ (b.getD i 0).toNat) (2 ^ j); omega) (by omega) (by omega), Int.toNat_natCast]
  unfold bitAt
  rw [show (8 * i + j) / 8 = i from by omega, show (8 * i + j) % 8 = j from by omega, ← Nat.testBit_xor, Nat.testBit_eq_decide_div_mod_eq, Nat.shiftRight_eq_div_pow, decide_eq_true_eq, show Int.toNat 1 = 1 from rfl, Nat.and_one_is_mod]
  omega
theorem b_Apart_loops {a b : List Int} (ha : Byt a) (hb : Byt b) (hn : a.length ≤ 2 ^ 40) (hab : a.length = b.length) :
    ∀ (d : Nat), (∀ (k i : Nat), 10 * i + d = 10 * a.length → d < k → bits_Apart.l0 k a b (ints (diffs (fun i => bitAt a i ^^ bitAt b i) (8 * i))) (a.length : Int) (i : Int) = some (ints (apart a b), 0)) ∧
      (∀ (k i j : Nat), i < a.length → j ≤ 8 → 10 * i + j + 1 + d = 10 * a.length → d < k → bits_Apart.l1 k a b (ints (diffs (fun i => bitAt a i ^^ bitAt b i) (8 * i + j))) (i : Int) (a.length : Int) (i : Int) (j : Int) = some (ints (apart a b), 0)) := by
  intro d
  induction d using Nat.strongRecOn with
  | ind d ih =>
    constructor
    · intro k i hd hk
      obtain ⟨k, rfl⟩ := fuel hk
      simp only [bits_Apart.l0]
      by_cases h : i < a.length
      · rw [if_pos (by omega)]
        have := (ih (d - 1) (by omega)).2 k i 0 h (by omega) (by omega) (by omega)
        exact this
      · have : i = a.length := by omega
        rw [if_neg (by omega), this]; rfl
    · intro k i j hi hj hd hk
      obtain ⟨k, rfl⟩ := fuel hk
      simp only [bits_Apart.l1]
      by_cases h : j < 8
      · rw [if_pos (by omega), if_pos (by omega), if_pos (by omega), if_pos (by omega), if_pos (by omega)]
        have hlen : (diffs (fun i => bitAt a i ^^ bitAt b i) (8 * i + j)).length ≤ 8 * i + j := cnt_le _ _
        have hs := diffs_succ (fun i => bitAt a i ^^ bitAt b i) (8 * i + j)
        have hr := (ih (d - 1) (by omega)).2 k i (j + 1) hi (by omega) (by omega) (by omega)
        rw [show 8 * i + (j + 1) = 8 * i + j + 1 from by omega, hs] at hr
        by_cases hx : (bitAt a (8 * i + j) ^^ bitAt b (8 * i + j)) = true
        · rw [if_pos ((bit_of_xor ha hb h hi (by omega)).2 hx), if_pos (by rw [ints_length]; omega), w64 (show -9223372036854775808 ≤ 8 * (i : Int) by omega) (by omega), w64 (show -9223372036854775808 ≤ 8 * (i : Int) + (j : Int) by omega) (by omega), w64 (by omega) (by omega)]
          rw [if_pos hx] at hr
          have e : ints (diffs (fun i => bitAt a i ^^ bitAt b i) (8 * i + j) ++ [8 * i + j]) = ints (diffs (fun i => bitAt a i ^^ bitAt b i) (8 * i + j)) ++ [8 * (i : Int) + (j : Int)] := by simp [ints]
          rw [e] at hr
          exact hr
        · rw [if_neg (fun hh => hx ((bit_of_xor ha hb h hi (by omega)).1 hh)), w64 (by omega) (by omega)]
          rw [if_neg hx, List.append_nil] at hr
          exact hr
      · have hj8 : j = 8 := by omega
        subst hj8
        rw [if_neg (by omega), w64 (by omega) (by omega)]
        have := (ih (d - 1) (by omega)).1 k (i + 1) (by omega) (by omega)
        rw [show 8 * (i + 1) = 8 * i + 8 from by omega] at this
        exact this
theorem b_Apart_ok {a b : List Int} (ha : Byt a) (hb : Byt b) (hn : a.length ≤ 2 ^ 40) (hab : a.length = b.length) {k : Nat} (hk : 10 * a.length < k) : bits_Apart.f k a b = some (ints (apart a b), 0) := by
  unfold bits_Apart.f
  rw [if_pos (by omega)]
  exact (b_Apart_loops ha hb hn hab (10 * a.length)).1 k 0 (by omega) hk
/-- The ones of a number below 256. -/
def ones8 (n : Nat) : Nat := cnt (fun j => n.testBit j) 8
def ones (l : List Int) : Nat := cnt (bitAt l) (8 * l.length)
theorem ones8_step : allb (fun n => n == 0 || ones8 n == ones8 (n &&& ((n + 255) % 256)) + 1) 8 0 = true := by decide +kernel
theorem ones8_zero : ones8 0 = 0 := by decide +kernel
theorem ones_take (l : List Int) (i : Nat) : cnt (bitAt l) (8 * i + 8) = cnt (bitAt l) (8 * i) + ones8 (l.getD i 0).toNat := by
  rw [cnt_add]
  congr 1
  exact cnt_congr fun j hj => by
    unfold bitAt
    rw [show (8 * i + j) / 8 = i from by omega, show (8 * i + j) % 8 = j from by omega]
theorem b_Ones_l1 (l : List Int) (i : Int) : ∀ (m : Nat) (n c : Nat) (k : Nat) (r : Option Int), n < 256 → ones8 n = m → c + m ≤ 2 ^ 60 → m < k → (∀ k', k = k' + m + 1 → bits_Ones.l0 k' ((c + m : Nat) : Int) l (l.length : Int) (wrap64 (i + 1)) = r) → bits_Ones.l1 k (c : Int) (n : Int) l (l.length : Int) i = r
  | m, n, c, k, r, hn, hm, hc, hk, hr => by
    obtain ⟨k, rfl⟩ := fuel hk
    have hstep := allb_sound 8 0 ones8_step n (Nat.zero_le _) (by simpa using hn)
    simp only [Bool.or_eq_true, beq_iff_eq] at hstep
    simp only [bits_Ones.l1]
    by_cases h0 : n = 0
    · subst h0
      rw [ones8_zero] at hm
      subst hm
      rw [if_pos (by simp)]
      exact hr k (by omega)
    · rcases hstep with hstep | hstep
      · exact absurd hstep h0
      · rw [if_neg (by omega), w64 (by omega) (by omega)]
        have e : (((n : Int) - 1) % 256) = (((n + 255) % 256 : Nat) : Int) := by omega
        have hlt : n &&& ((n + 255) % 256) ≤ n := Nat.and_le_left
        rw [e, u8_and _ _ (by omega) (by omega) (by omega) (by omega), Int.toNat_natCast, Int.toNat_natCast, show ((c : Int) + 1) = ((c + 1 : Nat) : Int) from by omega]
        cases m with
        | zero => omega
        | succ m => exact b_Ones_l1 l i m _ (c + 1) k r (by omega) (by omega) (by omega) (by omega) (fun k' hk' => by rw [show c + 1 + m = c + (m + 1) from by omega]; exact hr k' (by omega))
  termination_by m => m
theorem b_Ones_l0 {l : List Int} (hl : Byt l) (hn : l.length ≤ 2 ^ 40) : ∀ (d k i : Nat), i + d = l.length → 10 * d < k → bits_Ones.l0 k ((cnt (bitAt l) (8 * i) : Nat) : Int) l (l.length : Int) (i : Int) = some ((ones l : Nat) : Int)
  | 0, k, i, hd, hk => by
    obtain ⟨k, rfl⟩ := fuel hk
    simp only [bits_Ones.l0]
    have : i = l.length := by omega
    rw [if_neg (by omega), this]; rfl
  | d + 1, k, i, hd, hk => by
    obtain ⟨k, rfl⟩ := fuel hk
    simp only [bits_Ones.l0]
    have hb := hl.get i
    have h8 : ones8 (l.getD i 0).toNat ≤ 8 := cnt_le _ _
    have hc : cnt (bitAt l) (8 * i) ≤ 8 * i := cnt_le _ _
    rw [if_pos (by omega), if_pos (by omega), if_pos (by omega), rd_nat, show l.getD i 0 = ((l.getD i 0).toNat : Int) from by omega]
    refine b_Ones_l1 l i _ _ _ k _ (by omega) rfl (by omega) (by omega) (fun k' hk' => ?_)
    rw [w64 (by omega) (by omega), ← ones_take, show 8 * i + 8 = 8 * (i + 1) from by omega]
    exact b_Ones_l0 hl hn d k' (i + 1) (by omega) (by omega)
theorem b_Ones {l : List Int} (hl : Byt l) (hn : l.length ≤ 2 ^ 40) {k : Nat} (hk : 10 * l.length < k) : bits_Ones.f k l = some ((ones l : Nat) : Int) := by
  unfold bits_Ones.f
  exact b_Ones_l0 hl hn l.length k 0 (by omega) hk
end Go.Proofs.Ytbaiildpabdlpaa.L

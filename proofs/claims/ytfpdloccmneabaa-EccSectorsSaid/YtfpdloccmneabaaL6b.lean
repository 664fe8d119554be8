/- What the functions of layer 6 come to: the mark, the sectors. Conditions: geometries that may be, rows of bytes. -/
import Derived.Test.YtfpdloccmneabaaL6
import Derived.Test.YtfpdloccmneabaaPx0
import Derived.Test.YtfpdloccmneabaaPx6
import Derived.Test.YtfpdloccmneabaaPx10
import Derived.Test.YtfpdloccmneabaaPx20
set_option linter.unusedVariables false
set_option linter.unusedSimpArgs false
namespace Go.Proofs.Ytfpdloccmneabaa.L
open Go Go.RowKit Go.Proofs.Ytfpdloccmneabaa.P Go.Proofs.YtfpdloccmneabaaW.PrintWords Go.Proofs.YtfpdloccmneabaaW.PrintLast Go.Proofs.YtfpdloccmneabaaW.PrintMore Go.Proofs.CsM
/-- Sector i of raw bytes. -/
def sg (w : Nat) (R : List Int) (i : Nat) : List Int := (R.drop (i * w)).take w
theorem Geo.lew {a b s n t i : Nat} (g : Geo a b s n t) (h : i < s) : (i + 1) * wh n t = i * wh n t + wh n t ∧ i * wh n t + wh n t ≤ s * wh n t := by
  have h1 : (i + 1) * wh n t = i * wh n t + wh n t := Nat.succ_mul _ _
  have h2 := g.iw (i := i + 1) (by omega)
  omega
theorem Geo.sg_length {a b s n t : Nat} (g : Geo a b s n t) {R : List Int} (hl : R.length = s * wh n t + 1) {i : Nat} (h : i < s) : (sg (wh n t) R i).length = wh n t := by
  have := g.lew h
  unfold sg
  rw [List.length_take, List.length_drop]; omega
theorem sg_byt {R : List Int} (h : Byt R) (w i : Nat) : Byt (sg w R i) := (h.drop _).take _
/-- Are the noughts of each sector few? -/
def few (t w : Nat) (R : List Int) : Nat → Nat → Bool
  | 0, _ => true
  | m + 1, i => decide (8 * w - ones (sg w R i) ≤ t) && few t w R m (i + 1)
/-- What the mark and the noughts say. -/
def says (s w t : Nat) (R : List Int) : Int := if R.getD (s * w) 0 = 0 then 0 else if R.getD (s * w) 0 = 255 then (if few t w R s 0 = true then 61 else 60) else 60
theorem Geo.state_l0 {a b s n t : Nat} (g : Geo a b s n t) {R : List Int} (hR : Byt R) (hl : R.length = s * wh n t + 1) : ∀ (m i k : Nat), i + m = s → 10 * (wh n t) + m < k → ecc_state.l0 k R (wh n t : Int) ((i * wh n t : Nat) : Int) a b s n t = some (if few t (wh n t) R m i = true then 61 else 60)
  | 0, i, k, hi, hk => by
    obtain ⟨k, rfl⟩ := fuel hk
    have h5 := g.wh_le
    have hs := g.sw
    have hi : i = s := by omega
    subst hi
    have e1 : wrap64 (((i * wh n t : Nat) : Int) + (wh n t : Int)) = ((i * wh n t + wh n t : Nat) : Int) := cst_add (by omega)
    rw [ecc_state.l0, e1, if_neg (by clear e1; omega), few, if_pos rfl]
  | m + 1, i, k, hi, hk => by
    obtain ⟨k, rfl⟩ := fuel hk
    have h5 := g.wh_le
    have hs := g.sw
    have h8 := g.t8
    have hw := g.lew (show i < s by omega)
    have e1 : wrap64 (((i * wh n t : Nat) : Int) + (wh n t : Int)) = ((i * wh n t + wh n t : Nat) : Int) := cst_add (by omega)
    have hsl := g.sg_length hl (show i < s by omega)
    have hsg : (R.take (i * wh n t + wh n t)).drop (i * wh n t) = sg (wh n t) R i := by rw [List.drop_take, Nat.add_sub_cancel_left]; rfl
    have hon := ones_le (sg (wh n t) R i)
    rw [hsl] at hon
    have e2 : wrap64 (8 * (wh n t : Int)) = ((8 * wh n t : Nat) : Int) := by rw [w64 (by clear e1; omega) (by clear e1; omega)]; omega
    have e3 : wrap64 (((8 * wh n t : Nat) : Int) - ((ones (sg (wh n t) R i) : Nat) : Int)) = ((8 * wh n t - ones (sg (wh n t) R i) : Nat) : Int) := cst_sub hon (by clear e1 e2; omega)
    have ih := g.state_l0 hR hl m (i + 1) k (by clear e1 e2 e3; omega) (by clear e1 e2 e3; omega)
    rw [show ((i + 1) * wh n t : Nat) = i * wh n t + wh n t from hw.1] at ih
    rw [ecc_state.l0, e1, if_pos (by clear e1 e2 e3; omega), if_pos (by clear e1 e2 e3; omega), if_pos (by clear e1 e2 e3; omega), if_pos (by clear e1 e2 e3; omega), Int.toNat_natCast, Int.toNat_natCast, hsg, b_Ones (sg_byt hR _ _) (by rw [hsl]; clear e1 e2 e3; omega) (by rw [hsl]; clear e1 e2 e3; omega), Option.bind_some, e2, e3, few]
    by_cases hc : 8 * wh n t - ones (sg (wh n t) R i) ≤ t
    · rw [if_neg (by clear e1 e2 e3; omega), ih, decide_eq_true hc, Bool.true_and]
    · rw [if_pos (by clear e1 e2 e3; omega), decide_eq_false hc, Bool.false_and, if_neg (by decide)]
theorem Geo.state {a b s n t : Nat} (g : Geo a b s n t) {R : List Int} (hR : Byt R) (hl : R.length = s * wh n t + 1) : Evt fun k => ecc_state.f k a b s n t R = some (says s (wh n t) t R) := Evt.of (10 * (wh n t) + s) fun k hk => by
  have hs := g.sw
  have e1 : wrap64 ((R.length : Int) - 1) = ((s * wh n t : Nat) : Int) := by rw [hl, w64 (by omega) (by omega)]; omega
  unfold ecc_state.f says
  rw [e1, if_pos (by clear e1; omega), if_pos (by clear e1; omega), rd_nat]
  by_cases h0 : R.getD (s * wh n t) 0 = 0
  · rw [if_pos h0, if_pos h0]
  · rw [if_neg h0, if_neg h0]
    by_cases h1 : R.getD (s * wh n t) 0 = 255
    · rw [if_pos h1, if_pos h1, g.whole, Option.bind_some]
      have := g.state_l0 hR hl s 0 k (by omega) hk
      rw [Nat.zero_mul] at this
      exact this
    · rw [if_neg h1, if_neg h1]
/-- What a word is told as. -/
structure DecOk (t : Nat) (d m : List Int) (r : List Int × List Int × Int × Int) : Prop where
  run : Evt fun k => bch_Decode.f k (t : Int) d m = some r
  ok : (∃ N : Nat, r.2.2 = ((N : Int), 0) ∧ N ≤ t ∧ Wok t r.1 r.2.1 ∧ r.1.length = d.length ∧ Code t (L.wd t r.1 r.2.1) (wl t r.1) ∧ (∀ j, 13 * t ≤ j → bitAt r.2.1 j = false) ∧ cnt (fun j => (L.wd t d m).c j ^^ (L.wd t r.1 r.2.1).c j) (wl t d) = N) ∨ r = ([], [], 0, 50)
theorem dec_ex {t : Nat} {d m : List Int} (hW : Wok t d m) : ∃ r, DecOk t d m r := by
  obtain ⟨c, hA, hcn, hcase⟩ := c_Decode hW
  rcases hcase with ⟨q1, q2, q3, d2, m2, hD, hW2, hl2, hwd2, hup⟩ | ⟨hq, hD⟩
  · have hwl2 : wl t d2 = wl t d := by unfold wl; rw [hl2]
    refine ⟨_, hD, .inl ⟨cnt (rt c) (wl t d), rfl, by omega, hW2, hl2, by rw [hwd2, hwl2]; exact q3, hup, ?_⟩⟩
    rw [hwd2]
    refine cnt_congr fun i hi => ?_
    rw [add_c]
    show ((wd t d m).c i ^^ ((wd t d m).c i ^^ (decide (i < wl t d) && rt c i))) = rt c i
    rw [decide_eq_true hi, Bool.true_and, ← Bool.xor_assoc, Bool.xor_self, Bool.false_xor]
  · exact ⟨_, hD, .inr rfl⟩
noncomputable def dec (t : Nat) (d m : List Int) : List Int × List Int × Int × Int := open Classical in if h : ∃ r, DecOk t d m r then Classical.choose h else ([], [], 0, 0)
theorem dec_is {t : Nat} {d m : List Int} (hW : Wok t d m) : DecOk t d m (dec t d m) := by
  have h := dec_ex hW
  unfold dec
  rw [dif_pos h]
  exact Classical.choose_spec h
theorem dec_run {t : Nat} {d m : List Int} (hW : Wok t d m) {r : List Int × List Int × Int × Int} (h : Evt fun k => bch_Decode.f k (t : Int) d m = some r) : dec t d m = r := by
  obtain ⟨k, h1, h2⟩ := ((dec_is hW).run.and h).get
  exact Option.some.inj (h1.symm.trans h2)
/-- A sector's answer. -/
noncomputable def sct (t n : Nat) (S : List Int) : S39 := ⟨(dec t (S.take n) (S.drop n)).1, (dec t (S.take n) (S.drop n)).2.2.1, (dec t (S.take n) (S.drop n)).2.2.2⟩
theorem Geo.wok {a b s n t : Nat} (g : Geo a b s n t) {S : List Int} (hS : Byt S) (hl : S.length = wh n t) : Wok t (S.take n) (S.drop n) := by
  have hn := g.n4
  have h5 := g.n512
  unfold wh at hl
  exact ⟨g.t1, g.t8, hS.take _, hS.drop _, by rw [List.length_take]; omega, by rw [List.length_take]; omega, by rw [List.length_drop]; omega⟩
/-- The answers of the sectors from i on. -/
noncomputable def scts (t n w : Nat) (R : List Int) : Nat → Nat → List S39
  | 0, _ => []
  | m + 1, i => sct t n (sg w R i) :: scts t n w R m (i + 1)
theorem scts_length (t n w : Nat) (R : List Int) : ∀ m i, (scts t n w R m i).length = m
  | 0, _ => rfl
  | m + 1, i => by rw [scts, List.length_cons, scts_length t n w R m (i + 1)]
theorem scts_get (t n w : Nat) (R : List Int) : ∀ (m i j : Nat), j < m → rd_T39 (scts t n w R m i) (j : Int) = sct t n (sg w R (i + j))
  | 0, _, _, h => absurd h (Nat.not_lt_zero _)
  | m + 1, i, 0, h => by unfold rd_T39; rfl
  | m + 1, i, j + 1, h => by
    have := scts_get t n w R m (i + 1) j (by omega)
    rw [show i + 1 + j = i + (j + 1) from by omega] at this
    rw [← this]
    unfold rd_T39
    rw [Int.toNat_natCast, Int.toNat_natCast, scts]; rfl
theorem Geo.unpack_l0 {a b s n t : Nat} (g : Geo a b s n t) {R : List Int} (hR : Byt R) (hl : R.length = s * wh n t + 1) : ∀ (m i : Nat) (acc : List S39), i + m = s → acc.length = i → Evt fun k => ecc_Unpack.l0 k (R.drop (i * wh n t)) acc (s : Int) (i : Int) a b s n t = some (acc ++ scts t n (wh n t) R m i, 0)
  | 0, i, acc, hi, hb => Evt.of 0 fun k hk => by
    obtain ⟨k, rfl⟩ := fuel hk
    rw [ecc_Unpack.l0, if_neg (by omega), scts, List.append_nil]
  | m + 1, i, acc, hi, hb => by
    have h5 := g.wh_le
    have hs := g.sw
    have h8 := g.s8
    have hw := g.lew (show i < s by omega)
    have hsl := g.sg_length hl (show i < s by omega)
    have hwd : wh n t = n + mb t := rfl
    have e0 : wrap64 ((i : Int) + 1) = ((i + 1 : Nat) : Int) := by rw [w64 (by omega) (by omega)]; rfl
    have hd := (dec_is (g.wok (sg_byt hR (wh n t) i) hsl)).run
    have hxl : (R.drop (i * wh n t)).length = s * wh n t + 1 - i * wh n t := by rw [List.length_drop, hl]
    have ih := g.unpack_l0 hR hl m (i + 1) (acc ++ [sct t n (sg (wh n t) R i)]) (by clear e0; omega) (by rw [List.length_append, hb]; rfl)
    refine (hd.and ih).step fun k ⟨q1, q2⟩ => ?_
    have ht1 : (R.drop (i * wh n t)).take n = (sg (wh n t) R i).take n := by unfold sg; rw [List.take_take, Nat.min_eq_left (by clear e0; omega)]
    rw [ecc_Unpack.l0, if_pos (by clear e0; omega), g.whole, Option.bind_some, if_pos (by clear e0; omega), if_pos (by rw [hxl]; clear e0; omega), if_pos (by clear e0; omega), if_pos (by rw [hxl]; clear e0; omega), Int.toNat_natCast, Int.toNat_natCast, ht1]
    rw [show ((R.drop (i * wh n t)).take (wh n t)).drop n = (sg (wh n t) R i).drop n from rfl, q1, Option.bind_some, if_pos (by clear e0; omega), if_pos (by clear e0; omega), List.drop_drop, show i * wh n t + wh n t = (i + 1) * wh n t from hw.1.symm, e0]
    refine q2.trans ?_
    rw [scts, List.append_assoc]; rfl
/-- What Unpack tells. -/
noncomputable def unp (s n t : Nat) (R : List Int) : List S39 × Int := if says s (wh n t) t R = 0 then (scts t n (wh n t) R s 0, 0) else ([], says s (wh n t) t R)
theorem Geo.unpack {a b s n t : Nat} (g : Geo a b s n t) {R : List Int} (hR : Byt R) (hl : R.length = s * wh n t + 1) : Evt fun k => ecc_Unpack.f k a b s n t R = some (unp s n t R) := by
  have h0 := g.unpack_l0 hR hl s 0 [] (by omega) rfl
  rw [Nat.zero_mul, List.drop_zero] at h0
  have h1 : Evt fun k => ecc_Unpack.j0 k R false a b s n t = some (unp s n t R) := ((g.state hR hl).and h0).step fun k ⟨q1, q2⟩ => by
    rw [ecc_Unpack.j0, if_neg (by decide), q1, Option.bind_some, unp]
    by_cases h : says s (wh n t) t R = 0
    · rw [if_pos h, if_pos h]; exact q2
    · rw [if_neg h, if_neg h]
  refine h1.mono fun k h => ?_
  unfold ecc_Unpack.f
  rw [g.raw, Option.bind_some, if_pos rfl, show ((R.length : Int) != ((s * wh n t + 1 : Nat) : Int)) = false from by rw [hl]; simp]
  exact h
/-- What is read of the sectors' answers. -/
def rdl : List S39 → List Int → Int → List Int × Int × Int
  | [], x, m => (x, m, 0)
  | e :: l, x, m => if e.f2 = 0 then rdl l (x ++ e.f0) (mx m e.f1) else ([], 0, e.f2)
noncomputable def rea (s n t : Nat) (R : List Int) : List Int × Int × Int := if says s (wh n t) t R = 0 then rdl (scts t n (wh n t) R s 0) [] 0 else ([], 0, says s (wh n t) t R)
end Go.Proofs.Ytfpdloccmneabaa.L

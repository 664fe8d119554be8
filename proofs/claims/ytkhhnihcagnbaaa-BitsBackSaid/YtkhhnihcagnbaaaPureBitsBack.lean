/- The pure statement of the law BitsBack: what the printed function of the law comes to is true at every input. No condition. -/
import Derived.Test.YtkhhnihcagnbaaaBits
import Derived.Test.YtkhhnihcagnbaaaPx8
set_option linter.unusedVariables false
set_option linter.unusedSimpArgs false
namespace Go.Proofs.Ytkhhnihcagnbaaa.Pure
open Go Go.RowKit Go.Proofs.Ytkhhnihcagnbaaa.P Go.Proofs.YtkhhnihcagnbaaaW.PrintWords Go.Proofs.YtkhhnihcagnbaaaW.PrintLast Go.Proofs.YtkhhnihcagnbaaaW.PrintMore Go.Proofs.CsM Go.Proofs.Ytkhhnihcagnbaaa.L
theorem back_l1 {b t u v : List Int} (ns : List Nat) (hb : Byt b) (ht : Byt t) (hn : b.length ≤ 200) (htn : t.length = b.length) (hu : u = b) (hv : v = t) (hbit : ∀ i, i < 8 * b.length → bitAt t i = (bitAt b i ^^ odds ns i)) (x13 : List Bool) (hx : x13.length = 8 * b.length) (hxi : ∀ i, i < 8 * b.length → x13.getD i false = odds ns i) :
    ∀ (d k i : Nat), i + d = 8 * b.length → d + 2100 < k → casematelaw01_BitsBack.l1 k b t u 0 (ints (diffs (odds ns) (8 * b.length))) 0 v 0 x13 ((cnt (odds ns) i : Nat) : Int) (i : Int) = some true
  | 0, k, i, hd, hk => by
    obtain ⟨k, rfl⟩ := fuel hk
    have hi : i = 8 * b.length := by omega
    subst hi
    have hl : (diffs (odds ns) (8 * b.length)).length = cnt (odds ns) (8 * b.length) := rfl
    have ho := ones_le b
    have ho' := ones_le t
    have ot : ones t = cnt (fun i => bitAt b i ^^ odds ns i) (8 * b.length) := by unfold ones; rw [htn]; exact cnt_congr hbit
    have h1 := cnt_xor_le (bitAt b) (odds ns) (8 * b.length)
    have h2 := cnt_xor_le (fun i => bitAt b i ^^ odds ns i) (odds ns) (8 * b.length)
    have h3 : cnt (fun i => (bitAt b i ^^ odds ns i) ^^ odds ns i) (8 * b.length) = ones b := cnt_congr fun i _ => by simp
    obtain ⟨m, h4⟩ := cnt_xor_even (bitAt b) (odds ns) (8 * b.length)
    have hob : ones b = cnt (bitAt b) (8 * b.length) := rfl
    have hc := cnt_le (odds ns) (8 * b.length)
    rw [h3] at h2
    rw [casematelaw01_BitsBack.l1]
    rw [if_neg (by omega), b_Ones hb (by omega) (by omega), Option.bind_some, b_Ones ht (by omega) (by omega), Option.bind_some, awake (by omega), Option.bind_some, if_pos rfl, if_pos rfl, if_pos rfl, if_pos rfl, if_pos (by rw [hu]), if_pos (by rw [hv]), if_pos (by rw [ints_length, hl]),
      w64 (show -9223372036854775808 ≤ ((ones b : Nat) : Int) - ((ones t : Nat) : Int) by omega) (by omega), if_pos (by omega), w64 (by omega) (by omega), if_pos (by omega), w64 (by omega) (by omega)]
    congr 1
    have e : ((ones b : Nat) : Int) - ((ones t : Nat) : Int) - ((cnt (odds ns) (8 * b.length) : Nat) : Int) = 2 * ((m : Int) - ((cnt (odds ns) (8 * b.length) : Nat) : Int)) := by omega
    rw [e, Int.mul_tmod_right]; rfl
  | d + 1, k, i, hd, hk => by
    obtain ⟨k, rfl⟩ := fuel hk
    have hl : (diffs (odds ns) (8 * b.length)).length = cnt (odds ns) (8 * b.length) := rfl
    have hc := cnt_le (odds ns) i
    have hr : rdOf false x13 (i : Int) = odds ns i := by unfold rdOf; rw [Int.toNat_natCast]; exact hxi i (by omega)
    have hs := cnt_succ (odds ns) i
    rw [casematelaw01_BitsBack.l1]
    rw [if_pos (by omega), if_pos (by omega), hr]
    cases h : odds ns i with
    | true =>
      obtain ⟨g1, g2⟩ := diffs_get (odds ns) (8 * b.length) i (by omega) h
      rw [if_pos rfl, if_neg (by rw [ints_length]; omega), if_pos (by omega), if_pos (by rw [ints_length]; omega), rd_nat, ints_get _ _ g1]
      have g3 : (diffs (odds ns) (8 * b.length))[cnt (odds ns) i] = i := by simpa [g1] using g2
      rw [g3, if_pos rfl, w64 (by omega) (by omega), w64 (by omega) (by omega)]
      have := back_l1 ns hb ht hn htn hu hv hbit x13 hx hxi d k (i + 1) (by omega) (by omega)
      rw [hs, h, if_pos rfl] at this
      exact this
    | false =>
      rw [if_neg (by simp), w64 (by omega) (by omega)]
      have := back_l1 ns hb ht hn htn hu hv hbit x13 hx hxi d k (i + 1) (by omega) (by omega)
      rw [hs, h, if_neg (by simp)] at this
      exact this
theorem back_l0 {b t u v : List Int} (ps : List Int) (hp : ps.length ≤ 300) (ns : List Nat) (hns : ps = ints ns) (hin : ∀ m ∈ ns, m < 8 * b.length) (hb : Byt b) (ht : Byt t) (hn : b.length ≤ 200) (htn : t.length = b.length) (hu : u = b) (hv : v = t) (hbit : ∀ i, i < 8 * b.length → bitAt t i = (bitAt b i ^^ odds ns i)) :
    ∀ (d k j : Nat) (x : List Bool), x.length = 8 * b.length → (∀ i, i < 8 * b.length → (x.getD i false ^^ odds (ns.drop j) i) = odds ns i) → j + d = ps.length → d + 4000 < k →
      casematelaw01_BitsBack.l0 k b ps t u 0 (ints (diffs (odds ns) (8 * b.length))) 0 v 0 x (j : Int) = some true
  | 0, k, j, x, hx, hxi, hd, hk => by
    obtain ⟨k, rfl⟩ := fuel hk
    have hl : ns.length = ps.length := by rw [hns, ints_length]
    rw [casematelaw01_BitsBack.l0]
    rw [if_neg (by omega)]
    refine back_l1 ns hb ht hn htn hu hv hbit x hx (fun i hi => ?_) (8 * b.length) k 0 (by omega) (by omega)
    have := hxi i hi
    rwa [List.drop_of_length_le (by omega), odds, Bool.xor_false] at this
  | d + 1, k, j, x, hx, hxi, hd, hk => by
    obtain ⟨k, rfl⟩ := fuel hk
    have hl : ns.length = ps.length := by rw [hns, ints_length]
    have hj : j < ns.length := by omega
    have e : rd ps (j : Int) = ((ns[j] : Nat) : Int) := by rw [rd_nat, hns, ints_get _ _ hj]
    have hlt : ns[j] < 8 * b.length := hin _ (List.getElem_mem hj)
    have hdr : ns.drop j = ns[j] :: ns.drop (j + 1) := List.drop_eq_getElem_cons hj
    rw [casematelaw01_BitsBack.l0]
    rw [if_pos (by omega), if_pos (by omega), e, if_pos (by omega), if_pos (by omega), Int.toNat_natCast, w64 (by omega) (by omega)]
    refine back_l0 ps hp ns hns hin hb ht hn htn hu hv hbit d k (j + 1) _ (by rw [List.length_set]; exact hx) (fun i hi => ?_) (by omega) (by omega)
    have h0 := hxi i hi
    rw [hdr, odds] at h0
    rw [← h0]
    by_cases h : ns[j] = i
    · subst h
      simp [hx, hi, rdOf, Int.toNat_natCast]
    · have h' : ¬ i = ns[j] := fun e => h e.symm
      simp [List.getElem?_set_ne h, h']
theorem BitsBack : casematelaw01_BitsBack.Pure := by
  intro l0 l1 _ _ hw _ _ _
  have hb := byt_wf hw
  refine ⟨9000, ?_⟩
  unfold casematelaw01_BitsBack.f
  rw [small_f, Option.bind_some]
  by_cases hn : l0.length ≤ 200 ∧ l1.length ≤ 300
  · obtain ⟨hn, hm⟩ := hn
    rw [if_pos (by simp [hn, hm])]
    rcases places_or l0.length l1 with ⟨ns, h1, h2⟩ | hq
    · have hlt : (turnb l0 ns).length = l0.length := turnb_length _ _
      have hbt := turnb_byt hb ns
      have hap := apart_le l0 (turnb l0 ns)
      have hd : apart l0 (turnb l0 ns) = diffs (odds ns) (8 * l0.length) := by
        unfold apart
        exact diffs_congr fun i _ => by rw [bitAt_turnb h2]; cases bitAt l0 i <;> cases odds ns i <;> rfl
      have huu : turnb (turnb l0 ns) ns = l0 := byt_ext (turnb_byt hbt _) hb (by rw [turnb_length, hlt]) (fun i hi => by
        rw [bitAt_turnb (by rw [hlt]; exact h2), bitAt_turnb h2]; cases bitAt l0 i <;> cases odds ns i <;> rfl)
      rw [b_Turn_ok hb (by omega) (by omega) ns h1 h2 (by omega), Option.bind_some, r1_In_yes (by omega) (by omega) ns h1 h2 (by omega), Option.bind_some, if_pos rfl, if_pos rfl,
        b_Turn_ok hbt (by omega) (by omega) ns h1 (by rw [hlt]; exact h2) (by omega), Option.bind_some, b_Apart_ok hb hbt (by omega) hlt.symm (by omega), Option.bind_some,
        b_Turn_ok hb (by omega) (by rw [ints_length]; omega) (apart l0 (turnb l0 ns)) rfl (apart_lt _ _) (by rw [ints_length]; omega), Option.bind_some, w64 (by omega) (by omega), if_pos (by omega), if_pos (by omega), hd]
      refine back_l0 l1 hm ns h1 h2 hb hbt hn hlt huu (by rw [← hd, turn_apart hb hbt hlt.symm]) (fun i _ => bitAt_turnb h2 i) l1.length 9000 0 _ (by simp; omega) (fun i hi => ?_) (by omega) (by omega)
      simp only [List.getD_eq_getElem?_getD, List.getElem?_replicate, List.drop_zero]
      split <;> simp
    · rw [b_Turn_no (by omega) (by omega) hq (by omega), Option.bind_some, r1_In_no (by omega) (by omega) hq (by omega), Option.bind_some, if_neg (by simp), awake (by omega), Option.bind_some, if_pos rfl, if_pos rfl]
      simp
  · rw [if_neg (by simpa using hn)]
end Go.Proofs.Ytkhhnihcagnbaaa.Pure

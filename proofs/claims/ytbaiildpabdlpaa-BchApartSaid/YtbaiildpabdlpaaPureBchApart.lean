/- The pure statement of the law BchApart: what the printed function of the law comes to is true at every input. No condition. -/
import Derived.Test.YtbaiildpabdlpaaBch
import Derived.Test.YtbaiildpabdlpaaPx16
import Derived.Test.YtbaiildpabdlpaaPx1
set_option linter.unusedVariables false
set_option linter.unusedSimpArgs false
namespace Go.Proofs.Ytbaiildpabdlpaa.Pure
open Go Go.RowKit Go.Proofs.Ytbaiildpabdlpaa.P Go.Proofs.YtbaiildpabdlpaaW.PrintWords Go.Proofs.YtbaiildpabdlpaaW.PrintLast Go.Proofs.YtbaiildpabdlpaaW.PrintMore Go.Proofs.CsM Go.Proofs.Ytbaiildpabdlpaa.L
theorem BchApart : casematelaw05_BchApart.Pure := by
  intro t a b ht ha1 ha2 ha3 hb1 hb2 hb3
  have ha := byt_wf ha3
  have hb := byt_wf hb3
  have hT : Evt fun k => casematelaw05_BchApart.j0 k t a b true = some true := Evt.of 0 fun k hk => by
    obtain ⟨k, rfl⟩ := fuel hk
    rw [casematelaw05_BchApart.j0, if_pos rfl]
  refine Evt.get ?_
  by_cases hs : a.length ≤ 40 ∧ b.length ≤ 40
  · have hsm : casematelaw05_small.f a b = some true := by rw [l_small, decide_eq_true hs]
    by_cases hok : a.length ≠ 0 ∧ a.length = b.length ∧ ¬ (t < 1 ∨ t > 8) ∧ a ≠ b
    · obtain ⟨h0, hl, ht8, hne⟩ := hok
      obtain ⟨u, rfl, u1, u8⟩ := nat_of ht8
      obtain ⟨x, x1, x2⟩ := c_Encode u1 u8 ha (by omega) (by omega)
      obtain ⟨y, y1, y2⟩ := c_Encode u1 u8 hb (by omega) (by omega)
      have wx := x2.wok u1 u8 ha (by omega) (by omega)
      have wy := y2.wok u1 u8 hb (by omega) (by omega)
      have hwl : wl u b = wl u a := by unfold wl; omega
      have hwx := wx.wl_le
      have hap := r5_Apart (wlist_bt u a x).1 (wlist_bt u b y).1 (by rw [wlist_length]; omega) (by rw [wlist_length, wlist_length, hwl])
      rw [(wlist_bt u a x).2, (wlist_bt u b y).2, wlist_length] at hap
      have hfar : 2 * u < cnt (fun j => (wd u a x).c j ^^ (wd u b y).c j) (wl u a) := by
        refine Nat.lt_of_not_le fun hle => hne ?_
        have hcode := code_add (x2.code u8) (by rw [← hwl]; exact y2.code u8)
        have hz := word_far (f := wd u a x + wd u b y) (n := wl u a) (t := u) (by omega) (Bd.add (wd_bd u a x) (by rw [← hwl]; exact wd_bd u b y)) hcode hle
        exact ((wd_inj wx wy hl.symm (r_add_eq_zero.1 hz).symm x2.up y2.up).1).symm
      have hj1 : Evt fun k => casematelaw05_BchApart.j1 k (u : Int) a b x y false = some true := (awake.and ((r5_Word wx).and ((r5_Word wy).and hap))).step fun k ⟨g1, g2, g3, g4⟩ => by
        rw [casematelaw05_BchApart.j1, if_neg (by simp), g1, Option.bind_some, if_pos rfl, g2, Option.bind_some, g3, Option.bind_some, g4, Option.bind_some, w2 u8, decide_eq_true (by omega)]
      have hj0 : Evt fun k => casematelaw05_BchApart.j0 k (u : Int) a b false = some true := (hj1.and (x1.and y1)).step fun k ⟨g1, g2, g3⟩ => by
        rw [casematelaw05_BchApart.j0, if_neg (by simp), g2, Option.bind_some, g3, Option.bind_some, if_pos rfl, if_pos rfl, if_pos (by rw [x2.len, y2.len]), r5_Bytes u8, Option.bind_some, x2.len, show (((mb u : Nat) : Int) != ((mb u : Nat) : Int)) = false from by simp]
        exact g1
      refine hj0.mono fun k g => ?_
      unfold casematelaw05_BchApart.f
      rw [hsm, Option.bind_some, if_pos rfl, if_neg (by omega), if_pos (by omega), if_neg (by omega), if_neg (by omega), str_beq ha hb, decide_eq_false hne]
      exact g
    · refine hT.mono fun k g => ?_
      unfold casematelaw05_BchApart.f
      rw [hsm, Option.bind_some, if_pos rfl]
      by_cases h0 : (a.length : Int) = 0
      · rw [if_pos h0]; exact g
      · rw [if_neg h0]
        by_cases hl : (a.length : Int) = (b.length : Int)
        · rw [if_pos hl]
          by_cases h1 : t < 1
          · rw [if_pos h1]; exact g
          · rw [if_neg h1]
            by_cases h8 : t > 8
            · rw [if_pos h8]; exact g
            · rw [if_neg h8, str_beq ha hb, decide_eq_true (Classical.byContradiction fun e => hok ⟨by omega, by omega, by omega, e⟩)]; exact g
        · rw [if_neg hl]; exact g
  · refine hT.mono fun k g => ?_
    unfold casematelaw05_BchApart.f
    rw [l_small, Option.bind_some, if_neg (by simpa using hs)]
    exact g
end Go.Proofs.Ytbaiildpabdlpaa.Pure

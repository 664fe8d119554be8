/- The pure statement of the law BchSound: what the printed function of the law comes to is true at every input. No condition. -/
import Derived.Test.YtbaiildpabdlpaaBch
import Derived.Test.YtbaiildpabdlpaaPx15
import Derived.Test.YtbaiildpabdlpaaPx1
import Derived.Test.YtbaiildpabdlpaaPx8
import Derived.Test.YtbaiildpabdlpaaPx9
import Derived.Test.YtbaiildpabdlpaaPx14
set_option linter.unusedVariables false
set_option linter.unusedSimpArgs false
namespace Go.Proofs.Ytbaiildpabdlpaa.Pure
open Go Go.RowKit Go.Proofs.Ytbaiildpabdlpaa.P Go.Proofs.YtbaiildpabdlpaaW.PrintWords Go.Proofs.YtbaiildpabdlpaaW.PrintLast Go.Proofs.YtbaiildpabdlpaaW.PrintMore Go.Proofs.CsM Go.Proofs.Ytbaiildpabdlpaa.L
theorem snd_l0 (t : Int) (d m d2 m2 : List Int) (n : Int) (hm : Byt m2) (hl : m2.length ≤ 100) (K : Nat) (hR : ∀ k, K ≤ k → ((casematelaw05_awake.f k).bind fun t416 => (if t416 = true then ((casemateref05_Is.f k t d2 m2).bind fun t417 => (if t417 = true then ((casemateref05_Word.f k t d m).bind fun t418 => ((casemateref05_Word.f k t d2 m2).bind fun t421 => ((casemateref05_Apart.f k t418 t421).bind fun t424 => (some (t424 == n))))) else (some false))) else (some false))) = some true) :
    ∀ (e i k : Nat), i + e = 8 * m2.length → (∀ j, i ≤ j → bitAt m2 j = false) → e + 10 + K < k → casematelaw05_BchSound.l0 k t d m d2 m2 n (i : Int) = some true
  | 0, i, k, hi, hz, hk => by
    obtain ⟨k, rfl⟩ := fuel hk
    have e1 : wrap64 (8 * (m2.length : Int)) = ((8 * m2.length : Nat) : Int) := by rw [w64 (by omega) (by omega)]; omega
    rw [casematelaw05_BchSound.l0, e1, if_neg (by clear e1; omega)]
    exact hR k (by clear e1; omega)
  | e + 1, i, k, hi, hz, hk => by
    obtain ⟨k, rfl⟩ := fuel hk
    have e1 : wrap64 (8 * (m2.length : Int)) = ((8 * m2.length : Nat) : Int) := by rw [w64 (by omega) (by omega)]; omega
    have e2 : wrap64 ((i : Int) + 1) = ((i + 1 : Nat) : Int) := by rw [w64 (by omega) (by omega)]; omega
    rw [casematelaw05_BchSound.l0, e1, if_pos (by clear e1 e2; omega), r1_At hm (by clear e1 e2; omega) (by clear e1 e2; omega) (by clear e1 e2; omega), Option.bind_some, hz i (Nat.le_refl _), if_pos (show b2i false = 0 from rfl), e2]
    exact snd_l0 t d m d2 m2 n hm hl K hR e (i + 1) k (by clear e1 e2; omega) (fun j hj => hz j (by clear e1 e2; omega)) (by clear e1 e2; omega)
theorem BchSound : casematelaw05_BchSound.Pure := by
  intro t d m ht hd1 hd2 hd3 hm1 hm2 hm3
  have hb := byt_wf hd3
  have hbm := byt_wf hm3
  refine Evt.get ?_
  by_cases hs : d.length ≤ 40 ∧ m.length ≤ 40
  · have hsm : casematelaw05_small.f d m = some true := by rw [l_small, decide_eq_true hs]
    by_cases hbad : t < 1 ∨ t > 8 ∨ d.length < 1 ∨ d.length > 512 ∨ m.length ≠ mb t.toNat
    · have hmay : casemateref05_May.f t d (m.length : Int) = some false := by
        by_cases h2 : t < 1 ∨ t > 8 ∨ d.length < 1 ∨ d.length > 512
        · exact r5_May_no h2 _
        · obtain ⟨u, rfl, u1, u8⟩ := nat_of (t := t) (by omega)
          rw [Int.toNat_natCast] at hbad
          rw [r5_May u1 u8 (by omega) (by omega), decide_eq_false (by omega)]
      refine awake.mono fun k h => ?_
      unfold casematelaw05_BchSound.f
      rw [hsm, Option.bind_some, if_pos rfl, Option.bind_some, if_pos (by simp; omega), Option.bind_some, List.nil_append, c_Decode_no hbad k, Option.bind_some]
      dsimp only
      rw [if_pos rfl, hmay, Option.bind_some, if_neg (by simp), h, Option.bind_some, if_pos rfl, if_pos rfl]
      decide +kernel
    · obtain ⟨u, rfl, u1, u8⟩ := nat_of (t := t) (by omega)
      rw [Int.toNat_natCast] at hbad
      have hW : Wok u d m := ⟨u1, u8, hb, hbm, by omega, by omega, by omega⟩
      have hwl := hW.wl_le
      have hmbl := mb_lt u
      have hmay : casemateref05_May.f (u : Int) d (m.length : Int) = some true := by rw [r5_May u1 u8 hW.d1 hW.d512, decide_eq_true hW.ml]
      obtain ⟨c, hA, hcn, hcase⟩ := c_Decode hW
      rcases hcase with ⟨q1, q2, q3, d2, m2, hD, hW2, hl2, hwd2, hup⟩ | ⟨hq, hD⟩
      · have hwl2 : wl u d2 = wl u d := by unfold wl; rw [hl2]
        have hap := r5_Apart (wlist_bt u d m).1 (wlist_bt u d2 m2).1 (by rw [wlist_length]; omega) (by rw [wlist_length, wlist_length, hwl2])
        rw [(wlist_bt u d m).2, (wlist_bt u d2 m2).2, wlist_length, hwd2] at hap
        have hc : cnt (fun j => (wd u d m).c j ^^ (wd u d m + turned c (wl u d)).c j) (wl u d) = cnt (rt c) (wl u d) := cnt_congr fun i hi => by
          rw [add_c]
          show ((wd u d m).c i ^^ ((wd u d m).c i ^^ (decide (i < wl u d) && rt c i))) = rt c i
          rw [decide_eq_true hi, Bool.true_and, ← Bool.xor_assoc, Bool.xor_self, Bool.false_xor]
        rw [hc] at hap
        have hIs := r5_Is hW2 (by rw [hwd2, hwl2]; exact q3)
        obtain ⟨K, hK⟩ := awake.and (hIs.and ((r5_Word hW).and ((r5_Word hW2).and hap)))
        have hl0 := snd_l0 (u : Int) d m d2 m2 ((cnt (rt c) (wl u d) : Nat) : Int) hW2.hm (by have := hW2.ml; omega) K (fun k hk => by
          obtain ⟨g1, g2, g3, g4, g5⟩ := hK k hk
          rw [g1, Option.bind_some, if_pos rfl, g2, Option.bind_some, if_pos rfl, g3, Option.bind_some, g4, Option.bind_some, g5, Option.bind_some]
          simp) (8 * m2.length - 13 * u) (13 * u)
        have hj : Evt fun k => casematelaw05_BchSound.j0 k (u : Int) d m d2 m2 ((cnt (rt c) (wl u d) : Nat) : Int) false = some true := Evt.of (8 * m2.length + 12 + K) fun k hk => by
          obtain ⟨k, rfl⟩ := fuel hk
          rw [casematelaw05_BchSound.j0, if_neg (by simp), w13 u8]
          exact hl0 k (by have := hW2.ml; have := mb_ge u; omega) hup (by omega)
        refine (hD.and hj).mono fun k ⟨g1, g2⟩ => ?_
        unfold casematelaw05_BchSound.f
        rw [hsm, Option.bind_some, if_pos rfl, Option.bind_some, if_pos (by simp; omega), Option.bind_some, List.nil_append, g1, Option.bind_some]
        dsimp only
        rw [if_pos rfl, hmay, Option.bind_some, if_pos rfl, if_pos rfl, if_pos (by rw [hl2]), if_pos (by rw [hW2.ml, hW.ml]), if_neg (by omega), decide_eq_false (by omega)]
        exact g2
      · refine (hD.and awake).mono fun k ⟨g1, g2⟩ => ?_
        unfold casematelaw05_BchSound.f
        rw [hsm, Option.bind_some, if_pos rfl, Option.bind_some, if_pos (by simp; omega), Option.bind_some, List.nil_append, g1, Option.bind_some]
        dsimp only
        rw [if_pos rfl, hmay, Option.bind_some, if_pos rfl, if_neg (by decide), g2, Option.bind_some, if_pos rfl, if_pos rfl]
        decide +kernel
  · refine Evt.all fun k => ?_
    unfold casematelaw05_BchSound.f
    rw [l_small, Option.bind_some, if_neg (by simpa using hs)]
end Go.Proofs.Ytbaiildpabdlpaa.Pure

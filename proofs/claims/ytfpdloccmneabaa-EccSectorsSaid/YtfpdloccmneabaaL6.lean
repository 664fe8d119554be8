/- What the functions of layer 6 (ecc) and of its reference come to. Conditions: geometries that may be, rows of bytes. -/
import Derived.Test.YtfpdloccmneabaaL5b
import Derived.Test.YtfpdloccmneabaaPx0
import Derived.Test.YtfpdloccmneabaaPx6
import Derived.Test.YtfpdloccmneabaaPx10
import Derived.Test.YtfpdloccmneabaaPx20
set_option linter.unusedVariables false
set_option linter.unusedSimpArgs false
namespace Go.Proofs.Ytfpdloccmneabaa.L
open Go Go.RowKit Go.Proofs.Ytfpdloccmneabaa.P Go.Proofs.YtfpdloccmneabaaW.PrintWords Go.Proofs.YtfpdloccmneabaaW.PrintLast Go.Proofs.YtfpdloccmneabaaW.PrintMore Go.Proofs.CsM
/-- May a geometry be? -/
def MayI (a b s n t : Int) : Prop := (1 ≤ a ∧ a ≤ 256) ∧ (2 ≤ b ∧ b ≤ 64) ∧ (1 ≤ s ∧ s ≤ 8) ∧ (4 ≤ n ∧ n ≤ 512) ∧ Int.tmod n 4 = 0 ∧ (1 ≤ t ∧ t ≤ 8) ∧ 16 ≤ s * n
instance (a b s n t : Int) : Decidable (MayI a b s n t) := by unfold MayI; infer_instance
theorem sn_w {s n : Int} (hs : 1 ≤ s ∧ s ≤ 8) (hn : 4 ≤ n ∧ n ≤ 512) : wrap64 (s * n) = s * n ∧ 4 ≤ s * n ∧ s * n ≤ 4096 := by
  have h : s = 1 ∨ s = 2 ∨ s = 3 ∨ s = 4 ∨ s = 5 ∨ s = 6 ∨ s = 7 ∨ s = 8 := by omega
  rcases h with rfl | rfl | rfl | rfl | rfl | rfl | rfl | rfl <;> exact ⟨w64 (by omega) (by omega), by omega, by omega⟩
theorem c_within (x l h : Int) : ecc_within.f x l h = some (decide (l ≤ x ∧ x ≤ h)) := by
  unfold ecc_within.f
  by_cases h1 : l ≤ x
  · rw [if_pos (show x ≥ l from h1)]; congr 1; exact decide_eq_decide.2 ⟨fun h => ⟨h1, h⟩, fun h => h.2⟩
  · rw [if_neg (show ¬ x ≥ l from h1), decide_eq_false (fun h => h1 h.1)]
theorem c_Check (a b s n t : Int) : ecc_Check.f a b s n t = some (if MayI a b s n t then 0 else 1) := by
  unfold ecc_Check.f
  simp only [c_within, Option.bind_some, decide_eq_true_eq]
  by_cases h1 : 1 ≤ a ∧ a ≤ 256
  · rw [if_pos h1]
    by_cases h2 : 2 ≤ b ∧ b ≤ 64
    · rw [if_pos h2]
      by_cases h3 : 1 ≤ s ∧ s ≤ 8
      · rw [if_pos h3]
        by_cases h4 : 4 ≤ n ∧ n ≤ 512
        · rw [if_pos h4]
          by_cases h5 : Int.tmod n 4 = 0
          · rw [if_pos h5]
            by_cases h6 : 1 ≤ t ∧ t ≤ 8
            · rw [if_pos h6, (sn_w h3 h4).1]
              by_cases h7 : 16 ≤ s * n
              · rw [if_pos h7, if_pos ⟨h1, h2, h3, h4, h5, h6, h7⟩]
              · rw [if_neg h7, if_neg (fun h => h7 h.2.2.2.2.2.2)]
            · rw [if_neg h6, if_neg (fun h => h6 h.2.2.2.2.2.1)]
          · rw [if_neg h5, if_neg (fun h => h5 h.2.2.2.2.1)]
        · rw [if_neg h4, if_neg (fun h => h4 h.2.2.2.1)]
      · rw [if_neg h3, if_neg (fun h => h3 h.2.2.1)]
    · rw [if_neg h2, if_neg (fun h => h2 h.2.1)]
  · rw [if_neg h1, if_neg (fun h => h1 h.1)]
theorem r6_two {x : Option Bool} {p q : Prop} [Decidable p] [Decidable q] : (if p then (if q then x else some false) else some false) = if p ∧ q then x else some false := by
  by_cases h : p
  · by_cases h2 : q
    · rw [if_pos h, if_pos h2, if_pos ⟨h, h2⟩]
    · rw [if_pos h, if_neg h2, if_neg (fun h => h2 h.2)]
  · rw [if_neg h, if_neg (fun h2 => h h2.1)]
theorem r6_May (a b s n t : Int) : casemateref06_May.f a b s n t = some (decide (MayI a b s n t)) := by
  unfold casemateref06_May.f
  by_cases h1 : 1 ≤ a ∧ a ≤ 256
  · rw [if_pos (show a ≥ 1 from h1.1), if_pos h1.2]
    by_cases h2 : 2 ≤ b ∧ b ≤ 64
    · rw [if_pos (show b ≥ 2 from h2.1), if_pos h2.2]
      by_cases h3 : 1 ≤ s ∧ s ≤ 8
      · rw [if_pos (show s ≥ 1 from h3.1), if_pos h3.2]
        by_cases h4 : 4 ≤ n ∧ n ≤ 512
        · rw [if_pos (show n ≥ 4 from h4.1), if_pos h4.2]
          by_cases h5 : Int.tmod n 4 = 0
          · rw [if_pos h5]
            by_cases h6 : 1 ≤ t ∧ t ≤ 8
            · rw [if_pos (show t ≥ 1 from h6.1), if_pos h6.2, (sn_w h3 h4).1]
              congr 1
              exact decide_eq_decide.2 ⟨fun h => ⟨h1, h2, h3, h4, h5, h6, h⟩, fun h => h.2.2.2.2.2.2⟩
            · rw [r6_two, if_neg h6, decide_eq_false (fun h => h6 h.2.2.2.2.2.1)]
          · rw [if_neg h5, decide_eq_false (fun h => h5 h.2.2.2.2.1)]
        · rw [r6_two, if_neg h4, decide_eq_false (fun h => h4 h.2.2.2.1)]
      · rw [r6_two, if_neg h3, decide_eq_false (fun h => h3 h.2.2.1)]
    · rw [r6_two, if_neg h2, decide_eq_false (fun h => h2 h.2.1)]
  · rw [r6_two, if_neg h1, decide_eq_false (fun h => h1 h.1)]
/-- A geometry that may be, in natural numbers. -/
structure Geo (a b s n t : Nat) : Prop where
  may : MayI (a : Int) (b : Int) (s : Int) (n : Int) (t : Int)
  s1 : 1 ≤ s
  s8 : s ≤ 8
  n4 : 4 ≤ n
  n512 : n ≤ 512
  t1 : 1 ≤ t
  t8 : t ≤ 8
theorem MayI.geo {a b s n t : Int} (h : MayI a b s n t) : ∃ a' b' s' n' t' : Nat, a = a' ∧ b = b' ∧ s = s' ∧ n = n' ∧ t = t' ∧ Geo a' b' s' n' t' := by
  obtain ⟨h1, h2, h3, h4, h5, h6, h7⟩ := h
  refine ⟨a.toNat, b.toNat, s.toNat, n.toNat, t.toNat, by omega, by omega, by omega, by omega, by omega, ⟨?_, by omega, by omega, by omega, by omega, by omega, by omega⟩⟩
  rw [Int.toNat_of_nonneg (by omega), Int.toNat_of_nonneg (by omega), Int.toNat_of_nonneg (by omega), Int.toNat_of_nonneg (by omega), Int.toNat_of_nonneg (by omega)]
  exact ⟨h1, h2, h3, h4, h5, h6, h7⟩
/-- A sector's raw bytes. -/
def wh (n t : Nat) : Nat := n + mb t
theorem mul8 {s m x : Nat} (hs : s ≤ 8) (hm : m ≤ x) : s * m ≤ 8 * x := Nat.mul_le_mul hs hm
theorem Geo.mb_le {a b s n t : Nat} (g : Geo a b s n t) : mb t ≤ 13 ∧ 2 ≤ mb t := by have := g.t8; have := g.t1; unfold mb; omega
theorem Geo.wh_le {a b s n t : Nat} (g : Geo a b s n t) : wh n t ≤ 525 ∧ 6 ≤ wh n t := by have := g.mb_le; have := g.n512; have := g.n4; unfold wh; omega
theorem Geo.sw {a b s n t : Nat} (g : Geo a b s n t) : s * wh n t ≤ 4200 := mul8 g.s8 g.wh_le.1
theorem Geo.sn {a b s n t : Nat} (g : Geo a b s n t) : s * n ≤ 4096 := mul8 g.s8 g.n512
theorem Geo.iw {a b s n t i : Nat} (g : Geo a b s n t) (h : i ≤ s) : i * wh n t ≤ s * wh n t := Nat.mul_le_mul_right _ h
theorem mulw {i m : Nat} (h : i * m ≤ 1000000) : wrap64 ((i : Int) * (m : Int)) = ((i * m : Nat) : Int) := by
  rw [← Int.natCast_mul, w64 (by omega) (by omega)]
theorem Geo.room {a b s n t : Nat} (g : Geo a b s n t) : ecc_Room.f a b s n t = some (((s * n : Nat) : Int), 0) := by
  unfold ecc_Room.f
  rw [c_Check, Option.bind_some, if_pos g.may, if_pos rfl, mulw (by have := g.sn; omega)]
theorem Geo.r_room {a b s n t : Nat} (g : Geo a b s n t) : casemateref06_Room.f a b s n t = some ((s * n : Nat) : Int) := by
  unfold casemateref06_Room.f
  rw [mulw (by have := g.sn; omega)]
theorem Geo.r_whole {a b s n t : Nat} (g : Geo a b s n t) : casemateref06_Whole.f a b s n t = some (wh n t : Int) := by
  have := g.wh_le
  unfold wh at this
  unfold casemateref06_Whole.f
  rw [r5_Bytes g.t8, Option.bind_some, cst_add (by omega)]; rfl
theorem Geo.whole {a b s n t : Nat} (g : Geo a b s n t) : ecc_whole.f a b s n t = some (wh n t : Int) := by
  have h8 := g.t8
  have h5 := g.n512
  unfold ecc_whole.f
  rw [c_Bits g.t1 g.t8, Option.bind_some]
  dsimp only
  have e1 : wrap64 (((13 * t : Nat) : Int) + 7) = ((13 * t + 7 : Nat) : Int) := by rw [w64 (by omega) (by omega)]; omega
  have e2 : wrap64 (Int.tdiv ((13 * t + 7 : Nat) : Int) 8) = ((mb t : Nat) : Int) := by
    have : Int.tdiv ((13 * t + 7 : Nat) : Int) 8 = (((13 * t + 7) / 8 : Nat) : Int) := by rw [Int.tdiv_eq_ediv_of_nonneg (by omega)]; omega
    rw [this, w64 (by omega) (by omega)]; rfl
  rw [e1, e2, cst_add (by have := g.mb_le; omega)]; rfl
theorem Geo.raw {a b s n t : Nat} (g : Geo a b s n t) : ecc_Raw.f a b s n t = some (((s * wh n t + 1 : Nat) : Int), 0) := by
  have h := g.sw
  unfold ecc_Raw.f
  rw [c_Check, Option.bind_some, if_pos g.may, if_pos rfl, g.whole, Option.bind_some, mulw (by omega), w64 (by omega) (by omega)]; rfl
theorem Geo.r_raw {a b s n t : Nat} (g : Geo a b s n t) : casemateref06_Raw.f a b s n t = some ((s * wh n t + 1 : Nat) : Int) := by
  have h := g.sw
  unfold casemateref06_Raw.f
  rw [g.r_whole, Option.bind_some, mulw (by omega), w64 (by omega) (by omega)]; rfl
/-- The more bytes of a sector's data. -/
noncomputable def encm (t : Nat) (d : List Int) : List Int := open Classical in if h : ∃ m, (Evt fun k => bch_Encode.f k (t : Int) d = some (m, 0)) ∧ Enc t d m then Classical.choose h else []
theorem encm_is {t : Nat} (h1 : 1 ≤ t) (h8 : t ≤ 8) {d : List Int} (hd : Byt d) (hd1 : 1 ≤ d.length) (hd2 : d.length ≤ 512) : (Evt fun k => bch_Encode.f k (t : Int) d = some (encm t d, 0)) ∧ Enc t d (encm t d) := by
  have h := c_Encode h1 h8 hd hd1 hd2
  unfold encm
  rw [dif_pos h]
  exact Classical.choose_spec h
/-- What data are packed into, but for the mark. -/
noncomputable def pk (t n : Nat) : Nat → List Int → List Int
  | 0, _ => []
  | s + 1, d => d.take n ++ encm t (d.take n) ++ pk t n s (d.drop n)
theorem succ_n {s n l : Nat} (h : l = (s + 1) * n) : n ≤ l ∧ l - n = s * n := by rw [Nat.succ_mul] at h; omega
/-- The first sector's data. -/
theorem first {n s : Nat} {d : List Int} (hn : 4 ≤ n) (h : d.length = (s + 1) * n) : (d.take n).length = n ∧ (d.drop n).length = s * n := by
  have := succ_n h
  rw [List.length_take, List.length_drop]; omega
theorem Geo.enc {a b s n t : Nat} (g : Geo a b s n t) {d : List Int} (hd : Byt d) (hl : d.length = n) : (Evt fun k => bch_Encode.f k (t : Int) d = some (encm t d, 0)) ∧ Enc t d (encm t d) := encm_is g.t1 g.t8 hd (by have := g.n4; omega) (by have := g.n512; omega)
theorem Geo.pk_length {a b s n t : Nat} (g : Geo a b s n t) : ∀ (m : Nat) (d : List Int), Byt d → d.length = m * n → (pk t n m d).length = m * wh n t ∧ Byt (pk t n m d)
  | 0, d, hd, hl => by rw [Nat.zero_mul]; exact ⟨rfl, Byt.nil⟩
  | m + 1, d, hd, hl => by
    obtain ⟨h1, h2⟩ := first g.n4 hl
    obtain ⟨ih1, ih2⟩ := g.pk_length m (d.drop n) (hd.drop n) h2
    have he := (g.enc (hd.take n) h1).2
    rw [pk, List.length_append, List.length_append, h1, he.len, ih1, Nat.succ_mul]
    exact ⟨by unfold wh; omega, ((hd.take n).append he.byt).append ih2⟩
theorem Geo.pk_seg {a b s n t : Nat} (g : Geo a b s n t) : ∀ (m : Nat) (d : List Int), Byt d → d.length = m * n → ∀ (i : Nat), i < m → ∀ r : List Int, ((pk t n m d ++ r).drop (i * wh n t)).take (wh n t) = (d.drop (i * n)).take n ++ encm t ((d.drop (i * n)).take n)
  | 0, d, hd, hl, i, hi, r => absurd hi (Nat.not_lt_zero _)
  | m + 1, d, hd, hl, 0, hi, r => by
    obtain ⟨h1, h2⟩ := first g.n4 hl
    have he := (g.enc (hd.take n) h1).2
    rw [Nat.zero_mul, Nat.zero_mul, List.drop_zero, List.drop_zero, pk, List.append_assoc, List.take_append_of_le_length (by rw [List.length_append, h1, he.len]; exact Nat.le_refl _), List.take_of_length_le (by rw [List.length_append, h1, he.len]; exact Nat.le_refl _)]
  | m + 1, d, hd, hl, i + 1, hi, r => by
    obtain ⟨h1, h2⟩ := first g.n4 hl
    have he := (g.enc (hd.take n) h1).2
    have ih := g.pk_seg m (d.drop n) (hd.drop n) h2 i (by omega) r
    rw [List.drop_drop, show n + i * n = (i + 1) * n from by rw [Nat.succ_mul]; omega] at ih
    rw [← ih, pk, List.append_assoc, show (i + 1) * wh n t = (d.take n ++ encm t (d.take n)).length + i * wh n t from by rw [List.length_append, h1, he.len, Nat.succ_mul]; unfold wh; omega, ← List.drop_drop, List.drop_left]
theorem Geo.pack_l0 {a b s n t : Nat} (g : Geo a b s n t) : ∀ (m : Nat) (d acc : List Int), Byt d → d.length = m * n → acc.length + m * wh n t ≤ 1000000 → Evt fun k => ecc_Pack.l0 k d acc a b s n t = some (acc ++ pk t n m d ++ [0], 0)
  | 0, d, acc, hd, hl, hb => Evt.of 0 fun k hk => by
    obtain ⟨k, rfl⟩ := fuel hk
    rw [Nat.zero_mul] at hl hb
    rw [ecc_Pack.l0, if_neg (by omega), if_pos (by omega), pk, List.append_nil]
  | m + 1, d, acc, hd, hl, hb => by
    obtain ⟨h1, h2⟩ := first g.n4 hl
    have hs := succ_n hl
    have he := g.enc (hd.take n) h1
    have hn := g.n4
    rw [Nat.succ_mul] at hb
    have hwd : wh n t = n + mb t := rfl
    have hl2 : (acc ++ d.take n ++ encm t (d.take n)).length = acc.length + wh n t := by rw [List.length_append, List.length_append, h1, he.2.len, hwd]; omega
    refine (he.1.and (g.pack_l0 m (d.drop n) (acc ++ d.take n ++ encm t (d.take n)) (hd.drop n) h2 (by rw [hl2]; omega))).step fun k ⟨q1, q2⟩ => ?_
    rw [ecc_Pack.l0, if_pos (by omega), if_pos (by omega), if_pos (by omega), Int.toNat_natCast, Option.bind_some, q1, Option.bind_some, if_pos (by rw [h1]; omega), Option.bind_some]
    dsimp only
    rw [if_pos (by rw [List.length_append, h1, he.2.len]; omega), q2, pk]
    simp only [List.append_assoc]
theorem Geo.pack {a b s n t : Nat} (g : Geo a b s n t) {d : List Int} (hd : Byt d) (hl : d.length = s * n) : Evt fun k => ecc_Pack.f k a b s n t d = some (pk t n s d ++ [0], 0) := by
  have hw := g.sw
  have h0 : Evt fun k => ecc_Pack.j0 k d false a b s n t = some (pk t n s d ++ [0], 0) := (g.pack_l0 s d [] hd hl (by rw [List.length_nil]; omega)).step fun k h => by
    rw [ecc_Pack.j0, if_neg (by decide)]; exact h
  refine h0.mono fun k h => ?_
  unfold ecc_Pack.f
  rw [g.room, Option.bind_some, if_pos rfl, show ((d.length : Int) != ((s * n : Nat) : Int)) = false from by rw [hl]; simp]
  exact h
end Go.Proofs.Ytfpdloccmneabaa.L

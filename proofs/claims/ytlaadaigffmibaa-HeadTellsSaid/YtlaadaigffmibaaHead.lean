/- Lemmas for the laws of layer 9: which geometries may be, room, pages, a head's page, numbers of four bytes. -/
import Derived.Test.YtlaadaigffmibaaL1
import Derived.Test.YtlaadaigffmibaaPx0
import Derived.Test.YtlaadaigffmibaaPx2
import Derived.Test.YtlaadaigffmibaaPx3
import Derived.Test.YtlaadaigffmibaaPx4
import Derived.Test.YtlaadaigffmibaaPx5
import Derived.Test.YtlaadaigffmibaaPx6
import Derived.Test.YtlaadaigffmibaaPx7
import Derived.Test.YtlaadaigffmibaaPx9
set_option linter.unusedVariables false
set_option linter.unusedSimpArgs false
namespace Go.Proofs.Ytlaadaigffmibaa.Pure
open Go Go.RowKit Go.Proofs.Ytlaadaigffmibaa.P Go.Proofs.YtlaadaigffmibaaW.PrintWords Go.Proofs.YtlaadaigffmibaaW.PrintLast Go.Proofs.YtlaadaigffmibaaW.PrintMore Go.Proofs.CsM Go.Proofs.Ytlaadaigffmibaa.L

/-- May a geometry be? -/
def GOK (g0 g1 g2 g3 g4 : Int) : Prop := (1 ≤ g0 ∧ g0 ≤ 256) ∧ (2 ≤ g1 ∧ g1 ≤ 64) ∧ (1 ≤ g2 ∧ g2 ≤ 8) ∧ (4 ≤ g3 ∧ g3 ≤ 512) ∧ g3 % 4 = 0 ∧ (1 ≤ g4 ∧ g4 ≤ 8) ∧ 16 ≤ g2 * g3
instance (g0 g1 g2 g3 g4 : Int) : Decidable (GOK g0 g1 g2 g3 g4) := by unfold GOK; exact inferInstance
theorem room_bd {a b : Int} (h1 : 1 ≤ a) (h2 : a ≤ 8) (h3 : 4 ≤ b) (h4 : b ≤ 512) : 4 ≤ a * b ∧ a * b ≤ 4096 := by
  have e1 := Int.mul_le_mul h1 h3 (by omega) (by omega)
  have e2 := Int.mul_le_mul h2 h4 (by omega) (by omega)
  omega
theorem room_w {a b : Int} (h1 : 1 ≤ a) (h2 : a ≤ 8) (h3 : 4 ≤ b) (h4 : b ≤ 512) : wrap64 (a * b) = a * b := by
  have := room_bd h1 h2 h3 h4
  exact w64 (by omega) (by omega)
theorem within (n lo hi : Int) : ecc_within.f n lo hi = some (decide (lo ≤ n ∧ n ≤ hi)) := by
  unfold ecc_within.f
  by_cases h : lo ≤ n
  · rw [if_pos h]; simp [h]
  · rw [if_neg (by omega)]; simp [h]
theorem check (g0 g1 g2 g3 g4 : Int) : ecc_Check.f g0 g1 g2 g3 g4 = some (if GOK g0 g1 g2 g3 g4 then 0 else 1) := by
  unfold ecc_Check.f
  simp only [within, Option.bind_some, decide_eq_true_eq]
  by_cases h0 : 1 ≤ g0 ∧ g0 ≤ 256
  · rw [if_pos h0]
    by_cases h1 : 2 ≤ g1 ∧ g1 ≤ 64
    · rw [if_pos h1]
      by_cases h2 : 1 ≤ g2 ∧ g2 ≤ 8
      · rw [if_pos h2]
        by_cases h3 : 4 ≤ g3 ∧ g3 ≤ 512
        · rw [if_pos h3, tmd 4 (by omega)]
          by_cases h4 : g3 % 4 = 0
          · rw [if_pos h4]
            by_cases h5 : 1 ≤ g4 ∧ g4 ≤ 8
            · rw [if_pos h5, room_w h2.1 h2.2 h3.1 h3.2]
              by_cases h6 : g2 * g3 ≥ 16
              · rw [if_pos h6, if_pos ⟨h0, h1, h2, h3, h4, h5, h6⟩]
              · rw [if_neg h6, if_neg fun h => h6 h.2.2.2.2.2.2]
            · rw [if_neg h5, if_neg fun h => h5 h.2.2.2.2.2.1]
          · rw [if_neg h4, if_neg fun h => h4 h.2.2.2.2.1]
        · rw [if_neg h3, if_neg fun h => h3 h.2.2.2.1]
      · rw [if_neg h2, if_neg fun h => h2 h.2.2.1]
    · rw [if_neg h1, if_neg fun h => h1 h.2.1]
  · rw [if_neg h0, if_neg fun h => h0 h.1]
theorem may6 (g0 g1 g2 g3 g4 : Int) : casemateref06_May.f g0 g1 g2 g3 g4 = some (decide (GOK g0 g1 g2 g3 g4)) := by
  unfold casemateref06_May.f
  have no : ¬ GOK g0 g1 g2 g3 g4 → some false = some (decide (GOK g0 g1 g2 g3 g4)) := fun h => by rw [decide_eq_false h]
  by_cases h0 : g0 ≥ 1
  case neg => rw [if_neg h0]; exact no fun h => h0 h.1.1
  rw [if_pos h0]
  by_cases h1 : g0 ≤ 256
  case neg => rw [if_neg h1]; exact no fun h => h1 h.1.2
  rw [if_pos h1]
  by_cases h2 : g1 ≥ 2
  case neg => rw [if_neg h2]; exact no fun h => h2 h.2.1.1
  rw [if_pos h2]
  by_cases h3 : g1 ≤ 64
  case neg => rw [if_neg h3]; exact no fun h => h3 h.2.1.2
  rw [if_pos h3]
  by_cases h4 : g2 ≥ 1
  case neg => rw [if_neg h4]; exact no fun h => h4 h.2.2.1.1
  rw [if_pos h4]
  by_cases h5 : g2 ≤ 8
  case neg => rw [if_neg h5]; exact no fun h => h5 h.2.2.1.2
  rw [if_pos h5]
  by_cases h6 : g3 ≥ 4
  case neg => rw [if_neg h6]; exact no fun h => h6 h.2.2.2.1.1
  rw [if_pos h6]
  by_cases h7 : g3 ≤ 512
  case neg => rw [if_neg h7]; exact no fun h => h7 h.2.2.2.1.2
  rw [if_pos h7, tmd 4 (by omega)]
  by_cases h8 : g3 % 4 = 0
  case neg => rw [if_neg h8]; exact no fun h => h8 h.2.2.2.2.1
  rw [if_pos h8]
  by_cases h9 : g4 ≥ 1
  case neg => rw [if_neg h9]; exact no fun h => h9 h.2.2.2.2.2.1.1
  rw [if_pos h9]
  by_cases h10 : g4 ≤ 8
  case neg => rw [if_neg h10]; exact no fun h => h10 h.2.2.2.2.2.1.2
  rw [if_pos h10, room_w h4 h5 h6 h7]
  by_cases h11 : g2 * g3 ≥ 16
  · rw [decide_eq_true h11, decide_eq_true (show GOK g0 g1 g2 g3 g4 from ⟨⟨h0, h1⟩, ⟨h2, h3⟩, ⟨h4, h5⟩, ⟨h6, h7⟩, h8, ⟨h9, h10⟩, h11⟩)]
  · rw [decide_eq_false h11]; exact no fun h => h11 h.2.2.2.2.2.2
section
variable {g0 g1 g2 g3 g4 : Int}
theorem GOK.rb (h : GOK g0 g1 g2 g3 g4) : 16 ≤ g2 * g3 ∧ g2 * g3 ≤ 4096 := ⟨h.2.2.2.2.2.2, (room_bd h.2.2.1.1 h.2.2.1.2 h.2.2.2.1.1 h.2.2.2.1.2).2⟩
theorem GOK.w (h : GOK g0 g1 g2 g3 g4) : wrap64 (g2 * g3) = g2 * g3 := room_w h.2.2.1.1 h.2.2.1.2 h.2.2.2.1.1 h.2.2.2.1.2
theorem room_f (h : GOK g0 g1 g2 g3 g4) : ecc_Room.f g0 g1 g2 g3 g4 = some (g2 * g3, 0) := by
  unfold ecc_Room.f
  rw [check, if_pos h, Option.bind_some, if_pos rfl, h.w]
theorem room_no (h : ¬ GOK g0 g1 g2 g3 g4) : ecc_Room.f g0 g1 g2 g3 g4 = some (0, 1) := by
  unfold ecc_Room.f
  rw [check, if_neg h, Option.bind_some, if_neg (by decide)]
theorem room6 (h : GOK g0 g1 g2 g3 g4) : casemateref06_Room.f g0 g1 g2 g3 g4 = some (g2 * g3) := by unfold casemateref06_Room.f; rw [h.w]
/-- Room for a logical block. -/
def capN (g1 g2 g3 : Int) : Int := (g1 - 1) * (g2 * g3)
theorem cap_bd (h : GOK g0 g1 g2 g3 g4) : 16 ≤ capN g1 g2 g3 ∧ capN g1 g2 g3 ≤ 258048 := by
  have hr := h.rb
  have hg := h.2.1
  unfold capN
  have e1 := Int.mul_le_mul (show (1 : Int) ≤ g1 - 1 by omega) hr.1 (by omega) (by omega)
  have e2 := Int.mul_le_mul (show g1 - 1 ≤ 63 by omega) hr.2 (by omega) (by omega)
  omega
theorem cap_f (h : GOK g0 g1 g2 g3 g4) : head_Cap.f g0 g1 g2 g3 g4 = some (capN g1 g2 g3, 0) := by
  unfold head_Cap.f
  have hb := cap_bd h
  have hg := h.2.1
  rw [room_f h, Option.bind_some, w64 (n := g1 - 1) (by omega) (by omega), show mx (g1 - 1) 0 = g1 - 1 from by unfold mx; rw [if_neg (by omega)]]
  simp only
  unfold capN at hb ⊢
  rw [w64 (by omega) (by omega)]
theorem cap_no (h : ¬ GOK g0 g1 g2 g3 g4) : head_Cap.f g0 g1 g2 g3 g4 = some (0, 1) := by
  unfold head_Cap.f
  rw [room_no h, Option.bind_some]
  simp only [Int.mul_zero]
  rw [w64 (by omega) (by omega)]
theorem cap9 (h : GOK g0 g1 g2 g3 g4) : casemateref09_Cap.f g0 g1 g2 g3 g4 = some (capN g1 g2 g3) := by
  unfold casemateref09_Cap.f
  have hb := cap_bd h
  have hg := h.2.1
  rw [room6 h, Option.bind_some, w64 (n := g1 - 1) (by omega) (by omega)]
  unfold capN at hb ⊢
  rw [w64 (by omega) (by omega)]
/-- How many pages. -/
def pagesN (g2 g3 b : Int) : Int := (b + g2 * g3 - 1) / (g2 * g3)
theorem pages_f (h : GOK g0 g1 g2 g3 g4) (b : Int) : head_Pages.f g0 g1 g2 g3 g4 b = some (if 0 ≤ b ∧ b ≤ capN g1 g2 g3 then (pagesN g2 g3 b, 0) else (0, 1)) := by
  unfold head_Pages.f
  have hb := cap_bd h
  have hr := h.rb
  rw [cap_f h, Option.bind_some, if_pos rfl]
  by_cases h0 : b < 0
  · rw [if_pos h0, if_neg (by omega)]
  · rw [if_neg h0]
    by_cases h1 : b > capN g1 g2 g3
    · simp only
      rw [if_pos h1, if_neg (by omega)]
    · simp only
      rw [if_neg h1, if_pos (by omega), room_f h, Option.bind_some]
      simp only
      rw [if_neg (by omega), w64 (n := b + g2 * g3) (by omega) (by omega), w64 (n := b + g2 * g3 - 1) (by omega) (by omega), tdv _ (by omega)]
      unfold pagesN
      have e1 : 0 ≤ (b + g2 * g3 - 1) / (g2 * g3) := Int.ediv_nonneg (by omega) (by omega)
      have e2 : (b + g2 * g3 - 1) / (g2 * g3) ≤ b + g2 * g3 - 1 := Int.ediv_le_self _ (by omega)
      rw [w64 (by omega) (by omega)]
theorem pages_no (h : ¬ GOK g0 g1 g2 g3 g4) (b : Int) : head_Pages.f g0 g1 g2 g3 g4 b = some (0, 1) := by
  unfold head_Pages.f
  rw [cap_no h, Option.bind_some, if_neg (by decide)]
theorem pagesN_bd {r b : Int} (hr : 0 < r) (hb : 0 ≤ b) : 0 ≤ (b + r - 1) / r ∧ b ≤ (b + r - 1) / r * r ∧ ((b + r - 1) / r = 0 ∨ ((b + r - 1) / r - 1) * r < b) := by
  have e1 : 0 ≤ (b + r - 1) / r := Int.ediv_nonneg (by omega) (by omega)
  have e2 := Int.mul_ediv_add_emod (b + r - 1) r
  have e3 := Int.emod_lt_of_pos (b + r - 1) hr
  have e4 := Int.emod_nonneg (b + r - 1) (show r ≠ 0 by omega)
  have e5 : (b + r - 1) / r * r = r * ((b + r - 1) / r) := Int.mul_comm _ _
  have e6 : ((b + r - 1) / r - 1) * r = r * ((b + r - 1) / r) - r := by rw [Int.sub_mul, Int.one_mul, e5]
  refine ⟨e1, by rw [e5]; omega, .inr (by rw [e6]; omega)⟩
/-- May a head be? -/
def HOK (g1 g2 g3 h0 h1 h2 : Int) : Prop := (0 ≤ h0 ∧ h0 < 64) ∧ (0 ≤ h1 ∧ h1 ≤ capN g1 g2 g3) ∧ (1 ≤ h2 ∧ h2 ≤ 1000000000)
instance (g1 g2 g3 h0 h1 h2 : Int) : Decidable (HOK g1 g2 g3 h0 h1 h2) := by unfold HOK; exact inferInstance
theorem may_f (h : GOK g0 g1 g2 g3 g4) (h0 h1 h2 : Int) : head_may.f g0 g1 g2 g3 g4 h0 h1 h2 = some (decide (HOK g1 g2 g3 h0 h1 h2)) := by
  unfold head_may.f
  have no : ¬ HOK g1 g2 g3 h0 h1 h2 → some false = some (decide (HOK g1 g2 g3 h0 h1 h2)) := fun h => by rw [decide_eq_false h]
  rw [pages_f h, Option.bind_some]
  by_cases e1 : 0 ≤ h1 ∧ h1 ≤ capN g1 g2 g3
  case neg => rw [if_neg e1, if_neg (by decide)]; exact no fun h => e1 h.2.1
  rw [if_pos e1, if_pos rfl]
  by_cases e2 : h0 ≥ 0
  case neg => rw [if_neg e2]; exact no fun h => e2 h.1.1
  rw [if_pos e2]
  by_cases e3 : h0 < 64
  case neg => rw [if_neg e3]; exact no fun h => e3 h.1.2
  rw [if_pos e3]
  by_cases e4 : h2 ≥ 1
  case neg => rw [if_neg e4]; exact no fun h => e4 h.2.2.1
  rw [if_pos e4]
  by_cases e5 : h2 ≤ 1000000000
  · rw [decide_eq_true e5, decide_eq_true (show HOK g1 g2 g3 h0 h1 h2 from ⟨⟨e2, e3⟩, e1, e4, e5⟩)]
  · rw [decide_eq_false e5]; exact no fun h => e5 h.2.2.2
theorem may_no (h : ¬ GOK g0 g1 g2 g3 g4) (h0 h1 h2 : Int) : head_may.f g0 g1 g2 g3 g4 h0 h1 h2 = some false := by
  unfold head_may.f
  rw [pages_no h, Option.bind_some, if_neg (by decide)]
theorem may9 (h : GOK g0 g1 g2 g3 g4) (h0 h1 h2 : Int) : casemateref09_May.f g0 g1 g2 g3 g4 h0 h1 h2 = some (decide (HOK g1 g2 g3 h0 h1 h2)) := by
  unfold casemateref09_May.f
  have no : ¬ HOK g1 g2 g3 h0 h1 h2 → some false = some (decide (HOK g1 g2 g3 h0 h1 h2)) := fun h => by rw [decide_eq_false h]
  by_cases e2 : h0 ≥ 0
  case neg => rw [if_neg e2]; exact no fun h => e2 h.1.1
  rw [if_pos e2]
  by_cases e3 : h0 < 64
  case neg => rw [if_neg e3]; exact no fun h => e3 h.1.2
  rw [if_pos e3]
  by_cases e1 : h1 ≥ 0
  case neg => rw [if_neg e1]; exact no fun h => e1 h.2.1.1
  rw [if_pos e1, cap9 h, Option.bind_some]
  by_cases e6 : h1 ≤ capN g1 g2 g3
  case neg => rw [if_neg e6]; exact no fun h => e6 h.2.1.2
  rw [if_pos e6]
  by_cases e4 : h2 ≥ 1
  case neg => rw [if_neg e4]; exact no fun h => e4 h.2.2.1
  rw [if_pos e4]
  by_cases e5 : h2 ≤ 1000000000
  · rw [decide_eq_true e5, decide_eq_true (show HOK g1 g2 g3 h0 h1 h2 from ⟨⟨e2, e3⟩, ⟨e1, e6⟩, e4, e5⟩)]
  · rw [decide_eq_false e5]; exact no fun h => e5 h.2.2.2
end

/-! ### the page -/
theorem layB_byt (n : Int) : Byt (layB n) := fun x hx => by
  simp only [layB, List.mem_cons, List.not_mem_nil, or_false] at hx
  omega
/-- A head's page of so many bytes. -/
def page (r : Int) (h0 h1 h2 : Int) : List Int := ((([99, 97, 115, 101] ++ layB h0) ++ layB h1) ++ layB h2) ++ List.replicate (r.toNat - 16) 0
theorem page_byt (r h0 h1 h2 : Int) : Byt (page r h0 h1 h2) := by
  have h : Byt ([99, 97, 115, 101] : List Int) := fun x hx => by
    simp only [List.mem_cons, List.not_mem_nil, or_false] at hx
    omega
  exact (((h.append (layB_byt h0)).append (layB_byt h1)).append (layB_byt h2)).append (Byt.zeros _)
theorem page_length {r : Int} (hr : 16 ≤ r) (h0 h1 h2 : Int) : (page r h0 h1 h2).length = r.toNat := by
  simp [page, layB]; omega
theorem layH3 (h0 h1 h2 : Int) : layH [h0, h1, h2] [99, 97, 115, 101] = some ((([99, 97, 115, 101] ++ layB h0) ++ layB h1) ++ layB h2) := by
  simp [layH, layB]
theorem head16 (h0 h1 h2 : Int) : ((([99, 97, 115, 101] ++ layB h0) ++ layB h1) ++ layB h2 : List Int).length = 16 := by simp [layB]
section
variable {g0 g1 g2 g3 g4 : Int}
theorem bytes_f (h : GOK g0 g1 g2 g3 g4) (h0 h1 h2 : Int) : head_Bytes.f g0 g1 g2 g3 g4 h0 h1 h2 = some (if HOK g1 g2 g3 h0 h1 h2 then (page (g2 * g3) h0 h1 h2, 0) else ([], 1)) := by
  unfold head_Bytes.f
  have hr := h.rb
  rw [may_f h, Option.bind_some]
  by_cases e : HOK g1 g2 g3 h0 h1 h2
  · rw [if_pos (by simpa using e), if_pos e, room_f h, Option.bind_some, layH3, Option.bind_some]
    simp only
    rw [w64 (n := g2 * g3 - 16) (by omega) (by omega), if_pos (by omega), if_pos (by rw [head16]; omega)]
    unfold page
    rw [show (g2 * g3 - 16).toNat = (g2 * g3).toNat - 16 from by omega]
  · rw [if_neg (by simpa using e), if_neg e]
theorem bytes_no (h : ¬ GOK g0 g1 g2 g3 g4) (h0 h1 h2 : Int) : head_Bytes.f g0 g1 g2 g3 g4 h0 h1 h2 = some ([], 1) := by
  unfold head_Bytes.f
  rw [may_no h, Option.bind_some, if_neg (by simp)]
end
theorem four_l0 : ∀ (d k : Nat) (n : Int) (x : List Int), 0 ≤ n → n ≤ 4611686018427387904 → x.length + d ≤ 100 → d ≤ 4 → d < k →
    casemateref09_Four.l0 k n x (4 - (d : Int)) = some (x ++ (layB n).take d)
  | 0, k, n, x, h0, h1, hx, hd, hk => by
    obtain ⟨k, rfl⟩ := fuel hk
    rw [casemateref09_Four.l0, if_neg (by omega)]; simp
  | d + 1, k, n, x, h0, h1, hx, hd, hk => by
    obtain ⟨k, rfl⟩ := fuel hk
    rw [casemateref09_Four.l0, if_pos (by omega), if_pos (by omega), tdv _ h0, tmd _ h0]
    have e1 : 0 ≤ n / 256 := by omega
    have e2 : n / 256 ≤ 4611686018427387904 := by omega
    rw [w64 (n := n / 256) (by omega) (by omega), w64 (n := 4 - ((d + 1 : Nat) : Int) + 1) (by omega) (by omega), show 4 - ((d + 1 : Nat) : Int) + 1 = 4 - (d : Int) from by omega, four_l0 d k (n / 256) _ e1 e2 (by simp; omega) (by omega) (by omega)]
    have e3 : n / 256 / 256 = n / 65536 := by omega
    have e4 : n / 256 / 65536 = n / 16777216 := by omega
    simp only [layB, e3, e4]
    match d, hd with
    | 0, _ => simp
    | 1, _ => simp
    | 2, _ => simp
    | 3, _ => simp
theorem four_f (n : Int) (hn : 0 ≤ n) (hn' : n ≤ 4611686018427387904) {k : Nat} (hk : 4 < k) : casemateref09_Four.f k n = some (layB n) := by
  unfold casemateref09_Four.f
  have := four_l0 4 k n [] hn hn' (by simp) (by omega) hk
  rw [show (4 : Int) - ((4 : Nat) : Int) = 0 from rfl] at this
  rw [this]; simp [layB]
section
variable {g0 g1 g2 g3 g4 : Int}
theorem bytes9 (h : GOK g0 g1 g2 g3 g4) (h0 h1 h2 : Int) (e : HOK g1 g2 g3 h0 h1 h2) {k : Nat} (hk : 4 < k) : casemateref09_Bytes.f k g0 g1 g2 g3 g4 h0 h1 h2 = some (page (g2 * g3) h0 h1 h2) := by
  unfold casemateref09_Bytes.f
  have hr := h.rb
  have hb := cap_bd h
  obtain ⟨⟨a1, a2⟩, ⟨a3, a4⟩, a5, a6⟩ := e
  rw [four_f h0 a1 (by omega) hk, Option.bind_some, four_f h1 a3 (by omega) hk, Option.bind_some, four_f h2 (by omega) (by omega) hk, Option.bind_some, room6 h, Option.bind_some, if_pos (by simp [layB])]
  unfold padL page
  rw [head16]
  by_cases h16 : ((16 : Nat) : Int) < g2 * g3
  · rw [if_pos h16, if_pos (by omega)]
  · rw [if_neg h16, show (g2 * g3).toNat - 16 = 0 from by omega]; simp
end

/-! ### numbers of four bytes -/
theorem i64_or' {a b : Nat} (ha : a < 9223372036854775808) (hb : b < 9223372036854775808) : Go.bits .or .i64 (a : Int) (b : Int) = ((a ||| b : Nat) : Int) := by
  have hx : a ||| b < 2 ^ 63 := Nat.or_lt_two_pow (by omega) (by omega)
  show IntKind.i64.wrap ((BitVec.ofInt 64 (a : Int) ||| BitVec.ofInt 64 (b : Int)).toNat : Int) = _
  rw [BitVec.toNat_or, ofInt_64 a (by omega), ofInt_64 b (by omega), IntKind.wrap_i64]
  omega
theorem or_add {a b : Nat} (i : Nat) (ha : a < 2 ^ i) : a ||| (b * 2 ^ i) = a + b * 2 ^ i := by
  rw [Nat.or_comm, ← Nat.shiftLeft_eq, ← Nat.shiftLeft_add_eq_or_of_lt ha, Nat.add_comm]
theorem num4_eq {x0 x1 x2 x3 : Int} (h0 : 0 ≤ x0 ∧ x0 < 256) (h1 : 0 ≤ x1 ∧ x1 < 256) (h2 : 0 ≤ x2 ∧ x2 < 256) (h3 : 0 ≤ x3 ∧ x3 < 256) : num4 x0 x1 x2 x3 = x0 + x1 * 256 + x2 * 65536 + x3 * 16777216 := by
  obtain ⟨a, rfl⟩ := Int.eq_ofNat_of_zero_le h0.1
  obtain ⟨b, rfl⟩ := Int.eq_ofNat_of_zero_le h1.1
  obtain ⟨c, rfl⟩ := Int.eq_ofNat_of_zero_le h2.1
  obtain ⟨d, rfl⟩ := Int.eq_ofNat_of_zero_le h3.1
  unfold num4
  have e1 : ((b : Int) * 256) = ((b * 2 ^ 8 : Nat) : Int) := by simp
  have e2 : ((c : Int) * 65536) = ((c * 2 ^ 16 : Nat) : Int) := by simp
  have e3 : ((d : Int) * 16777216) = ((d * 2 ^ 24 : Nat) : Int) := by simp
  rw [e1, e2, e3, i64_or' (by omega) (by omega), or_add 8 (by omega), i64_or' (by omega) (by omega), or_add 16 (by omega), i64_or' (by omega) (by omega), or_add 24 (by omega)]
  omega
/-- The number at a place. -/
def numAt (l : List Int) (i : Nat) : Int := l.getD i 0 + l.getD (i + 1) 0 * 256 + l.getD (i + 2) 0 * 65536 + l.getD (i + 3) 0 * 16777216
theorem atL_eq {l : List Int} (hl : Byt l) (i : Nat) (hi : i + 3 < l.length) : atL l i = some (numAt l i) := by
  unfold atL
  have b : ∀ j, isB (l.getD j 0) = true := fun j => by
    have h1 := hl.get j
    unfold isB
    rw [decide_eq_true h1.1, decide_eq_true (show l.getD j 0 ≤ 255 by omega)]; rfl
  rw [if_pos hi, b, b, b, b, if_pos (by rfl), num4_eq (hl.get _) (hl.get _) (hl.get _) (hl.get _)]; rfl
theorem number_f {l : List Int} (hl : Byt l) (hn : l.length = 4) {k : Nat} (hk : 4 < k) : casemateref09_Number.f k l = some (l.getD 0 0 + l.getD 1 0 * 256 + l.getD 2 0 * 65536 + l.getD 3 0 * 16777216) := by
  have b0 := hl.get 0
  have b1 := hl.get 1
  have b2 := hl.get 2
  have b3 := hl.get 3
  obtain ⟨k, rfl⟩ : ∃ m, k = m + 5 := ⟨k - 5, by omega⟩
  unfold casemateref09_Number.f
  rw [casemateref09_Number.l0, if_pos (by omega), if_pos (by omega), if_pos (by omega), show rd l 3 = l.getD 3 0 from rfl, w64 (n := 256 * 0) (by omega) (by omega), w64 (n := l.getD 3 0) (by omega) (by omega), w64 (n := 256 * 0 + l.getD 3 0) (by omega) (by omega), w64 (n := 3 - 1) (by omega) (by omega)]
  rw [casemateref09_Number.l0, if_pos (by omega), if_pos (by omega), if_pos (by omega), show rd l (3 - 1) = l.getD 2 0 from rfl, w64 (n := 256 * (256 * 0 + l.getD 3 0)) (by omega) (by omega), w64 (n := l.getD 2 0) (by omega) (by omega), w64 (n := 256 * (256 * 0 + l.getD 3 0) + l.getD 2 0) (by omega) (by omega), w64 (n := 3 - 1 - 1) (by omega) (by omega)]
  rw [casemateref09_Number.l0, if_pos (by omega), if_pos (by omega), if_pos (by omega), show rd l (3 - 1 - 1) = l.getD 1 0 from rfl, w64 (n := 256 * (256 * (256 * 0 + l.getD 3 0) + l.getD 2 0)) (by omega) (by omega), w64 (n := l.getD 1 0) (by omega) (by omega), w64 (n := 256 * (256 * (256 * 0 + l.getD 3 0) + l.getD 2 0) + l.getD 1 0) (by omega) (by omega), w64 (n := 3 - 1 - 1 - 1) (by omega) (by omega)]
  rw [casemateref09_Number.l0, if_pos (by omega), if_pos (by omega), if_pos (by omega), show rd l (3 - 1 - 1 - 1) = l.getD 0 0 from rfl, w64 (n := 256 * (256 * (256 * (256 * 0 + l.getD 3 0) + l.getD 2 0) + l.getD 1 0)) (by omega) (by omega), w64 (n := l.getD 0 0) (by omega) (by omega), w64 (n := 256 * (256 * (256 * (256 * 0 + l.getD 3 0) + l.getD 2 0) + l.getD 1 0) + l.getD 0 0) (by omega) (by omega), w64 (n := 3 - 1 - 1 - 1 - 1) (by omega) (by omega)]
  rw [casemateref09_Number.l0, if_neg (by omega)]
  congr 1
  omega
theorem cut_get (l : List Int) (a b i : Nat) (hi : a + i < b) : ((l.take b).drop a).getD i 0 = l.getD (a + i) 0 := by
  simp only [List.getD_eq_getElem?_getD, List.getElem?_drop, List.getElem?_take]
  rw [if_pos hi]
theorem number_cut {l : List Int} (hl : Byt l) (a : Nat) (hn : a + 4 ≤ l.length) {k : Nat} (hk : 4 < k) : casemateref09_Number.f k ((l.take (a + 4)).drop a) = some (numAt l a) := by
  rw [number_f ((hl.take _).drop _) (by simp; omega) hk, cut_get _ _ _ _ (by omega), cut_get _ _ _ _ (by omega), cut_get _ _ _ _ (by omega), cut_get _ _ _ _ (by omega)]; rfl
/-- What a page says. -/
theorem numAt_page (r h0 h1 h2 : Int) (b0 : 0 ≤ h0 ∧ h0 < 4294967296) (b1 : 0 ≤ h1 ∧ h1 < 4294967296) (b2 : 0 ≤ h2 ∧ h2 < 4294967296) : numAt (page r h0 h1 h2) 4 = h0 ∧ numAt (page r h0 h1 h2) 8 = h1 ∧ numAt (page r h0 h1 h2) 12 = h2 := by
  have e : ∀ n : Int, 0 ≤ n ∧ n < 4294967296 → n % 256 + n / 256 % 256 * 256 + n / 65536 % 256 * 65536 + n / 16777216 % 256 * 16777216 = n := fun n hn => by omega
  refine ⟨?_, ?_, ?_⟩
  · exact Eq.trans (by simp [numAt, page, layB]) (e h0 b0)
  · exact Eq.trans (by simp [numAt, page, layB]) (e h1 b1)
  · exact Eq.trans (by simp [numAt, page, layB]) (e h2 b2)
theorem bequal {a b : List Int} (ha : Byt a) (hb : Byt b) : bytes_Equal.f a b = some (decide (a = b)) := by unfold bytes_Equal.f; rw [str_beq ha hb]
section
variable {g0 g1 g2 g3 g4 : Int}
theorem HOK.bd (h : GOK g0 g1 g2 g3 g4) {h0 h1 h2 : Int} (e : HOK g1 g2 g3 h0 h1 h2) : (0 ≤ h0 ∧ h0 < 4294967296) ∧ (0 ≤ h1 ∧ h1 < 4294967296) ∧ (0 ≤ h2 ∧ h2 < 4294967296) := by
  have := cap_bd h
  obtain ⟨⟨a1, a2⟩, ⟨a3, a4⟩, a5, a6⟩ := e
  omega
/-- Is it a head's page? -/
def isPage (g1 g2 g3 : Int) (l : List Int) : Prop := HOK g1 g2 g3 (numAt l 4) (numAt l 8) (numAt l 12) ∧ page (g2 * g3) (numAt l 4) (numAt l 8) (numAt l 12) = l
theorem parse_f (h : GOK g0 g1 g2 g3 g4) {l : List Int} (hl : Byt l) (hn : (l.length : Int) = g2 * g3) :
    (isPage g1 g2 g3 l ∧ head_Parse.f g0 g1 g2 g3 g4 l = some (numAt l 4, numAt l 8, numAt l 12, 0)) ∨ (¬ isPage g1 g2 g3 l ∧ head_Parse.f g0 g1 g2 g3 g4 l = some (0, 0, 0, 4)) := by
  have hr := h.rb
  unfold head_Parse.f
  rw [room_f h, Option.bind_some, if_pos rfl, if_pos hn, atL_eq hl 4 (by omega), Option.bind_some, atL_eq hl 8 (by omega), Option.bind_some, atL_eq hl 12 (by omega), Option.bind_some, bytes_f h, Option.bind_some]
  by_cases e : HOK g1 g2 g3 (numAt l 4) (numAt l 8) (numAt l 12)
  · rw [if_pos e, if_pos rfl, bequal (page_byt _ _ _ _) hl, Option.bind_some]
    by_cases e2 : page (g2 * g3) (numAt l 4) (numAt l 8) (numAt l 12) = l
    · rw [if_pos (by simpa using e2)]; exact .inl ⟨⟨e, e2⟩, rfl⟩
    · rw [if_neg (by simpa using e2)]; exact .inr ⟨fun h => e2 h.2, rfl⟩
  · rw [if_neg e, if_neg (by decide)]; exact .inr ⟨fun h => e h.1, rfl⟩
theorem parse_no (l : List Int) (h : ¬ (GOK g0 g1 g2 g3 g4 ∧ (l.length : Int) = g2 * g3)) : head_Parse.f g0 g1 g2 g3 g4 l = some (0, 0, 0, 1) := by
  unfold head_Parse.f
  by_cases e : GOK g0 g1 g2 g3 g4
  · rw [room_f e, Option.bind_some, if_pos rfl, if_neg fun h' => h ⟨e, h'⟩]
  · rw [room_no e, Option.bind_some, if_neg (by decide)]
end
theorem awake : casematelaw09_awake.f = some true := by decide +kernel
end Go.Proofs.Ytlaadaigffmibaa.Pure

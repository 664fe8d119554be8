/- Layer 3, on: values, quotients, and the reference's functions. No condition but that the lists are of elements, where it says so. -/
import Derived.Test.YtfjmbmlmbchglaaL3
set_option linter.unusedVariables false
set_option linter.unusedSimpArgs false
namespace Go.Proofs.Ytfjmbmlmbchglaa.L
open Go Go.RowKit Go.Proofs.Ytfjmbmlmbchglaa.P Go.Proofs.YtfjmbmlmbchglaaW.PrintWords Go.Proofs.YtfjmbmlmbchglaaW.PrintLast Go.Proofs.YtfjmbmlmbchglaaW.PrintMore Go.Proofs.CsM

/-- The value at x of a list's polynomial. -/
def evl (l : List Int) (x : GF) : GF := ev (toS l) l.length x
theorem evl_of {l : List Int} {f : Ser GF} {n : Nat} (h : toS l = f) (hf : Bd f n) (x : GF) : evl l x = ev f n x := by
  unfold evl
  rw [h]
  have h1 : Bd f l.length := by rw [← h]; exact toS_bd l
  rw [← ev_bd h1 (Nat.le_add_right l.length n), ← ev_bd hf (Nat.le_add_left n l.length)]
theorem evl_pl {f : Ser GF} {n : Nat} (hf : Bd f n) (x : GF) : evl (pl f n) x = ev f n x := evl_of (toS_pl hf) hf x
theorem p_Eval_l0 (l : List Int) (hl : El l) (x : GF) (hn : l.length ≤ 2 ^ 60) : ∀ (n : Nat) (out : GF), n ≤ l.length → Evt fun k => poly_Eval.l0 k l (gi x) (gi out) ((n : Int) - 1) = some (gi (ev (toS l) n x + out * pw x n), 0)
  | 0, out, hn0 => Evt.of 0 fun k hk => by
    obtain ⟨k, rfl⟩ := fuel hk
    have e0 : ev (toS l) 0 x = 0 := sm_zero _
    have e1 : ev (toS l) 0 x + out * pw x 0 = out := by rw [e0, r_zero_add, pw_zero, R2.mul_one]
    have e2 : ((0 : Nat) : Int) - 1 = -1 := rfl
    rw [e1]
    show poly_Eval.l0 (k + 1) l (gi x) (gi out) (-1) = _
    unfold poly_Eval.l0
    exact if_neg (by decide)
  | n + 1, out, hn0 => by
    refine ((p_mul out x).and (p_Eval_l0 l hl x hn n (out * x + (toS l).c n) (by omega))).step fun k ⟨h1, h2⟩ => ?_
    rw [poly_Eval.l0, if_pos (by omega), h1, Option.bind_some, if_pos (by omega), if_pos (by omega), show ((n + 1 : Nat) : Int) - 1 = (n : Int) from by omega, rd_nat, ← gi_toS hl, xor_gi, w64 (by omega) (by omega), h2]
    refine congrArg (fun z => some (gi z, (0 : Int))) ?_
    unfold ev
    rw [sm_succ, pw_succ, r_add_mul]
    rw [show out * x * pw x n = out * (pw x n * x) from by ac_rfl]
    ac_rfl
theorem p_Eval (l : List Int) (hl : El l) (x : GF) (hn : l.length ≤ 2 ^ 60) : Evt fun k => poly_Eval.f k l (gi x) = some (gi (evl l x), 0) := by
  refine ((p_is2 l [gi x] hn (by simp)).and (p_Eval_l0 l hl x hn l.length 0 (Nat.le_refl _))).mono fun k ⟨h1, h2⟩ => ?_
  unfold poly_Eval.f
  rw [h1, Option.bind_some, if_pos (decide_eq_true ⟨hl, El.cons.2 ⟨gi_el x, El.nil⟩⟩), w64 (by omega) (by omega)]
  rw [r_zero_mul, R2.add_zero, gi_zero] at h2
  exact h2
theorem p_Eval_no (l : List Int) (x : Int) (h : ¬ (El l ∧ isEl x)) (hn : l.length ≤ 2 ^ 60) : Evt fun k => poly_Eval.f k l x = some (0, 1) := by
  refine (p_is2 l [x] hn (by simp)).mono fun k h1 => ?_
  unfold poly_Eval.f
  rw [h1, Option.bind_some, if_neg]
  simp only [decide_eq_true_eq]
  exact fun e => h ⟨e.1, (El.cons.1 e.2).1⟩
theorem div_step {r q : Ser GF} {n m : Nat} (hm : m ≤ n) (hr : Bd r (n + 1)) (hq : Bd q (m + 1)) (b : GF) (hb : r.c n + b * q.c m = 0) : Bd (r + pw XX (n - m) * (cst b * q)) n := fun i hi => by
  rw [add_c, pwXX_c, cst_mul_c]
  by_cases e : i = n
  · subst e
    rw [if_pos (by omega), show i - (i - m) = m from by omega, hb]
  · rw [hr i (by omega), r_zero_add]
    split
    · rw [hq _ (by omega), r_mul_zero]
    · rfl
theorem p_divL (q : List Int) (hq : El q) (m : Nat) (hm : q.length = m + 1) (htop : (toS q).c m ≠ 0) :
    ∀ (n : Nat) (r l : List Int), El r → El l → fin r = r → r.length ≤ l.length → r.length < n → ∃ lf rf, (Evt fun k => divL (poly_mul.f k) q (gi (ginv ((toS q).c m))) n r l = some (lf, rf)) ∧ El lf ∧ El rf ∧ fin rf = rf ∧ lf.length = l.length ∧ rf.length < q.length ∧ toS lf * toS q + toS rf = toS l * toS q + toS r
  | 0, r, l, hr, hl, hf, hrl, h => by omega
  | n + 1, r, l, hr, hl, hf, hrl, h => by
    by_cases hlt : r.length < q.length
    · exact ⟨l, r, Evt.all fun k => by unfold divL; rw [if_pos hlt], hl, hr, hf, rfl, hlt, rfl⟩
    · obtain ⟨d, hd⟩ : ∃ d, r.length = d + 1 := ⟨r.length - 1, by omega⟩
      obtain ⟨b, hb⟩ : ∃ b, b = (toS r).c d * ginv ((toS q).c m) := ⟨_, rfl⟩
      have hbq : (toS r).c d + b * (toS q).c m = 0 := by
        rw [hb, show (toS r).c d * ginv ((toS q).c m) * (toS q).c m = (toS r).c d * ((toS q).c m * ginv ((toS q).c m)) from by ac_rfl, mul_ginv htop, R2.mul_one, R2.add_self]
      have hrb : Bd (toS r) (d + 1) := by rw [← hd]; exact toS_bd r
      have hqb : Bd (toS q) (m + 1) := by rw [← hm]; exact toS_bd q
      obtain ⟨s, h1, h2, h3, h4⟩ := p_layL (fun k a => poly_mul.f k a (gi b)) b (fun a => p_mul a b) q (d - m) r hq hr (by omega)
      have hs : Bd (toS s) d := by rw [h4]; exact div_step (by omega) hrb hqb b hbq
      have hfs : (fin s).length < r.length := by
        by_cases e : 0 < (fin s).length
        · have := fin_top' h3 e
          refine Nat.lt_of_not_le fun hle => this (hs _ (by omega))
        · omega
      have hat : d - m < l.length := by omega
      obtain ⟨l', hl'⟩ : ∃ l', l' = l.set (d - m) (Go.bits .xor .i64 (l.getD (d - m) 0) (gi b)) := ⟨_, rfl⟩
      have hv : Go.bits .xor .i64 (l.getD (d - m) 0) (gi b) = gi ((toS l).c (d - m) + b) := by rw [← gi_toS hl, xor_gi]
      have hl2 : El l' := by rw [hl', hv]; exact hl.set _ (gi_el _)
      have hl3 : toS l' = toS l + pw XX (d - m) * cst b := Ser.ext fun j => by
        rw [hl', hv, toS_c, getD_set _ _ _ _ hat, add_c, pwXX_c, cst_c]
        by_cases e : d - m = j
        · subst e; rw [if_pos rfl, if_pos (Nat.le_refl _), if_pos (by omega), gof_gi]
        · rw [if_neg e]
          split
          · rw [if_neg (by omega), R2.add_zero]; rfl
          · rw [R2.add_zero]; rfl
      obtain ⟨lf, rf, g1, g2, g3, g4, g5, g6, g7⟩ := p_divL q hq m hm htop n (fin s) l' (fin_El h3) hl2 (fin_fin h3) (by rw [hl', List.length_set]; omega) (by omega)
      refine ⟨lf, rf, ((p_mul ((toS r).c d) (ginv ((toS q).c m))).and (h1.and g1)).mono fun k ⟨a1, a2, a3⟩ => ?_, g2, g3, g4, by rw [g5, hl', List.length_set], g6, ?_⟩
      · unfold divL
        rw [if_neg hlt, show r.length - 1 = d from by omega, show r.length - q.length = d - m from by omega, ← gi_toS hr, a1, Option.bind_some, if_pos hat, ← hb, a2, Option.bind_some, if_pos hfs, ← hl']
        exact a3
      · rw [g7, toS_fin, hl3, h4, r_add_mul]
        rw [show toS l * toS q + pw XX (d - m) * cst b * toS q + (toS r + pw XX (d - m) * (cst b * toS q)) = toS l * toS q + toS r + (pw XX (d - m) * (cst b * toS q) + pw XX (d - m) * (cst b * toS q)) from by ac_rfl, R2.add_self, R2.add_zero]
/-- A quotient, and a rest. -/
theorem p_Div (l q : List Int) (hl : El l) (hq : El q) (h0 : toS q ≠ 0) (hn : l.length ≤ 35184372088832) (hn' : q.length ≤ 2 ^ 60) : ∃ a b : List Int, (Evt fun k => poly_Div.f k l q = some (a, b, 0)) ∧ El a ∧ El b ∧ fin a = a ∧ fin b = b ∧ b.length < (fin q).length ∧ a.length ≤ l.length ∧ toS a * toS q + toS b = toS l := by
  have hne : fin q ≠ [] := fun e => h0 ((toS_zero_iff hq).2 e)
  obtain ⟨m, hm⟩ : ∃ m, (fin q).length = m + 1 := ⟨(fin q).length - 1, by have := List.length_pos_iff.2 hne; omega⟩
  have htop : (toS (fin q)).c m ≠ 0 := by
    have := fin_top' hq (by omega)
    rw [toS_fin]; rwa [hm, Nat.add_sub_cancel] at this
  obtain ⟨lf, rf, g1, g2, g3, g4, g5, g6, g7⟩ := p_divL (fin q) (fin_El hq) m hm htop (l.length + 1) (fin l) (List.replicate l.length 0) (fin_El hl) (El.zeros _) (fin_fin hl) (by simp; exact fin_le l) (by have := fin_le l; omega)
  refine ⟨fin lf, rf, ((p_is2 l q (by omega) hn').and ((p_is1 l (by omega)).and ((p_lay0 l hl).and (g1.and (Evt.of 28 fun k hk => g_Inv ((toS (fin q)).c m) htop hk))))).mono fun k ⟨a1, a2, a3, a4, a5⟩ => ?_, fin_El g2, g3, fin_fin g2, g4, g6, ?_, ?_⟩
  · unfold poly_Div.f
    rw [a1, Option.bind_some, if_pos (decide_eq_true ⟨hl, hq⟩), if_neg hne, show (fin q).length - 1 = m from by omega, ← gi_toS (fin_El hq), a5, Option.bind_some, a2, Option.bind_some, if_pos (decide_eq_true hl), if_pos hn, a3, Option.bind_some, a4, Option.bind_some]
  · have := fin_le lf; rw [g5] at this; simpa using this
  · rw [toS_fin]; rw [toS_fin, toS_fin, toS_zeros, r_zero_mul, r_zero_add] at g7; exact g7
theorem p_Div_zero (l q : List Int) (hl : El l) (hq : El q) (h0 : toS q = 0) (hn : l.length ≤ 2 ^ 60) (hn' : q.length ≤ 2 ^ 60) : Evt fun k => poly_Div.f k l q = some ([], [], 20) :=
  (p_is2 l q hn hn').mono fun k h1 => by
    unfold poly_Div.f
    rw [h1, Option.bind_some, if_pos (decide_eq_true ⟨hl, hq⟩), if_pos ((toS_zero_iff hq).1 h0)]
theorem p_Div_no (l q : List Int) (h : ¬ (El l ∧ El q)) (hn : l.length ≤ 2 ^ 60) (hn' : q.length ≤ 2 ^ 60) : Evt fun k => poly_Div.f k l q = some ([], [], 1) :=
  (p_is2 l q hn hn').mono fun k h1 => by
    unfold poly_Div.f
    rw [h1, Option.bind_some, if_neg (by simpa using h)]
/-! ### the reference -/
theorem r3_Is_l0 (l : List Int) (hn : l.length ≤ 2 ^ 60) : ∀ d i : Nat, i + d = l.length → Evt fun k => casemateref03_Is.l0 k l (i : Int) = some ((l.drop i).all elB)
  | 0, i, hd => Evt.of 0 fun k hk => by
    obtain ⟨k, rfl⟩ := fuel hk
    rw [casemateref03_Is.l0, if_neg (by omega), List.drop_of_length_le (by omega)]; rfl
  | d + 1, i, hd => by
    have hi : i < l.length := by omega
    refine (r3_Is_l0 l hn d (i + 1) (by omega)).step fun k ih => ?_
    have e : l.getD i 0 = l[i] := by simp [hi]
    rw [casemateref03_Is.l0, if_pos (by omega), if_pos (by omega), rd_nat, e, r2_Is, Option.bind_some, w64 (by omega) (by omega), List.drop_eq_getElem_cons hi, List.all_cons]
    by_cases h : isEl l[i]
    · rw [if_pos (decide_eq_true h), show elB l[i] = true from decide_eq_true h, Bool.true_and, show (i : Int) + 1 = ((i + 1 : Nat) : Int) from by omega]; exact ih
    · rw [if_neg (by simpa using h), show elB l[i] = false from decide_eq_false h]; rfl
theorem r3_Is (l : List Int) (hn : l.length ≤ 2 ^ 60) : Evt fun k => casemateref03_Is.f k l = some (decide (El l)) :=
  (r3_Is_l0 l hn l.length 0 (by omega)).mono fun k h => by rw [← all_elB]; exact h
theorem r3_Norm_l0 (l : List Int) (hn : l.length < 17592186044416) : ∀ n : Nat, n ≤ l.length → Evt fun k => casemateref03_Norm.l0 k l (n : Int) = some (l.take (normN l n))
  | 0, h => Evt.of 0 fun k hk => by
    obtain ⟨k, rfl⟩ := fuel hk
    rw [casemateref03_Norm.l0, if_neg (by omega), if_pos (by omega), if_pos (by omega), if_pos (by simp)]; rfl
  | n + 1, h => by
    refine (r3_Norm_l0 l hn n (by omega)).step fun k ih => ?_
    have e : wrap64 (((n + 1 : Nat) : Int) - 1) = (n : Int) := by rw [w64 (by omega) (by omega)]; omega
    rw [casemateref03_Norm.l0, if_pos (by omega), e, if_pos (by omega), if_pos (by omega), rd_nat]
    unfold normN
    by_cases h0 : l.getD n 0 = 0
    · rw [if_pos h0, if_pos h0]; exact ih
    · rw [if_neg h0, if_neg h0, if_pos (by omega), if_pos (by omega), if_pos (by simp; omega)]; rfl
theorem r3_Norm (l : List Int) (hn : l.length < 17592186044416) : Evt fun k => casemateref03_Norm.f k l = some (fin l) := r3_Norm_l0 l hn l.length (Nat.le_refl _)
theorem r3_Derive_l0 (l : List Int) (hl : El l) (hn : l.length < 2 ^ 40) : ∀ (d i : Nat) (x : List Int), i + d + 1 = l.length → x.length = i → El x → (∀ j, j < i → x.getD j 0 = if j % 2 = 0 then l.getD (j + 1) 0 else 0) → Evt fun k => casemateref03_Derive.l0 k l x (i : Int) = some (pl (der (toS l)) l.length)
  | 0, i, x, hd, hx, hex, hg => by
    refine (r3_Norm x (by omega)).step fun k h => ?_
    rw [casemateref03_Derive.l0, w64 (by omega) (by omega), if_neg (by omega), h, Option.bind_some]
    congr 1
    refine fin_is_pl hex (der_bd' (toS_bd l)) (Ser.ext fun j => ?_)
    rw [toS_c, der_c]
    by_cases hj : j < i
    · rw [hg j hj]; split
      · rfl
      · exact gof_zero
    · rw [show x.getD j 0 = 0 from by simp [List.getElem?_eq_none (show x.length ≤ j by omega)], gof_zero]
      split
      · rw [toS_bd l (j + 1) (by omega)]
      · rfl
  | d + 1, i, x, hd, hx, hex, hg => by
    obtain ⟨v, hv⟩ : ∃ v, v = if i % 2 = 0 then l.getD (i + 1) 0 else 0 := ⟨_, rfl⟩
    have hve : isEl v := by
      rw [hv]; split
      · exact hl.get _
      · decide
    refine (r3_Derive_l0 l hl hn d (i + 1) (x ++ [v]) (by omega) (by simp [hx]) (hex.append (El.cons.2 ⟨hve, El.nil⟩)) (fun j hj => ?_)).step fun k ih => ?_
    · by_cases e : j < i
      · rw [← hg j e]; simp [List.getElem?_append_left (show j < x.length by omega)]
      · have : j = i := by omega
        subst this
        rw [← hv]; simp [List.getElem?_append_right (show x.length ≤ j by omega), hx]
    · have hi1 : wrap64 ((i : Int) + 1) = ((i + 1 : Nat) : Int) := by rw [w64 (by omega) (by omega)]; omega
      have ht : Int.tmod (i : Int) 2 = ((i % 2 : Nat) : Int) := by rw [tmd _ (by omega)]; omega
      rw [casemateref03_Derive.l0, hi1, if_pos (by omega), ht, rd_nat]
      by_cases h : i % 2 = 0
      · rw [if_pos (by omega), if_pos (by omega), if_pos (by omega)]
        rw [if_pos h] at hv; rw [← hv]; exact ih
      · rw [if_neg (by omega), if_pos (by omega)]
        rw [if_neg h] at hv; rw [← hv]; exact ih
theorem r3_Derive (l : List Int) (hl : El l) (hn : l.length < 2 ^ 40) : Evt fun k => casemateref03_Derive.f k l = some (pl (der (toS l)) l.length) := by
  by_cases h0 : l.length = 0
  · obtain rfl := List.eq_nil_of_length_eq_zero h0
    refine (r3_Norm [] (by simp)).step fun k h => ?_
    unfold casemateref03_Derive.f
    rw [casemateref03_Derive.l0, w64 (by omega) (by omega), if_neg (by simp), h, Option.bind_some, toS_nil, der_zero, pl_zero]; rfl
  · exact r3_Derive_l0 l hl hn (l.length - 1) 0 [] (by omega) rfl El.nil (fun j hj => by omega)
theorem r3_Eval_l0 (l : List Int) (hl : El l) (x : GF) (hn : l.length < 2 ^ 14) : ∀ d i : Nat, i + d = l.length → Evt fun k => casemateref03_Eval.l0 k l (gi x) (gi (ev (toS l) i x)) (i : Int) = some (gi (evl l x))
  | 0, i, hd => Evt.of 0 fun k hk => by
    obtain ⟨k, rfl⟩ := fuel hk
    rw [casemateref03_Eval.l0, if_neg (by omega), show i = l.length from by omega]; rfl
  | d + 1, i, hd => by
    refine ((r3_Eval_l0 l hl x hn d (i + 1) (by omega)).and (Evt.of 58 fun k hk => (hk : 58 < k))).step fun k ⟨ih, hk⟩ => ?_
    rw [casemateref03_Eval.l0, if_pos (by omega), if_pos (by omega), r2_Pow x i (by omega) hk, Option.bind_some, rd_nat, ← gi_toS hl, r2_Mul _ _ (by omega), Option.bind_some, r2_Sum _ _ (by omega), Option.bind_some, w64 (by omega) (by omega), show (i : Int) + 1 = ((i + 1 : Nat) : Int) from by omega]
    exact ih
theorem r3_Eval (l : List Int) (hl : El l) (x : GF) (hn : l.length < 2 ^ 14) : Evt fun k => casemateref03_Eval.f k l (gi x) = some (gi (evl l x)) :=
  (r3_Eval_l0 l hl x hn l.length 0 (by omega)).mono fun k h => h
theorem r3_at (l : List Int) (i : Nat) : casemateref03_at.f l (i : Int) = some (l.getD i 0) := by
  unfold casemateref03_at.f
  by_cases h : i < l.length
  · rw [if_pos (by omega), if_pos (by omega), rd_nat]
  · rw [if_neg (by omega)]; simp [List.getElem?_eq_none (show l.length ≤ i by omega)]
theorem r3_Add_l0 (p q : List Int) (hp : El p) (hq : El q) (hn : max p.length q.length < 2 ^ 40) : ∀ (d i : Nat) (x : List Int), i + d = max p.length q.length → x.length = i → El x → (∀ j, j < i → (toS x).c j = (toS p + toS q).c j) → Evt fun k => casemateref03_Add.l0 k p q x (i : Int) = some (pl (toS p + toS q) (max p.length q.length))
  | 0, i, x, hd, hx, hex, hg => by
    refine ((r3_Norm x (by omega)).step (q := fun k => casemateref03_Add.j1 k p q x (i : Int) false = some (pl (toS p + toS q) (max p.length q.length))) fun k h => ?_).step fun k h => ?_
    · rw [casemateref03_Add.j1, if_neg (by simp), h, Option.bind_some]
      congr 1
      refine fin_is_pl hex (((toS_bd p).mono (by omega)).add ((toS_bd q).mono (by omega))) (Ser.ext fun j => ?_)
      by_cases hj : j < i
      · exact hg j hj
      · rw [toS_bd x j (by omega), add_c, toS_bd p j (by omega), toS_bd q j (by omega), R2.add_zero]
    · rw [casemateref03_Add.l0, if_neg (by omega), decide_eq_false (by omega)]; exact h
  | d + 1, i, x, hd, hx, hex, hg => by
    obtain ⟨v, hv⟩ : ∃ v, v = (toS p).c i + (toS q).c i := ⟨_, rfl⟩
    have hsn : ∀ j, (toS (x ++ [gi v])).c j = if j = i then v else (toS x).c j := fun j => by
      rw [toS_c, toS_c]
      by_cases e : j = i
      · subst e; rw [if_pos rfl]; simp [List.getElem?_append_right (show x.length ≤ j by omega), hx, gof_gi]
      · rw [if_neg e]
        by_cases h : j < i
        · simp [List.getElem?_append_left (show j < x.length by omega)]
        · simp [List.getElem?_eq_none (show (x ++ [gi v]).length ≤ j by simp; omega), List.getElem?_eq_none (show x.length ≤ j by omega)]
    refine (((r3_Add_l0 p q hp hq hn d (i + 1) (x ++ [gi v]) (by omega) (by simp [hx]) (hex.append (El.cons.2 ⟨gi_el v, El.nil⟩)) (fun j hj => ?_)).and (Evt.of 29 fun k hk => (hk : 29 < k))).step (q := fun k => casemateref03_Add.j1 k p q x (i : Int) true = some (pl (toS p + toS q) (max p.length q.length))) fun k ⟨ih, hk⟩ => ?_).step fun k h => ?_
    · rw [hsn]
      by_cases e : j = i
      · subst e; rw [if_pos rfl, hv, add_c]
      · rw [if_neg e]; exact hg j (by omega)
    · rw [casemateref03_Add.j1, if_pos rfl, r3_at, Option.bind_some, r3_at, Option.bind_some, ← gi_toS hp, ← gi_toS hq, r2_Sum _ _ hk, Option.bind_some, if_pos (by omega), w64 (by omega) (by omega), show (i : Int) + 1 = ((i + 1 : Nat) : Int) from by omega, ← hv]
      exact ih
    · rw [casemateref03_Add.l0]
      by_cases e : i < p.length
      · rw [if_pos (by omega)]; exact h
      · rw [if_neg (by omega), decide_eq_true (by omega)]; exact h
theorem r3_Add (p q : List Int) (hp : El p) (hq : El q) (hn : max p.length q.length < 2 ^ 40) : Evt fun k => casemateref03_Add.f k p q = some (pl (toS p + toS q) (max p.length q.length)) :=
  r3_Add_l0 p q hp hq hn (max p.length q.length) 0 [] (by omega) rfl El.nil (fun j hj => by omega)
theorem r3_Mul_l1 (p q : List Int) (hp : El p) (hq : El q) (hn : p.length + q.length < 2 ^ 40) (i : Nat) (hi : i < p.length) (r : Ser GF → Option (List Int))
    (hnext : ∀ y : List Int, y.length = p.length + q.length → El y → Evt fun k => casemateref03_Mul.l0 k p q y ((i + 1 : Nat) : Int) = r (toS y)) :
    ∀ (d j : Nat) (x : List Int), j + d = q.length → x.length = p.length + q.length → El x → Evt fun k => casemateref03_Mul.l1 k p q x (i : Int) (j : Int) = r (toS x + pw XX i * (cst ((toS p).c i) * ⟨fun e => if e < j then 0 else (toS q).c e⟩))
  | 0, j, x, hd, hx, hex => by
    refine (hnext x hx hex).step fun k h => ?_
    rw [casemateref03_Mul.l1, if_neg (by omega), w64 (by omega) (by omega), show (i : Int) + 1 = ((i + 1 : Nat) : Int) from by omega, h]
    congr 1
    refine Ser.ext fun e => ?_
    rw [add_c, pwXX_c, cst_mul_c]
    split
    · show _ = (toS x).c e + _ * (if e - i < j then 0 else (toS q).c (e - i))
      split
      · rw [r_mul_zero, R2.add_zero]
      · rw [toS_bd q _ (by omega), r_mul_zero, R2.add_zero]
    · rw [R2.add_zero]
  | d + 1, j, x, hd, hx, hex => by
    obtain ⟨v, hv⟩ : ∃ v, v = (toS x).c (i + j) + (toS p).c i * (toS q).c j := ⟨_, rfl⟩
    have hin : i + j < x.length := by omega
    refine ((r3_Mul_l1 p q hp hq hn i hi r hnext d (j + 1) (x.set (i + j) (gi v)) (by omega) (by rw [List.length_set]; exact hx) (hex.set _ (gi_el v))).and (Evt.of 43 fun k hk => (hk : 43 < k))).step fun k ⟨ih, hk⟩ => ?_
    have e1 : wrap64 ((i : Int) + (j : Int)) = ((i + j : Nat) : Int) := by rw [w64 (by omega) (by omega)]; omega
    rw [casemateref03_Mul.l1, if_pos (by omega), e1, if_pos (by omega), if_pos (by omega), if_pos (by omega), if_pos (by omega), if_pos (by omega), rd_nat, rd_nat, rd_nat, ← gi_toS hp, ← gi_toS hq, r2_Mul _ _ hk, Option.bind_some, ← gi_toS hex, r2_Sum _ _ (by omega), Option.bind_some, Int.toNat_natCast, w64 (by omega) (by omega), show (j : Int) + 1 = ((j + 1 : Nat) : Int) from by omega, ← hv, ih]
    congr 1
    refine Ser.ext fun e => ?_
    rw [add_c, add_c, pwXX_c, pwXX_c, cst_mul_c, cst_mul_c, toS_c (x.set _ _), getD_set _ _ _ _ hin]
    by_cases he : i + j = e
    · subst he
      rw [if_pos rfl, gof_gi, if_pos (by omega), if_pos (by omega), show i + j - i = j from by omega]
      show v + _ * (if j < j + 1 then 0 else _) = _ + _ * (if j < j then 0 else _)
      rw [if_pos (by omega), if_neg (by omega), r_mul_zero, R2.add_zero, hv]
    · rw [if_neg he]
      show (toS x).c e + _ = _
      congr 1
      split
      · show _ * (if e - i < j + 1 then 0 else _) = _ * (if e - i < j then 0 else _)
        by_cases h2 : e - i < j
        · rw [if_pos (by omega), if_pos h2]
        · rw [if_neg (by omega), if_neg h2]
      · rfl
theorem r3_Mul_l0 (p q : List Int) (hp : El p) (hq : El q) (hn : p.length + q.length < 2 ^ 40) : ∀ (d i : Nat) (x : List Int), i + d = p.length → x.length = p.length + q.length → El x → Evt fun k => casemateref03_Mul.l0 k p q x (i : Int) = some (pl (toS x + (⟨fun e => if e < i then 0 else (toS p).c e⟩ : Ser GF) * toS q) (p.length + q.length))
  | 0, i, x, hd, hx, hex => by
    refine (r3_Norm x (by omega)).step fun k h => ?_
    rw [casemateref03_Mul.l0, if_neg (by omega), h, Option.bind_some]
    congr 1
    have e0 : (⟨fun e => if e < i then 0 else (toS p).c e⟩ : Ser GF) = 0 := Ser.ext fun e => by
      show (if e < i then 0 else (toS p).c e) = 0
      split
      · rfl
      · exact toS_bd p _ (by omega)
    rw [e0, r_zero_mul, R2.add_zero]
    exact fin_is_pl hex (by rw [← hx]; exact toS_bd x) rfl
  | d + 1, i, x, hd, hx, hex => by
    refine (r3_Mul_l1 p q hp hq hn i (by omega) (fun f => some (pl (f + (⟨fun e => if e < i + 1 then 0 else (toS p).c e⟩ : Ser GF) * toS q) (p.length + q.length))) (fun y hy hey => r3_Mul_l0 p q hp hq hn d (i + 1) y (by omega) hy hey) q.length 0 x (by omega) hx hex).step fun k h => ?_
    rw [casemateref03_Mul.l0, if_pos (by omega)]
    refine h.trans ?_
    show some _ = some _
    congr 2
    have e1 : (⟨fun e => if e < 0 then 0 else (toS q).c e⟩ : Ser GF) = toS q := Ser.ext fun e => by
      show (if e < 0 then 0 else (toS q).c e) = _; rw [if_neg (by omega)]
    have e2 : (⟨fun e => if e < i then 0 else (toS p).c e⟩ : Ser GF) = pw XX i * cst ((toS p).c i) + ⟨fun e => if e < i + 1 then 0 else (toS p).c e⟩ := Ser.ext fun e => by
      rw [add_c, pwXX_c, cst_c]
      show (if e < i then 0 else (toS p).c e) = _ + (if e < i + 1 then 0 else (toS p).c e)
      by_cases h1 : e < i
      · rw [if_pos h1, if_neg (by omega), if_pos (by omega), R2.add_zero]
      · rw [if_neg h1, if_pos (by omega)]
        by_cases h2 : e = i
        · subst h2; rw [if_pos (by omega), if_pos (by omega), R2.add_zero]
        · rw [if_neg (by omega), if_neg (by omega), r_zero_add]
    rw [e1, e2, r_add_mul]; ac_rfl
theorem r3_Mul (p q : List Int) (hp : El p) (hq : El q) (hn : p.length + q.length < 2 ^ 40) : Evt fun k => casemateref03_Mul.f k p q = some (pl (toS p * toS q) (p.length + q.length)) := by
  refine (r3_Mul_l0 p q hp hq hn p.length 0 (List.replicate (p.length + q.length) 0) (by omega) (by simp) (El.zeros _)).mono fun k h => ?_
  have e : wrap64 ((p.length : Int) + (q.length : Int)) = ((p.length + q.length : Nat) : Int) := by rw [w64 (by omega) (by omega)]; omega
  unfold casemateref03_Mul.f
  rw [e, if_pos (by omega), Int.toNat_natCast, if_pos (by omega)]
  refine h.trans ?_
  rw [toS_zeros, r_zero_add]
  congr 2
end Go.Proofs.Ytfjmbmlmbchglaa.L

/- What the functions of layer 3 (poly) and of its reference come to, in plain Lean: lists of elements as polynomials. No condition but that the lists are of elements, where it says so. -/
import Derived.Test.YtfpdloccmneabaaL2
import Derived.Test.YtfpdloccmneabaaPx0
import Derived.Test.YtfpdloccmneabaaPx6
import Derived.Test.YtfpdloccmneabaaPx10
import Derived.Test.YtfpdloccmneabaaMPoly
set_option linter.unusedVariables false
set_option linter.unusedSimpArgs false
namespace Go.Proofs.Ytfpdloccmneabaa.L
open Go Go.RowKit Go.Proofs.Ytfpdloccmneabaa.P Go.Proofs.YtfpdloccmneabaaW.PrintWords Go.Proofs.YtfpdloccmneabaaW.PrintLast Go.Proofs.YtfpdloccmneabaaW.PrintMore Go.Proofs.CsM
def El (l : List Int) : Prop := ∀ x ∈ l, isEl x
instance (l : List Int) : Decidable (El l) := by unfold El; exact inferInstance
theorem El.get {l : List Int} (h : El l) (i : Nat) : isEl (l.getD i 0) := by
  by_cases hi : i < l.length
  · have : l.getD i 0 = l[i] := by simp [hi]
    rw [this]; exact h _ (List.getElem_mem hi)
  · have : l.getD i 0 = 0 := by simp [List.getElem?_eq_none (Nat.le_of_not_lt hi)]
    rw [this]; decide
theorem El.nil : El [] := fun x hx => by simp at hx
theorem El.cons {a : Int} {l : List Int} : El (a :: l) ↔ isEl a ∧ El l := by simp [El]
theorem El.set {l : List Int} (h : El l) (i : Nat) {v : Int} (hv : isEl v) : El (l.set i v) := fun x hx => by
  rcases List.mem_or_eq_of_mem_set hx with h1 | h1
  · exact h x h1
  · rw [h1]; exact hv
theorem El.take {l : List Int} (h : El l) (n : Nat) : El (l.take n) := fun x hx => h x (List.mem_of_mem_take hx)
theorem El.append {l m : List Int} (h : El l) (h' : El m) : El (l ++ m) := fun x hx => by
  rcases List.mem_append.1 hx with h1 | h1
  · exact h x h1
  · exact h' x h1
theorem El.zeros (n : Nat) : El (List.replicate n 0) := fun x hx => by
  rw [(List.mem_replicate.1 hx).2]; decide
/-- A list as a polynomial. -/
def toS (l : List Int) : Ser GF := ⟨fun i => gof (l.getD i 0)⟩
theorem gof_zero : gof 0 = 0 := by rw [← gi_zero, gof_gi]
theorem toS_c (l : List Int) (i : Nat) : (toS l).c i = gof (l.getD i 0) := rfl
theorem gi_toS {l : List Int} (h : El l) (i : Nat) : gi ((toS l).c i) = l.getD i 0 := by rw [toS_c, gi_gof (h.get i)]
theorem toS_bd (l : List Int) : Bd (toS l) l.length := fun i hi => by
  rw [toS_c, show l.getD i 0 = 0 from by simp [List.getElem?_eq_none hi], gof_zero]
theorem toS_nil : toS [] = 0 := Bd.zero_of (toS_bd [])
theorem toS_zeros (n : Nat) : toS (List.replicate n 0) = 0 := Ser.ext fun i => by
  rw [toS_c, zero_c, show (List.replicate n (0 : Int)).getD i 0 = 0 from by simp [List.getElem?_replicate]; split <;> rfl, gof_zero]
/-- A list's first n coefficients laid down. -/
def ofS (f : Ser GF) (n : Nat) : List Int := (List.range n).map fun i => gi (f.c i)
theorem ofS_length (f : Ser GF) (n : Nat) : (ofS f n).length = n := by simp [ofS]
theorem ofS_get (f : Ser GF) (n i : Nat) : (ofS f n).getD i 0 = if i < n then gi (f.c i) else 0 := by
  unfold ofS
  by_cases h : i < n
  · rw [if_pos h]; simp [h]
  · rw [if_neg h]; simp [List.getElem?_eq_none, h]
theorem ofS_El (f : Ser GF) (n : Nat) : El (ofS f n) := fun x hx => by
  obtain ⟨i, _, rfl⟩ := List.mem_map.1 hx; exact gi_el _
theorem toS_ofS {f : Ser GF} {n : Nat} (h : Bd f n) : toS (ofS f n) = f := Ser.ext fun i => by
  rw [toS_c, ofS_get]
  by_cases hi : i < n
  · rw [if_pos hi, gof_gi]
  · rw [if_neg hi, gof_zero, h i (by omega)]
theorem list_ext {l m : List Int} (h : l.length = m.length) (h' : ∀ i, l.getD i 0 = m.getD i 0) : l = m := by
  apply List.ext_getElem h
  intro i h1 h2
  have := h' i
  simpa [h1, h2] using this
theorem el_ext {l m : List Int} (hl : El l) (hm : El m) (h : l.length = m.length) (e : toS l = toS m) : l = m :=
  list_ext h fun i => by rw [← gi_toS hl, ← gi_toS hm, e]
theorem normN_le (l : List Int) : ∀ n, normN l n ≤ n
  | 0 => Nat.le_refl _
  | n + 1 => by unfold normN; split; exact Nat.le_succ_of_le (normN_le l n); exact Nat.le_refl _
theorem normN_zero (l : List Int) : ∀ n i, normN l n ≤ i → i < n → l.getD i 0 = 0
  | 0, i, _, h => by omega
  | n + 1, i, h, hi => by
    unfold normN at h
    split at h
    · rename_i h0
      by_cases e : i = n
      · subst e; exact h0
      · exact normN_zero l n i h (by omega)
    · omega
theorem normN_top (l : List Int) : ∀ n, 0 < normN l n → l.getD (normN l n - 1) 0 ≠ 0
  | 0, h => by simp [normN] at h
  | n + 1, h => by
    unfold normN at h ⊢
    split
    · rename_i h0; rw [if_pos h0] at h; exact normN_top l n h
    · rename_i h0; exact h0
theorem fin_length (l : List Int) : (fin l).length = normN l l.length := by
  unfold fin; rw [List.length_take]; exact Nat.min_eq_left (normN_le l _)
theorem fin_le (l : List Int) : (fin l).length ≤ l.length := by rw [fin_length]; exact normN_le l _
theorem fin_get (l : List Int) (i : Nat) : (fin l).getD i 0 = l.getD i 0 := by
  by_cases h : i < normN l l.length
  · unfold fin; simp [List.getElem?_take, h]
  · have h1 : (fin l).getD i 0 = 0 := by simp [List.getElem?_eq_none (show (fin l).length ≤ i by rw [fin_length]; omega)]
    rw [h1]
    by_cases h2 : i < l.length
    · exact (normN_zero l _ i (by omega) h2).symm
    · simp [List.getElem?_eq_none (show l.length ≤ i by omega)]
theorem fin_El {l : List Int} (h : El l) : El (fin l) := h.take _
theorem toS_fin (l : List Int) : toS (fin l) = toS l := Ser.ext fun i => by rw [toS_c, toS_c, fin_get]
theorem fin_top (l : List Int) (h : 0 < (fin l).length) : l.getD ((fin l).length - 1) 0 ≠ 0 := by
  rw [fin_length] at h ⊢; exact normN_top l _ h
theorem fin_top' {l : List Int} (hl : El l) (h : 0 < (fin l).length) : (toS l).c ((fin l).length - 1) ≠ 0 := fun e => by
  refine fin_top l h ?_
  rw [← gi_toS hl, e, gi_zero]
theorem fin_bd (l : List Int) : Bd (toS l) (fin l).length := by rw [← toS_fin]; exact toS_bd _
theorem fin_len {l : List Int} (hl : El l) {d : Nat} (h : (toS l).c d ≠ 0) (h' : Bd (toS l) (d + 1)) : (fin l).length = d + 1 := by
  have h1 : d < (fin l).length := by
    refine Nat.lt_of_not_le fun e => h (fin_bd l d e)
  by_cases e : (fin l).length = d + 1
  · exact e
  · exact absurd (h' _ (by omega)) (fin_top' hl (by omega))
theorem fin_len0 {l : List Int} (hl : El l) (h : toS l = 0) : fin l = [] := by
  by_cases e : 0 < (fin l).length
  · exact absurd (by rw [h]; rfl) (fin_top' hl e)
  · exact List.eq_nil_of_length_eq_zero (by omega)
theorem fin_eq {l m : List Int} (hl : El l) (hm : El m) (h : toS l = toS m) : fin l = fin m := by
  refine el_ext (fin_El hl) (fin_El hm) ?_ (by rw [toS_fin, toS_fin, h])
  by_cases h0 : toS l = 0
  · rw [fin_len0 hl h0, fin_len0 hm (by rw [← h, h0])]
  · obtain ⟨d, _, h1, h2⟩ := exists_top (toS_bd l) h0
    rw [fin_len hl h1 h2, fin_len hm (by rw [← h]; exact h1) (by rw [← h]; exact h2)]
theorem fin_fin {l : List Int} (hl : El l) : fin (fin l) = fin l := fin_eq (fin_El hl) hl (toS_fin l)
/-- The list of a polynomial. -/
def pl (f : Ser GF) (n : Nat) : List Int := fin (ofS f n)
theorem pl_El (f : Ser GF) (n : Nat) : El (pl f n) := fin_El (ofS_El f n)
theorem toS_pl {f : Ser GF} {n : Nat} (h : Bd f n) : toS (pl f n) = f := by unfold pl; rw [toS_fin, toS_ofS h]
theorem fin_pl (f : Ser GF) (n : Nat) : fin (pl f n) = pl f n := fin_fin (ofS_El f n)
theorem fin_is_pl {l : List Int} (hl : El l) {f : Ser GF} {n : Nat} (h : Bd f n) (e : toS l = f) : fin l = pl f n := fin_eq hl (ofS_El f n) (by rw [toS_ofS h, e])
theorem pl_len {f : Ser GF} {n d : Nat} (h : Bd f n) (h1 : f.c d ≠ 0) (h2 : Bd f (d + 1)) : (pl f n).length = d + 1 := fin_len (ofS_El _ _) (by rw [toS_ofS h]; exact h1) (by rw [toS_ofS h]; exact h2)
def Evt (p : Nat → Prop) : Prop := ∃ K, ∀ k, K ≤ k → p k
theorem Evt.of {p : Nat → Prop} (K : Nat) (h : ∀ k, K < k → p k) : Evt p := ⟨K + 1, fun k hk => h k hk⟩
theorem Evt.all {p : Nat → Prop} (h : ∀ k, p k) : Evt p := ⟨0, fun k _ => h k⟩
theorem Evt.mono {p q : Nat → Prop} (h : Evt p) (f : ∀ k, p k → q k) : Evt q := by
  obtain ⟨K, h⟩ := h; exact ⟨K, fun k hk => f k (h k hk)⟩
theorem Evt.and {p q : Nat → Prop} (h : Evt p) (h' : Evt q) : Evt (fun k => p k ∧ q k) := by
  obtain ⟨K, h⟩ := h; obtain ⟨K', h'⟩ := h'
  exact ⟨K + K', fun k hk => ⟨h k (by omega), h' k (by omega)⟩⟩
theorem Evt.step {p q : Nat → Prop} (h : Evt p) (f : ∀ k, p k → q (k + 1)) : Evt q := by
  obtain ⟨K, h⟩ := h
  refine ⟨K + 1, fun k hk => ?_⟩
  obtain ⟨k, rfl⟩ := fuel (show 0 < k by omega)
  exact f k (h k (by omega))
theorem Evt.get {p : Nat → Prop} (h : Evt p) : ∃ k, p k := by obtain ⟨K, h⟩ := h; exact ⟨K, h K (Nat.le_refl _)⟩
def elB (x : Int) : Bool := decide (isEl x)
theorem all_elB (l : List Int) : l.all elB = decide (El l) := by
  rw [Bool.eq_iff_iff, List.all_eq_true, decide_eq_true_iff]
  exact ⟨fun h x hx => of_decide_eq_true (h x hx), fun h x hx => decide_eq_true (h x hx)⟩
theorem g_Mul0 (x : Int) {k : Nat} (hk : 13 < k) : ∃ y, gf_Mul.f k x 0 = some (y, if isEl x then 0 else 1) := by
  by_cases h : isEl x
  · refine ⟨gi (gof x * 0), ?_⟩
    rw [if_pos h]
    have := g_Mul (gof x) 0 hk
    rwa [gi_gof h, gi_zero] at this
  · exact ⟨0, by rw [if_neg h]; exact g_Mul_no x 0 (fun e => h e.1) k⟩
theorem p_is_l1 (ls : List (List Int)) (n x11 : Int) (l : List Int) (hl : l.length ≤ 2 ^ 60) (rest : Bool) (hrest : Evt fun k => poly_is.l0 k ls n (wrap64 (x11 + 1)) = some rest) :
    ∀ d i : Nat, i + d = l.length → Evt fun k => poly_is.l1 k ls n x11 l (l.length : Int) (i : Int) = some ((l.drop i).all elB && rest)
  | 0, i, hd => by
    refine hrest.step fun k h => ?_
    rw [poly_is.l1, if_neg (by omega), h, List.drop_of_length_le (by omega)]; rfl
  | d + 1, i, hd => by
    have hi : i < l.length := by omega
    refine ((p_is_l1 ls n x11 l hl rest hrest d (i + 1) (by omega)).and (Evt.of 13 fun k hk => g_Mul0 (l.getD i 0) hk)).step fun k ⟨ih, y, hy⟩ => ?_
    rw [poly_is.l1, if_pos (by omega), if_pos (by omega), if_pos (by omega), rd_nat, hy, Option.bind_some, w64 (by omega) (by omega), List.drop_eq_getElem_cons hi, List.all_cons]
    have e : l.getD i 0 = l[i] := by simp [hi]
    rw [e]
    by_cases h : isEl l[i]
    · rw [if_pos h, if_pos rfl, show elB l[i] = true from decide_eq_true h, Bool.true_and, show (i : Int) + 1 = ((i + 1 : Nat) : Int) from by omega]; exact ih
    · rw [if_neg h, if_neg (by simp), show elB l[i] = false from decide_eq_false h]; rfl
theorem p_is_l0 (ls : List (List Int)) (hn : ls.length ≤ 2 ^ 60) (hl : ∀ l ∈ ls, l.length ≤ 2 ^ 60) :
    ∀ d i : Nat, i + d = ls.length → Evt fun k => poly_is.l0 k ls (ls.length : Int) (i : Int) = some ((ls.drop i).all fun l => l.all elB)
  | 0, i, hd => by
    refine Evt.of 0 fun k hk => ?_
    obtain ⟨k, rfl⟩ := fuel hk
    rw [poly_is.l0, if_neg (by omega), List.drop_of_length_le (by omega)]; rfl
  | d + 1, i, hd => by
    have hi : i < ls.length := by omega
    have e : rd_L3 ls (i : Int) = ls[i] := by unfold rd_L3; rw [Int.toNat_natCast]; simp [hi]
    refine (p_is_l1 ls (ls.length : Int) (i : Int) ls[i] (hl _ (List.getElem_mem hi)) _ (by rw [w64 (by omega) (by omega), show (i : Int) + 1 = ((i + 1 : Nat) : Int) from by omega]; exact p_is_l0 ls hn hl d (i + 1) (by omega)) ls[i].length 0 (by omega)).step fun k h => ?_
    rw [poly_is.l0, if_pos (by omega), if_pos (by omega), if_pos (by omega), e, List.drop_eq_getElem_cons hi, List.all_cons]
    exact h
theorem p_is (ls : List (List Int)) (hn : ls.length ≤ 2 ^ 60) (hl : ∀ l ∈ ls, l.length ≤ 2 ^ 60) : Evt fun k => poly_is.f k ls = some (ls.all fun l => decide (El l)) := by
  refine (p_is_l0 ls hn hl ls.length 0 (by omega)).mono fun k h => ?_
  unfold poly_is.f
  rw [show (fun l => decide (El l)) = (fun l : List Int => l.all elB) from funext fun l => (all_elB l).symm]
  exact h
theorem p_is2 (l m : List Int) (hl : l.length ≤ 2 ^ 60) (hm : m.length ≤ 2 ^ 60) : Evt fun k => poly_is.f k [l, m] = some (decide (El l ∧ El m)) := by
  refine (p_is [l, m] (by simp) (fun x hx => by
    rcases List.mem_cons.1 hx with rfl | h
    · exact hl
    · rw [List.mem_singleton.1 h]; exact hm)).mono fun k h => ?_
  rw [h]; simp
theorem p_mul (a b : GF) : Evt fun k => poly_mul.f k (gi a) (gi b) = some (gi (a * b)) := Evt.of 13 fun k hk => by
  unfold poly_mul.f; rw [g_Mul a b hk, Option.bind_some]
/-- A row laid down from a place on, each coefficient times an element. -/
theorem p_layL (m : Nat → Int → Option Int) (b : GF) (hm : ∀ a : GF, Evt fun k => m k (gi a) = some (gi (a * b))) :
    ∀ (p : List Int) (i : Nat) (l : List Int), El p → El l → i + p.length ≤ l.length → ∃ r, (Evt fun k => layL (m k) p i l = some r) ∧ r.length = l.length ∧ El r ∧ toS r = toS l + pw XX i * (cst b * toS p)
  | [], i, l, hp, hl, hi => ⟨l, Evt.all fun k => rfl, rfl, hl, by rw [toS_nil, r_mul_zero, r_mul_zero, R2.add_zero]⟩
  | x :: p, i, l, hp, hl, hi => by
    have hx : isEl x := (El.cons.1 hp).1
    have hin : i < l.length := by simp at hi; omega
    obtain ⟨v, hv⟩ : ∃ v, v = Go.bits .xor .i64 (l.getD i 0) (gi (gof x * b)) := ⟨_, rfl⟩
    have hv2 : v = gi ((toS l).c i + gof x * b) := by rw [hv, ← gi_toS hl, xor_gi]
    obtain ⟨r, h1, h2, h3, h4⟩ := p_layL m b hm p (i + 1) (l.set i v) (El.cons.1 hp).2 (hl.set i (by rw [hv2]; exact gi_el _)) (by rw [List.length_set]; simp at hi; omega)
    refine ⟨r, (h1.and (hm (gof x))).mono fun k ⟨a1, a2⟩ => ?_, by rw [h2, List.length_set], h3, ?_⟩
    · rw [gi_gof hx] at a2
      unfold layL
      rw [a2, Option.bind_some, if_pos hin, ← hv]; exact a1
    · rw [h4]
      refine Ser.ext fun j => ?_
      rw [add_c, add_c, pwXX_c, pwXX_c, cst_mul_c, cst_mul_c, toS_c (l.set i v), getD_set l i j v hin]
      by_cases e : i = j
      · subst e
        rw [if_pos rfl, if_neg (by omega), if_pos (Nat.le_refl _), R2.add_zero, hv2, gof_gi, Nat.sub_self, toS_c (x :: p), R2.mul_comm b]; rfl
      · rw [if_neg e]
        show (toS l).c j + _ = _
        by_cases h : i ≤ j
        · rw [if_pos (show i + 1 ≤ j by omega), if_pos h]
          obtain ⟨d, rfl⟩ : ∃ d, j = i + 1 + d := ⟨j - i - 1, by omega⟩
          rw [show i + 1 + d - (i + 1) = d from by omega, show i + 1 + d - i = d + 1 from by omega, toS_c (x :: p)]
          simp [toS_c]
        · rw [if_neg (by omega), if_neg h]
theorem toS_cons (x : Int) (p : List Int) : toS (x :: p) = cst (gof x) + XX * toS p := Ser.ext fun i => by
  rw [add_c, cst_c, XX_mul_c, toS_c]
  cases i with
  | zero => rw [if_pos rfl, if_pos rfl, R2.add_zero]; rfl
  | succ i => rw [if_neg (by omega), if_neg (by omega), r_zero_add, Nat.add_sub_cancel]; rfl
theorem p_mulL (q : List Int) (hq : El q) : ∀ (p : List Int) (i : Nat) (l : List Int), El p → El l → i + p.length + q.length ≤ l.length → ∃ r, (Evt fun k => mulL (poly_mul.f k) q p i l = some r) ∧ r.length = l.length ∧ El r ∧ toS r = toS l + pw XX i * (toS p * toS q)
  | [], i, l, hp, hl, hi => ⟨l, Evt.all fun k => rfl, rfl, hl, by rw [toS_nil, r_zero_mul, r_mul_zero, R2.add_zero]⟩
  | x :: p, i, l, hp, hl, hi => by
    have hx : isEl x := (El.cons.1 hp).1
    obtain ⟨r, h1, h2, h3, h4⟩ := p_layL (fun k a => poly_mul.f k a x) (gof x) (fun a => by have := p_mul a (gof x); rwa [gi_gof hx] at this) q i l hq hl (by simp at hi; omega)
    obtain ⟨r', h1', h2', h3', h4'⟩ := p_mulL q hq p (i + 1) r (El.cons.1 hp).2 h3 (by rw [h2]; simp at hi; omega)
    refine ⟨r', (h1.and h1').mono fun k ⟨a1, a2⟩ => ?_, by rw [h2', h2], h3', ?_⟩
    · unfold mulL; rw [a1, Option.bind_some]; exact a2
    · rw [h4', h4, toS_cons, r_add_mul, R2.mul_add, pw_succ]; ac_rfl
theorem p_Mul (l m : List Int) (hl : El l) (hm : El m) (hn : l.length + m.length ≤ 35184372088832) : Evt fun k => poly_Mul.f k l m = some (pl (toS l * toS m) (l.length + m.length), 0) := by
  obtain ⟨r, h1, h2, h3, h4⟩ := p_mulL m hm l 0 (List.replicate (l.length + m.length) 0) hl (El.zeros _) (by simp)
  have e : fin r = pl (toS l * toS m) (l.length + m.length) := by
    refine fin_is_pl h3 (((toS_bd l).mul' (toS_bd m)).mono (by omega)) ?_
    rw [h4, toS_zeros, r_zero_add, pw_zero, r_one_mul]
  refine ((p_is2 l m (by omega) (by omega)).and h1).mono fun k ⟨a1, a2⟩ => ?_
  unfold poly_Mul.f poly_Mul.L
  rw [a1, Option.bind_some, if_pos (decide_eq_true ⟨hl, hm⟩), if_pos hn, a2, Option.bind_some, e]
end Go.Proofs.Ytfpdloccmneabaa.L

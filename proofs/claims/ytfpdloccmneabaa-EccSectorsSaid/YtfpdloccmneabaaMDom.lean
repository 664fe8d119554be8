/- Plain mathematics: polynomials over the ring of two and over the field of 8192: products, degrees, roots, least polynomials. No condition. -/
import Derived.Test.YtfpdloccmneabaaMPoly
set_option linter.unusedVariables false
namespace Go.Proofs.CsM
instance : R2 Bool where
  add := xor
  mul := and
  zero := false
  one := true
  add_assoc := by decide
  add_comm := by decide
  add_zero := by decide
  add_self := by decide
  mul_assoc := by decide
  mul_comm := by decide
  mul_one := by decide
  mul_add := by decide
theorem b_zero : (0 : Bool) = false := rfl
theorem b_one : (1 : Bool) = true := rfl
theorem b_ne0 {a : Bool} : a ≠ 0 ↔ a = true := by cases a <;> decide
class RD (K : Type) extends R2 K where
  mul_ne : ∀ a b : K, a ≠ 0 → b ≠ 0 → a * b ≠ 0
instance : RD GF := { (inferInstance : R2 GF) with mul_ne := fun _ _ => gmul_ne }
instance : RD Bool := { (inferInstance : R2 Bool) with mul_ne := by decide }
section
variable {K : Type} [RD K] {f g q a b : Ser K} {n m : Nat}
theorem dtop (hf : Bd f n) (h0 : f ≠ 0) : ∃ d, d < n ∧ f.c d ≠ 0 ∧ Bd f (d + 1) := by
  induction n with
  | zero => exact absurd hf.zero_of h0
  | succ n ih =>
    by_cases h : f.c n = 0
    · obtain ⟨d, hd, h1, h2⟩ := ih (fun i hi => by
        by_cases e : i = n
        · subst e; exact h
        · exact hf i (by omega))
      exact ⟨d, by omega, h1, h2⟩
    · exact ⟨n, by omega, h, hf⟩
end
def sz (c : Nat → Bool) : Nat → Nat
  | 0 => 0
  | n + 1 => if c n then n + 1 else sz c n
theorem sz_zero (c : Nat → Bool) : ∀ n i, sz c n ≤ i → i < n → c i = false
  | 0, i, _, h => absurd h (Nat.not_lt_zero _)
  | n + 1, i, h, h' => by
    unfold sz at h
    by_cases e : c n = true
    · rw [if_pos e] at h; omega
    · rw [if_neg e] at h
      by_cases ei : i = n
      · subst ei; simpa using e
      · exact sz_zero c n i h (by omega)
theorem sz_top (c : Nat → Bool) : ∀ n, 0 < sz c n → c (sz c n - 1) = true
  | 0, h => absurd h (Nat.not_lt_zero _)
  | n + 1, h => by
    unfold sz at h ⊢
    by_cases e : c n = true
    · rw [if_pos e]; exact e
    · rw [if_neg e] at h ⊢; exact sz_top c n h
theorem sz_bd {f : Ser Bool} {n : Nat} (h : Bd f n) : Bd f (sz f.c n) := fun i hi => by
  by_cases e : i < n
  · exact sz_zero f.c n i hi e
  · exact h i (by omega)
theorem sz_is {f : Ser Bool} {n d : Nat} (hd : f.c d = true) (h : Bd f (d + 1)) (hn : d < n) : sz f.c n = d + 1 := by
  have h1 : d < sz f.c n := by
    have := sz_zero f.c n d
    refine Nat.lt_of_not_le fun hle => ?_
    have := this hle hn
    rw [hd] at this; cases this
  refine Nat.le_antisymm (Nat.le_of_not_lt fun h2 => ?_) h1
  have h3 := sz_top f.c n (by omega)
  have h4 := h (sz f.c n - 1) (by omega)
  rw [h3] at h4; exact absurd h4 (by decide)
theorem sz_0 {f : Ser Bool} (n : Nat) (h : f = 0) : sz f.c n = 0 := by
  refine Nat.eq_zero_of_not_pos fun h1 => ?_
  have := sz_top f.c n h1
  rw [h] at this; cases this
theorem sz_0' {f : Ser Bool} {n : Nat} (hb : Bd f n) (h : sz f.c n = 0) : f = 0 := by
  have := sz_bd hb; rw [h] at this; exact this.zero_of
theorem sz_any {f : Ser Bool} {n m : Nat} (hn : Bd f n) (hm : Bd f m) : sz f.c n = sz f.c m := by
  by_cases h : sz f.c n = 0
  · rw [h]; exact (sz_0 m (sz_0' hn h)).symm
  · have h1 := sz_top f.c n (by omega)
    have h2 : sz f.c n - 1 < m := by
      refine Nat.lt_of_not_le fun hle => ?_
      have := hm _ hle; rw [h1] at this; exact absurd this (by decide)
    have := sz_is (f := f) (n := m) h1 (by rw [show sz f.c n - 1 + 1 = sz f.c n from by omega]; exact sz_bd hn) h2
    omega
def b2g (b : Bool) : GF := if b then 1 else 0
theorem b2g_add (a b : Bool) : b2g (a + b) = b2g a + b2g b := by cases a <;> cases b <;> decide
theorem b2g_mul (a b : Bool) : b2g (a * b) = b2g a * b2g b := by cases a <;> cases b <;> decide
theorem b2g_inj {a b : Bool} (h : b2g a = b2g b) : a = b := by cases a <;> cases b <;> first | rfl | exact absurd h (by decide)
theorem b2g_sq (a : Bool) : b2g a * b2g a = b2g a := by cases a <;> decide
theorem b2g_sm (n : Nat) (f : Nat → Bool) : b2g (sm n f) = sm n (fun i => b2g (f i)) := by
  induction n with
  | zero => rfl
  | succ n ih => rw [sm_succ, sm_succ, b2g_add, ih]
def lift (f : Ser Bool) : Ser GF := ⟨fun i => b2g (f.c i)⟩
theorem lift_c (f : Ser Bool) (i : Nat) : (lift f).c i = b2g (f.c i) := rfl
theorem lift_add (f g : Ser Bool) : lift (f + g) = lift f + lift g := Ser.ext fun i => b2g_add _ _
theorem lift_mul (f g : Ser Bool) : lift (f * g) = lift f * lift g := Ser.ext fun k => by
  rw [lift_c, mul_c, mul_c, b2g_sm]
  exact sm_congr fun i _ => b2g_mul _ _
theorem lift_one : lift 1 = 1 := Ser.ext fun i => by rw [lift_c, one_c, one_c]; split <;> rfl
theorem lift_bd {f : Ser Bool} {n : Nat} (h : Bd f n) : Bd (lift f) n := fun i hi => by rw [lift_c, h i hi]; rfl
theorem lift_bd' {f : Ser Bool} {n : Nat} (h : Bd (lift f) n) : Bd f n := fun i hi => b2g_inj (by rw [← lift_c, h i hi]; rfl)
/-- The value of a row of bits at an element. -/
def vb (f : Ser Bool) (n : Nat) (x : GF) : GF := ev (lift f) n x
theorem vb_bd {f : Ser Bool} {n m : Nat} (h : Bd f n) (hnm : n ≤ m) (x : GF) : vb f m x = vb f n x := ev_bd (lift_bd h) hnm x
theorem vb_any {f : Ser Bool} {n m : Nat} (h : Bd f n) (h' : Bd f m) (x : GF) : vb f n x = vb f m x := by
  rcases Nat.le_total n m with hnm | hnm
  · exact (vb_bd h hnm x).symm
  · exact vb_bd h' hnm x
theorem vb_add (f g : Ser Bool) (n : Nat) (x : GF) : vb (f + g) n x = vb f n x + vb g n x := by unfold vb; rw [lift_add, ev_add]
theorem vb_mul {f g : Ser Bool} {n m : Nat} (hf : Bd f n) (hg : Bd g m) (x : GF) : vb (f * g) (n + m) x = vb f n x * vb g m x := by unfold vb; rw [lift_mul, ev_mul (lift_bd hf) (lift_bd hg)]
theorem pw_sq (x : GF) (i : Nat) : pw (x * x) i = pw x i * pw x i := mul_pw x x i
theorem vb_sq (f : Ser Bool) (n : Nat) (x : GF) : vb f n (x * x) = vb f n x * vb f n x := by
  unfold vb ev
  rw [sq_sm]
  refine sm_congr fun i _ => ?_
  rw [lift_c, pw_sq]
  have := b2g_sq (f.c i)
  calc b2g (f.c i) * (pw x i * pw x i) = (b2g (f.c i) * b2g (f.c i)) * (pw x i * pw x i) := by rw [this]
    _ = _ := by ac_rfl
theorem vb_pow2 (f : Ser Bool) (n : Nat) (x : GF) (k : Nat) : vb f n (pw x (2 ^ k)) = pw (vb f n x) (2 ^ k) := by
  induction k with
  | zero => rw [Nat.pow_zero, pw_one, pw_one]
  | succ k ih => rw [Nat.pow_succ, pw_mul, pw_two, vb_sq, ih, pw_mul, pw_two]
theorem vb_root {f : Ser Bool} {n : Nat} {x : GF} (h : vb f n x = 0) (k : Nat) : vb f n (pw x (2 ^ k)) = 0 := by
  rw [vb_pow2, h, zero_pw _ (Nat.pow_pos (by omega))]
theorem lin_split (f : Ser GF) (n : Nat) (h : Bd f (n + 1)) (r : GF) : ∃ q : Ser GF, Bd q n ∧ f = (XX + cst r) * q + cst (ev f (n + 1) r) := by
  refine ⟨⟨fun i => sm (n - i) (fun j => f.c (i + 1 + j) * pw r j)⟩, fun i hi => ?_, Ser.ext fun k => ?_⟩
  · show sm (n - i) _ = 0
    rw [show n - i = 0 from by omega]; rfl
  · rw [r_add_mul, add_c, add_c, XX_mul_c, cst_mul_c, cst_c]
    have step : ∀ i, i < n → sm (n - i) (fun j => f.c (i + 1 + j) * pw r j) = f.c (i + 1) + r * sm (n - (i + 1)) (fun j => f.c (i + 1 + 1 + j) * pw r j) := by
      intro i hi
      rw [show n - i = n - (i + 1) + 1 from by omega, sm_front, pw_zero, R2.mul_one, Nat.add_zero, ← sm_mul_left]
      congr 1
      refine sm_congr fun j _ => ?_
      rw [pw_succ, show i + 1 + (j + 1) = i + 1 + 1 + j from by omega]; ac_rfl
    by_cases h0 : k = 0
    · subst h0
      rw [if_pos rfl, if_pos rfl, r_zero_add]
      have : ev f (n + 1) r = f.c 0 + r * sm (n - 0) (fun j => f.c (0 + 1 + j) * pw r j) := by
        unfold ev
        rw [sm_front, pw_zero, R2.mul_one, Nat.sub_zero, ← sm_mul_left]
        congr 1
        refine sm_congr fun j _ => ?_
        rw [pw_succ, show 0 + 1 + j = j + 1 from by omega]; ac_rfl
      rw [this]
      show f.c 0 = r * sm (n - 0) (fun j => f.c (0 + 1 + j) * pw r j) + (f.c 0 + r * sm (n - 0) (fun j => f.c (0 + 1 + j) * pw r j))
      rw [R2.add_comm (f.c 0), r_add_cancel_left]
    · rw [if_neg h0, if_neg h0, R2.add_zero]
      obtain ⟨i, rfl⟩ : ∃ i, k = i + 1 := ⟨k - 1, by omega⟩
      show f.c (i + 1) = sm (n - (i + 1 - 1)) (fun j => f.c (i + 1 - 1 + 1 + j) * pw r j) + r * sm (n - (i + 1)) (fun j => f.c (i + 1 + 1 + j) * pw r j)
      rw [Nat.add_sub_cancel]
      by_cases hi : i < n
      · rw [step i hi, r_add_cancel]
      · rw [h (i + 1) (by omega), show n - i = 0 from by omega, show n - (i + 1) = 0 from by omega, sm_zero, sm_zero, r_mul_zero, R2.add_zero]
/-- A polynomial with as many roots as it has coefficients is 0. -/
theorem roots_zero : ∀ (n : Nat) (f : Ser GF) (xs : List GF), Bd f n → xs.Nodup → n ≤ xs.length → (∀ x ∈ xs, ev f n x = 0) → f = 0
  | 0, f, xs, hf, _, _, _ => hf.zero_of
  | n + 1, f, [], _, _, h, _ => absurd h (by simp)
  | n + 1, f, r :: xs, hf, hn, hl, hr => by
    obtain ⟨q, hq, e⟩ := lin_split f n hf r
    rw [hr r (by simp), cst_zero, R2.add_zero] at e
    have hq0 : q = 0 := by
      refine roots_zero n q xs hq (List.nodup_cons.1 hn).2 (by simpa using hl) fun x hx => ?_
      have h1 := hr x (by simp [hx])
      rw [e, ← ev_bd (n := n + 1) (m := 2 + n) (by rw [← e]; exact hf) (by omega), ev_mul (Bd_XX.add ((Bd_cst r).mono (by omega))) hq, ev_lin] at h1
      refine Classical.byContradiction fun h2 => ?_
      refine gmul_ne (fun h3 => ?_) h2 h1
      have : x = r := r_add_eq_zero.1 h3
      exact (List.nodup_cons.1 hn).1 (this ▸ hx)
    rw [e, hq0, r_mul_zero]
def lins : List GF → Ser GF
  | [] => 1
  | x :: xs => (XX + cst x) * lins xs
theorem Bd_lin1 (x : GF) : Bd (XX + cst x : Ser GF) 2 := Bd_XX.add ((Bd_cst x).mono (by omega))
theorem lin_top1 (x : GF) : (XX + cst x : Ser GF).c 1 = 1 := by
  rw [add_c, cst_c, if_neg (by omega), R2.add_zero]; rfl
theorem lins_bd : ∀ xs : List GF, Bd (lins xs) (xs.length + 1)
  | [] => Bd_one
  | x :: xs => by
    have := (Bd_lin1 x).mul (n := 1) (lins_bd xs)
    rw [List.length_cons]
    exact this.mono (by omega)
theorem lins_top : ∀ xs : List GF, (lins xs).c xs.length = 1
  | [] => rfl
  | x :: xs => by
    have := mul_top (n := 1) (Bd_lin1 x) (lins_bd xs)
    rw [lin_top1, lins_top xs, R2.mul_one] at this
    rw [List.length_cons, Nat.add_comm]
    exact this
theorem lins_append : ∀ xs ys : List GF, lins (xs ++ ys) = lins xs * lins ys
  | [], ys => (r_one_mul _).symm
  | x :: xs, ys => by show (XX + cst x) * lins (xs ++ ys) = (XX + cst x) * lins xs * lins ys; rw [lins_append, R2.mul_assoc]
theorem lins_perm {xs ys : List GF} (h : xs.Perm ys) : lins xs = lins ys := by
  induction h with
  | nil => rfl
  | cons x _ ih => show _ * _ = _ * _; rw [ih]
  | swap x y l => show (XX + cst y) * ((XX + cst x) * lins l) = (XX + cst x) * ((XX + cst y) * lins l); ac_rfl
  | trans _ _ ih1 ih2 => exact ih1.trans ih2
theorem lins_ev (xs : List GF) (y : GF) : ev (lins xs) (xs.length + 1) y = 0 ↔ y ∈ xs := by
  induction xs with
  | nil =>
    have : ev (lins []) 1 y = 1 := by
      show ev (1 : Ser GF) 1 y = 1
      rw [show (1 : Ser GF) = cst 1 from rfl, ev_cst _ _ (by omega)]
    simp [this, g_one_ne]
  | cons x xs ih =>
    have e : ev (lins (x :: xs)) ((x :: xs).length + 1) y = (y + x) * ev (lins xs) (xs.length + 1) y := by
      rw [← ev_bd (lins_bd (x :: xs)) (m := 2 + (xs.length + 1)) (by simp; omega)]
      show ev ((XX + cst x) * lins xs) _ y = _
      rw [ev_mul (Bd_lin1 x) (lins_bd xs), ev_lin]
    rw [e, List.mem_cons, ← ih]
    constructor
    · intro h
      refine Classical.byContradiction fun h1 => ?_
      refine gmul_ne (fun h2 => h1 (.inl (r_add_eq_zero.1 h2))) (fun h2 => h1 (.inr h2)) h
    · rintro (h | h)
      · rw [h, R2.add_self, r_zero_mul]
      · rw [h, r_mul_zero]
theorem lins_ev' (xs : List GF) {n : Nat} (hn : xs.length < n) (y : GF) : ev (lins xs) n y = 0 ↔ y ∈ xs := by
  rw [ev_bd (lins_bd xs) hn, lins_ev]
/-- The squares of the coefficients. -/
def frob (f : Ser GF) : Ser GF := ⟨fun i => f.c i * f.c i⟩
theorem frob_mul (f g : Ser GF) : frob (f * g) = frob f * frob g := Ser.ext fun k => by
  show (f * g).c k * (f * g).c k = _
  rw [mul_c, sq_sm, mul_c]
  refine sm_congr fun i _ => ?_
  show f.c i * g.c (k - i) * (f.c i * g.c (k - i)) = f.c i * f.c i * (g.c (k - i) * g.c (k - i))
  ac_rfl
theorem frob_lin (x : GF) : frob (XX + cst x) = XX + cst (x * x) := Ser.ext fun i => by
  show (XX + cst x : Ser GF).c i * (XX + cst x : Ser GF).c i = _
  rw [add_c, add_c, r_sq_add, cst_c, cst_c]
  congr 1
  · show (if i = 1 then (1 : GF) else 0) * (if i = 1 then (1 : GF) else 0) = if i = 1 then (1 : GF) else 0
    split
    · exact R2.mul_one _
    · exact r_mul_zero _
  · split
    · rfl
    · exact r_mul_zero _
theorem frob_lins : ∀ xs : List GF, frob (lins xs) = lins (xs.map fun x => x * x)
  | [] => Ser.ext fun i => by
    show (1 : Ser GF).c i * (1 : Ser GF).c i = (1 : Ser GF).c i
    rw [one_c]; split
    · exact R2.mul_one _
    · exact r_mul_zero _
  | x :: xs => by
    show frob ((XX + cst x) * lins xs) = (XX + cst (x * x)) * lins (xs.map fun x => x * x)
    rw [frob_mul, frob_lin, frob_lins xs]
/-- The bits of a polynomial whose coefficients are bits. -/
def bitsOf (f : Ser GF) : Ser Bool := ⟨fun i => decide (f.c i = 1)⟩
theorem lift_bitsOf {f : Ser GF} (h : frob f = f) : lift (bitsOf f) = f := Ser.ext fun i => by
  have h1 : f.c i * f.c i = f.c i := congrArg (fun s => s.c i) h
  show b2g (decide (f.c i = 1)) = f.c i
  rcases g_sq_self h1 with h2 | h2
  · rw [h2]; rfl
  · rw [h2]; rfl
def conj (x : GF) (k : Nat) : List GF := (List.range k).map fun i => pw x (2 ^ i)
theorem conj_length (x : GF) (k : Nat) : (conj x k).length = k := by simp [conj]
theorem conj_succ (x : GF) (k : Nat) : conj x (k + 1) = x :: conj (x * x) k := by
  unfold conj
  rw [List.range_succ_eq_map, List.map_cons, List.map_map, Nat.pow_zero, pw_one]
  congr 1
  refine List.map_congr_left fun i _ => ?_
  show pw x (2 ^ (i + 1)) = pw (x * x) (2 ^ i)
  rw [Nat.pow_succ, Nat.mul_comm, pw_mul, pw_two]
theorem conj_snoc (x : GF) (k : Nat) : conj x (k + 1) = conj x k ++ [pw x (2 ^ k)] := by
  unfold conj; rw [List.range_succ, List.map_append]; rfl
theorem conj_map (x : GF) (k : Nat) : (conj x k).map (fun y => y * y) = conj (x * x) k := by
  unfold conj
  rw [List.map_map]
  refine List.map_congr_left fun i _ => ?_
  show pw x (2 ^ i) * pw x (2 ^ i) = pw (x * x) (2 ^ i)
  rw [mul_pw]
theorem conj_perm (x : GF) : (conj (x * x) 13).Perm (conj x 13) := by
  have h1 : conj x (13 + 1) = x :: conj (x * x) 13 := conj_succ x 13
  have h2 : conj x (13 + 1) = conj x 13 ++ [pw x (2 ^ 13)] := conj_snoc x 13
  have h3 : pw x (2 ^ 13) = x := pw_8192 x
  rw [h3] at h2
  have h4 : (x :: conj (x * x) 13).Perm (x :: conj x 13) := by
    rw [← h1, h2]
    exact (List.perm_append_comm (l₁ := conj x 13) (l₂ := [x]))
  exact List.Perm.cons_inv h4
theorem frob_conj (x : GF) : frob (lins (conj x 13)) = lins (conj x 13) := by
  rw [frob_lins, conj_map, lins_perm (conj_perm x)]
theorem gcd_check : allb (fun i => allb (fun j => !(decide (j < 13) && decide (i < j)) || Nat.gcd (2 ^ j - 2 ^ i) 8191 == 1) 4 0) 4 0 = true := by decide +kernel
theorem pow_ne_one {x : GF} (h0 : x ≠ 0) (h1 : x ≠ 1) {i j : Nat} (hij : i < j) (hj : j < 13) : pw x (2 ^ i) ≠ pw x (2 ^ j) := fun e => by
  have hle : 2 ^ i ≤ 2 ^ j := Nat.pow_le_pow_right (by omega) (by omega)
  have e1 : pw x (2 ^ j - 2 ^ i) = 1 := by
    have h2 : pw x (2 ^ i) * pw x (2 ^ j - 2 ^ i) = pw x (2 ^ i) * 1 := by rw [← pw_add, Nat.add_sub_cancel' hle, R2.mul_one, e]
    have h3 : pw x (2 ^ i) * (pw x (2 ^ j - 2 ^ i) + 1) = 0 := by rw [R2.mul_add, h2, R2.add_self]
    refine Classical.byContradiction fun h4 => ?_
    exact gmul_ne (pw_ne h0 _) (fun h5 => h4 (r_add_eq_zero.1 h5)) h3
  have h5 := allb_sound 4 0 (allb_sound 4 0 gcd_check i (by omega) (by omega)) j (by omega) (by omega)
  rw [decide_eq_true hj, decide_eq_true hij] at h5
  have h6 : Nat.gcd (2 ^ j - 2 ^ i) 8191 = 1 := by simpa using h5
  have h7 := pw_gcd _ _ e1 (pw_order h0)
  rw [h6, pw_one] at h7
  exact h1 h7
/-- The powers of an element that have its least polynomial. -/
def cj (x : GF) : List GF := if x = 1 then [1] else conj x 13
theorem frob_cj (x : GF) : frob (lins (cj x)) = lins (cj x) := by
  unfold cj
  split
  · rw [frob_lins]; show lins [1 * 1] = lins [1]; rw [R2.mul_one]
  · exact frob_conj x
/-- The least polynomial. -/
def mp (x : GF) : Ser Bool := bitsOf (lins (cj x))
theorem lift_mp (x : GF) : lift (mp x) = lins (cj x) := lift_bitsOf (frob_cj x)
def mdeg (x : GF) : Nat := if x = 1 then 1 else 13
theorem cj_length (x : GF) : (cj x).length = mdeg x := by unfold cj mdeg; split; rfl; exact conj_length _ _
theorem mp_bd (x : GF) : Bd (mp x) (mdeg x + 1) := lift_bd' (by rw [lift_mp, ← cj_length]; exact lins_bd _)
end Go.Proofs.CsM

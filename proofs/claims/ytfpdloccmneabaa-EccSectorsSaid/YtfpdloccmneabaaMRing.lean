/- Plain mathematics: commutative rings in which a + a = 0, finite sums over them, and series (functions from the natural numbers) with their product. No condition. -/
set_option linter.unusedVariables false
namespace Go.Proofs.CsM
/-- Is it so of all numbers from lo on, 2^k of them? -/
def allb (p : Nat → Bool) : Nat → Nat → Bool
  | 0, lo => p lo
  | k + 1, lo => allb p k lo && allb p k (lo + 2 ^ k)
theorem allb_sound {p : Nat → Bool} : ∀ k lo, allb p k lo = true → ∀ i, lo ≤ i → i < lo + 2 ^ k → p i = true
  | 0, lo, h, i, h1, h2 => by
    have : i = lo := by simp at h2; omega
    subst this; exact h
  | k + 1, lo, h, i, h1, h2 => by
    simp only [allb, Bool.and_eq_true] at h
    by_cases hi : i < lo + 2 ^ k
    · exact allb_sound k lo h.1 i h1 hi
    · exact allb_sound k (lo + 2 ^ k) h.2 i (by omega) (by rw [Nat.pow_succ] at h2; omega)
class R2 (K : Type) extends Add K, Mul K, Zero K, One K where
  add_assoc : ∀ a b c : K, a + b + c = a + (b + c)
  add_comm : ∀ a b : K, a + b = b + a
  add_zero : ∀ a : K, a + 0 = a
  add_self : ∀ a : K, a + a = 0
  mul_assoc : ∀ a b c : K, a * b * c = a * (b * c)
  mul_comm : ∀ a b : K, a * b = b * a
  mul_one : ∀ a : K, a * 1 = a
  mul_add : ∀ a b c : K, a * (b + c) = a * b + a * c
section
variable {K : Type} [R2 K]
instance : Std.Associative (α := K) (· + ·) := ⟨R2.add_assoc⟩
instance : Std.Commutative (α := K) (· + ·) := ⟨R2.add_comm⟩
instance : Std.Associative (α := K) (· * ·) := ⟨R2.mul_assoc⟩
instance : Std.Commutative (α := K) (· * ·) := ⟨R2.mul_comm⟩
theorem r_zero_add (a : K) : 0 + a = a := by rw [R2.add_comm, R2.add_zero]
theorem r_one_mul (a : K) : 1 * a = a := by rw [R2.mul_comm, R2.mul_one]
theorem r_add_mul (a b c : K) : (a + b) * c = a * c + b * c := by rw [R2.mul_comm, R2.mul_add, R2.mul_comm c a, R2.mul_comm c b]
theorem r_cancel {a b c : K} (h : a + b = a + c) : b = c := by
  have : a + (a + b) = a + (a + c) := by rw [h]
  rwa [← R2.add_assoc, ← R2.add_assoc, R2.add_self, r_zero_add, r_zero_add] at this
theorem r_mul_zero (a : K) : a * 0 = 0 := by
  have h : a * 0 + a * 0 = a * 0 + 0 := by rw [← R2.mul_add, R2.add_zero, R2.add_zero]
  exact r_cancel h
theorem r_zero_mul (a : K) : 0 * a = 0 := by rw [R2.mul_comm, r_mul_zero]
theorem r_add_eq_zero {a b : K} : a + b = 0 ↔ a = b := by
  constructor
  · intro h
    have : a + b + b = b := by rw [h, r_zero_add]
    rwa [R2.add_assoc, R2.add_self, R2.add_zero] at this
  · rintro rfl; exact R2.add_self _
theorem r_add_cancel (a b : K) : a + b + b = a := by rw [R2.add_assoc, R2.add_self, R2.add_zero]
theorem r_add_cancel_left (a b : K) : a + (a + b) = b := by rw [← R2.add_assoc, R2.add_self, r_zero_add]
theorem r_sq_add (a b : K) : (a + b) * (a + b) = a * a + b * b := by
  rw [R2.mul_add, r_add_mul, r_add_mul, R2.mul_comm b a]
  have : a * a + a * b + (a * b + b * b) = a * a + b * b + (a * b + a * b) := by ac_rfl
  rw [this, R2.add_self, R2.add_zero]
def sm (n : Nat) (f : Nat → K) : K := match n with
  | 0 => 0
  | n + 1 => sm n f + f n
theorem sm_zero (f : Nat → K) : sm 0 f = 0 := rfl
theorem sm_succ (n : Nat) (f : Nat → K) : sm (n + 1) f = sm n f + f n := rfl
theorem sm_congr {n : Nat} {f g : Nat → K} (h : ∀ i, i < n → f i = g i) : sm n f = sm n g := by
  induction n with
  | zero => rfl
  | succ n ih => rw [sm_succ, sm_succ, ih (fun i hi => h i (by omega)), h n (by omega)]
theorem sm_all0 {n : Nat} {f : Nat → K} (h : ∀ i, i < n → f i = 0) : sm n f = 0 := by
  induction n with
  | zero => rfl
  | succ n ih => rw [sm_succ, ih (fun i hi => h i (by omega)), h n (by omega), R2.add_zero]
theorem sm_add (n : Nat) (f g : Nat → K) : sm n (fun i => f i + g i) = sm n f + sm n g := by
  induction n with
  | zero => exact (R2.add_zero _).symm
  | succ n ih => rw [sm_succ, sm_succ, sm_succ, ih]; ac_rfl
theorem sm_mul_left (n : Nat) (c : K) (f : Nat → K) : sm n (fun i => c * f i) = c * sm n f := by
  induction n with
  | zero => exact (r_mul_zero _).symm
  | succ n ih => rw [sm_succ, sm_succ, ih, R2.mul_add]
theorem sm_mul_right (n : Nat) (c : K) (f : Nat → K) : sm n (fun i => f i * c) = sm n f * c := by
  rw [R2.mul_comm, ← sm_mul_left]; exact sm_congr fun i _ => R2.mul_comm _ _
theorem sm_front (n : Nat) (f : Nat → K) : sm (n + 1) f = f 0 + sm n (fun i => f (i + 1)) := by
  induction n with
  | zero => rw [sm_succ, sm_zero, sm_zero, R2.add_comm]
  | succ n ih => rw [sm_succ, ih, sm_succ, R2.add_assoc]
theorem sm_rev (n : Nat) (f : Nat → K) : sm n f = sm n (fun i => f (n - 1 - i)) := by
  induction n with
  | zero => rfl
  | succ n ih =>
    rw [sm_front (f := fun i => f (n + 1 - 1 - i)), sm_succ, ih, R2.add_comm]
    simp only [Nat.add_sub_cancel, Nat.sub_zero]
    congr 1
    refine sm_congr fun i hi => ?_
    congr 1; omega
theorem sm_split (n m : Nat) (f : Nat → K) : sm (n + m) f = sm n f + sm m (fun i => f (n + i)) := by
  induction m with
  | zero => rw [Nat.add_zero, sm_zero, R2.add_zero]
  | succ m ih => rw [← Nat.add_assoc, sm_succ, ih, sm_succ, R2.add_assoc]
theorem sm_tail {n m : Nat} {f : Nat → K} (hnm : n ≤ m) (h : ∀ i, n ≤ i → i < m → f i = 0) : sm m f = sm n f := by
  obtain ⟨d, rfl⟩ := Nat.exists_eq_add_of_le hnm
  rw [sm_split, sm_all0 (n := d) (fun i hi => h _ (by omega) (by omega)), R2.add_zero]
theorem sm_one {n : Nat} {f : Nat → K} (k : Nat) (hk : k < n) (h : ∀ i, i < n → i ≠ k → f i = 0) : sm n f = f k := by
  obtain ⟨d, rfl⟩ : ∃ d, n = k + 1 + d := ⟨n - k - 1, by omega⟩
  rw [sm_split, sm_succ, sm_all0 (n := k) (fun i hi => h i (by omega) (by omega)), sm_all0 (n := d) (fun i hi => h _ (by omega) (by omega)), r_zero_add, R2.add_zero]
/-- The triangle, summed the other way. -/
theorem sm_tri (n : Nat) (F : Nat → Nat → K) : sm n (fun i => sm (i + 1) (fun j => F i j)) = sm n (fun j => sm (n - j) (fun i => F (j + i) j)) := by
  induction n with
  | zero => rfl
  | succ n ih =>
    rw [sm_succ, ih, sm_succ n (fun j => sm (n + 1 - j) fun i => F (j + i) j)]
    have e : sm n (fun j => sm (n + 1 - j) (fun i => F (j + i) j)) = sm n (fun j => sm (n - j) (fun i => F (j + i) j)) + sm n (fun j => F n j) := by
      rw [← sm_add]
      refine sm_congr fun j hj => ?_
      rw [show n + 1 - j = (n - j) + 1 from by omega, sm_succ, show j + (n - j) = n from by omega]
    rw [e, sm_succ n (fun j => F n j), show n + 1 - n = 0 + 1 from by omega, sm_succ 0, sm_zero, r_zero_add, Nat.add_zero]
    ac_rfl
def pw (x : K) (n : Nat) : K := match n with
  | 0 => 1
  | n + 1 => pw x n * x
theorem pw_zero (x : K) : pw x 0 = 1 := rfl
theorem pw_succ (x : K) (n : Nat) : pw x (n + 1) = pw x n * x := rfl
theorem pw_one (x : K) : pw x 1 = x := by rw [pw_succ, pw_zero, r_one_mul]
theorem pw_add (x : K) (n m : Nat) : pw x (n + m) = pw x n * pw x m := by
  induction m with
  | zero => rw [Nat.add_zero, pw_zero, R2.mul_one]
  | succ m ih => rw [← Nat.add_assoc, pw_succ, ih, pw_succ, R2.mul_assoc]
theorem one_pw (n : Nat) : pw (1 : K) n = 1 := by
  induction n with
  | zero => rfl
  | succ n ih => rw [pw_succ, ih, R2.mul_one]
theorem mul_pw (x y : K) (n : Nat) : pw (x * y) n = pw x n * pw y n := by
  induction n with
  | zero => rw [pw_zero, pw_zero, pw_zero, R2.mul_one]
  | succ n ih => rw [pw_succ, ih, pw_succ, pw_succ]; ac_rfl
theorem pw_mul (x : K) (n m : Nat) : pw x (n * m) = pw (pw x n) m := by
  induction m with
  | zero => rfl
  | succ m ih => rw [Nat.mul_succ, pw_add, ih, pw_succ]
theorem pw_two (x : K) : pw x 2 = x * x := by rw [pw_succ, pw_one]
theorem zero_pw (n : Nat) (h : 0 < n) : pw (0 : K) n = 0 := by
  obtain ⟨m, rfl⟩ : ∃ m, n = m + 1 := ⟨n - 1, by omega⟩
  rw [pw_succ, r_mul_zero]
theorem sq_sm (n : Nat) (f : Nat → K) : sm n f * sm n f = sm n (fun i => f i * f i) := by
  induction n with
  | zero => exact r_mul_zero _
  | succ n ih => rw [sm_succ, r_sq_add, ih, sm_succ]
end
structure Ser (K : Type) where
  c : Nat → K
theorem Ser.ext {K : Type} {f g : Ser K} (h : ∀ i, f.c i = g.c i) : f = g := by
  cases f; cases g; congr; exact funext h
section
variable {K : Type} [R2 K]
def mulc (f g : Ser K) (k : Nat) : K := sm (k + 1) (fun i => f.c i * g.c (k - i))
instance : Add (Ser K) := ⟨fun f g => ⟨fun i => f.c i + g.c i⟩⟩
instance : Mul (Ser K) := ⟨fun f g => ⟨mulc f g⟩⟩
instance : Zero (Ser K) := ⟨⟨fun _ => 0⟩⟩
instance : One (Ser K) := ⟨⟨fun i => if i = 0 then 1 else 0⟩⟩
theorem add_c (f g : Ser K) (i : Nat) : (f + g).c i = f.c i + g.c i := rfl
theorem mul_c (f g : Ser K) (k : Nat) : (f * g).c k = sm (k + 1) (fun i => f.c i * g.c (k - i)) := rfl
theorem zero_c (i : Nat) : (0 : Ser K).c i = 0 := rfl
theorem one_c (i : Nat) : (1 : Ser K).c i = if i = 0 then 1 else 0 := rfl
theorem ser_mul_comm (f g : Ser K) : f * g = g * f := by
  refine Ser.ext fun k => ?_
  rw [mul_c, mul_c, sm_rev]
  refine sm_congr fun i hi => ?_
  rw [R2.mul_comm, show k + 1 - 1 - i = k - i from by omega, show k - (k - i) = i from by omega]
theorem ser_mul_assoc (f g h : Ser K) : f * g * h = f * (g * h) := by
  refine Ser.ext fun k => ?_
  rw [mul_c, mul_c]
  have e1 : sm (k + 1) (fun i => (f * g).c i * h.c (k - i)) = sm (k + 1) (fun i => sm (i + 1) (fun j => f.c j * g.c (i - j) * h.c (k - i))) :=
    sm_congr fun i _ => by rw [mul_c, sm_mul_right]
  rw [e1, sm_tri (k + 1) (fun i j => f.c j * g.c (i - j) * h.c (k - i))]
  refine sm_congr fun j hj => ?_
  rw [mul_c, ← sm_mul_left, show k + 1 - j = k - j + 1 from by omega]
  refine sm_congr fun i hi => ?_
  rw [R2.mul_assoc, show j + i - j = i from by omega, show k - (j + i) = k - j - i from by omega]
instance : R2 (Ser K) where
  add_assoc f g h := Ser.ext fun i => R2.add_assoc _ _ _
  add_comm f g := Ser.ext fun i => R2.add_comm _ _
  add_zero f := Ser.ext fun i => R2.add_zero _
  add_self f := Ser.ext fun i => R2.add_self _
  mul_assoc := ser_mul_assoc
  mul_comm := ser_mul_comm
  mul_one f := Ser.ext fun k => by
    rw [mul_c, sm_one k (by omega) (fun i hi hne => by rw [one_c, if_neg (by omega), r_mul_zero]), one_c, if_pos (by omega), R2.mul_one]
  mul_add f g h := Ser.ext fun k => by
    rw [mul_c, add_c, mul_c, mul_c, ← sm_add]
    exact sm_congr fun i _ => by rw [add_c, R2.mul_add]
/-- All coefficients from n on are 0. -/
def Bd (f : Ser K) (n : Nat) : Prop := ∀ i, n ≤ i → f.c i = 0
theorem Bd.mono {f : Ser K} {n m : Nat} (h : Bd f n) (hnm : n ≤ m) : Bd f m := fun i hi => h i (by omega)
theorem Bd.add {f g : Ser K} {n : Nat} (hf : Bd f n) (hg : Bd g n) : Bd (f + g) n := fun i hi => by rw [add_c, hf i hi, hg i hi, R2.add_zero]
theorem Bd.mul {f g : Ser K} {n m : Nat} (hf : Bd f (n + 1)) (hg : Bd g (m + 1)) : Bd (f * g) (n + m + 1) := fun k hk => by
  rw [mul_c]
  refine sm_all0 fun i hi => ?_
  by_cases h : n + 1 ≤ i
  · rw [hf i h, r_zero_mul]
  · rw [hg (k - i) (by omega), r_mul_zero]
theorem Bd.mul' {f g : Ser K} {n m : Nat} (hf : Bd f n) (hg : Bd g m) : Bd (f * g) (n + m - 1) := fun k hk => by
  rw [mul_c]
  refine sm_all0 fun i hi => ?_
  by_cases h : n ≤ i
  · rw [hf i h, r_zero_mul]
  · rw [hg (k - i) (by omega), r_mul_zero]
theorem Bd.zero_of {f : Ser K} (h : Bd f 0) : f = 0 := Ser.ext fun i => h i (Nat.zero_le _)
theorem mul_top {f g : Ser K} {n m : Nat} (hf : Bd f (n + 1)) (hg : Bd g (m + 1)) : (f * g).c (n + m) = f.c n * g.c m := by
  rw [mul_c, sm_one n (by omega) (fun i hi hne => ?_), show n + m - n = m from by omega]
  by_cases h : n + 1 ≤ i
  · rw [hf i h, r_zero_mul]
  · rw [hg (n + m - i) (by omega), r_mul_zero]
/-- A constant; the variable. -/
def cst (a : K) : Ser K := ⟨fun i => if i = 0 then a else 0⟩
def XX : Ser K := ⟨fun i => if i = 1 then 1 else 0⟩
theorem cst_c (a : K) (i : Nat) : (cst a).c i = if i = 0 then a else 0 := rfl
theorem cst_mul_c (a : K) (f : Ser K) (k : Nat) : (cst a * f).c k = a * f.c k := by
  rw [mul_c, sm_one 0 (by omega) (fun i hi hne => by rw [cst_c, if_neg hne, r_zero_mul]), cst_c, if_pos rfl, Nat.sub_zero]
theorem XX_mul_c (f : Ser K) (k : Nat) : (XX * f).c k = if k = 0 then 0 else f.c (k - 1) := by
  rw [mul_c]
  by_cases h : k = 0
  · subst h; rw [if_pos rfl]; exact sm_all0 fun i hi => by show (if i = 1 then (1 : K) else 0) * _ = 0; rw [if_neg (by omega), r_zero_mul]
  · rw [if_neg h, sm_one 1 (by omega) (fun i hi hne => by show (if i = 1 then (1 : K) else 0) * _ = 0; rw [if_neg hne, r_zero_mul])]
    show (if 1 = 1 then (1 : K) else 0) * _ = _
    rw [if_pos rfl, r_one_mul]
theorem cst_add (a b : K) : cst (a + b) = cst a + cst b := Ser.ext fun i => by
  rw [add_c, cst_c, cst_c, cst_c]; split
  · rfl
  · rw [R2.add_zero]
theorem cst_zero : cst (0 : K) = 0 := Ser.ext fun i => by rw [cst_c, zero_c]; split <;> rfl
theorem cst_one : cst (1 : K) = 1 := rfl
theorem Bd_cst (a : K) : Bd (cst a) 1 := fun i hi => by rw [cst_c, if_neg (by omega)]
theorem Bd_one : Bd (1 : Ser K) 1 := fun i hi => by rw [one_c, if_neg (by omega)]
theorem Bd_zero (n : Nat) : Bd (0 : Ser K) n := fun i hi => rfl
theorem Bd_XX : Bd (XX : Ser K) 2 := fun i hi => by show (if i = 1 then (1 : K) else 0) = 0; rw [if_neg (by omega)]
/-- The value at x of the first n coefficients. -/
def ev (f : Ser K) (n : Nat) (x : K) : K := sm n (fun i => f.c i * pw x i)
theorem ev_bd {f : Ser K} {n m : Nat} (h : Bd f n) (hnm : n ≤ m) (x : K) : ev f m x = ev f n x :=
  sm_tail hnm fun i h1 _ => by rw [h i h1, r_zero_mul]
theorem ev_add (f g : Ser K) (n : Nat) (x : K) : ev (f + g) n x = ev f n x + ev g n x := by
  unfold ev; rw [← sm_add]; exact sm_congr fun i _ => by rw [add_c, r_add_mul]
theorem ev_mul {f g : Ser K} {n m : Nat} (hf : Bd f n) (hg : Bd g m) (x : K) : ev (f * g) (n + m) x = ev f n x * ev g m x := by
  have e1 : ev (f * g) (n + m) x = sm (n + m) (fun i => sm (i + 1) (fun j => f.c j * pw x j * (g.c (i - j) * pw x (i - j)))) := by
    refine sm_congr fun i _ => ?_
    show (f * g).c i * pw x i = _
    rw [mul_c, ← sm_mul_right]
    refine sm_congr fun j hj => ?_
    have : pw x i = pw x j * pw x (i - j) := by rw [← pw_add, show j + (i - j) = i from by omega]
    rw [this]; ac_rfl
  rw [e1, sm_tri (n + m) (fun i j => f.c j * pw x j * (g.c (i - j) * pw x (i - j)))]
  have e2 : sm (n + m) (fun j => sm (n + m - j) (fun i => f.c j * pw x j * (g.c (j + i - j) * pw x (j + i - j)))) = sm n (fun j => f.c j * pw x j * ev g m x) := by
    rw [sm_tail (n := n) (by omega) (fun j h1 _ => sm_all0 fun i _ => by rw [hf j h1]; simp only [r_zero_mul])]
    refine sm_congr fun j hj => ?_
    rw [sm_mul_left]
    congr 1
    rw [← ev_bd hg (show m ≤ n + m - j from by omega)]
    exact sm_congr fun i _ => by rw [Nat.add_sub_cancel_left]
  rw [e2, sm_mul_right]; rfl
theorem ev_cst (a : K) (n : Nat) (hn : 0 < n) (x : K) : ev (cst a) n x = a := by
  unfold ev
  rw [sm_one 0 hn (fun i _ hne => by rw [cst_c, if_neg hne, r_zero_mul]), cst_c, if_pos rfl, pw_zero, R2.mul_one]
theorem ev_lin (a : K) (x : K) : ev (XX + cst a) 2 x = x + a := by
  rw [ev_add, ev_cst a 2 (by omega)]
  congr 1
  unfold ev
  rw [sm_one 1 (by omega) (fun i _ hne => by show (if i = 1 then (1 : K) else 0) * _ = 0; rw [if_neg hne, r_zero_mul])]
  show (if 1 = 1 then (1 : K) else 0) * _ = x
  rw [if_pos rfl, r_one_mul, pw_one]
/-- Horner: the value of a part from k on. -/
theorem ev_front (f : Ser K) (n : Nat) (x : K) : ev f (n + 1) x = f.c 0 + x * ev ⟨fun i => f.c (i + 1)⟩ n x := by
  unfold ev
  rw [sm_front, pw_zero, R2.mul_one, ← sm_mul_left]
  congr 1
  refine sm_congr fun i _ => ?_
  rw [pw_succ]; ac_rfl
end
end Go.Proofs.CsM

/- Plain mathematics: the field of 8192 elements, as numbers below 8192; its sums are the bitwise ones, its products go by x^13 + x^4 + x^3 + x + 1. No condition. -/
import Derived.Test.YtfpdloccmneabaaMRing
set_option linter.unusedVariables false
namespace Go.Proofs.CsM
/-- times w -/
def W (v : Nat) : Nat := if 8192 ≤ 2 * v then (2 * v) ^^^ 8219 else 2 * v
def M : Nat → Nat → Nat → Nat
  | 0, _, _ => 0
  | k + 1, a, b => (if b % 2 = 1 then a else 0) ^^^ M k (W a) (b / 2)
theorem W_check : allb (fun v => decide (W v < 8192) && (W (W (W (W (W (W (W (W (W (W (W (W (W v)))))))))))) == (W (W (W (W v))) ^^^ W (W (W v)) ^^^ W v ^^^ v))) 13 0 = true := by decide +kernel
theorem W_lt {v : Nat} (h : v < 8192) : W v < 8192 := by
  have := allb_sound 13 0 W_check v (Nat.zero_le _) (by simpa using h)
  simp only [Bool.and_eq_true, decide_eq_true_eq] at this; exact this.1
theorem W_13 {v : Nat} (h : v < 8192) : W (W (W (W (W (W (W (W (W (W (W (W (W v)))))))))))) = W (W (W (W v))) ^^^ W (W (W v)) ^^^ W v ^^^ v := by
  have := allb_sound 13 0 W_check v (Nat.zero_le _) (by simpa using h)
  simp only [Bool.and_eq_true, decide_eq_true_eq, beq_iff_eq] at this; exact this.2
theorem W_zero : W 0 = 0 := rfl
theorem xor_lt {a b : Nat} (ha : a < 8192) (hb : b < 8192) : a ^^^ b < 8192 := Nat.xor_lt_two_pow (n := 13) ha hb
theorem xor4 (a b c d : Nat) : (a ^^^ b) ^^^ (c ^^^ d) = (a ^^^ c) ^^^ (b ^^^ d) := by
  rw [Nat.xor_assoc, ← Nat.xor_assoc b, Nat.xor_comm b c, Nat.xor_assoc c, ← Nat.xor_assoc]
theorem xor_two_mul (a b : Nat) : 2 * (a ^^^ b) = (2 * a) ^^^ (2 * b) := by
  have h := Nat.shiftLeft_xor_distrib (a := a) (b := b) (i := 1)
  simp only [Nat.shiftLeft_eq, Nat.pow_one] at h
  rw [Nat.mul_comm 2, Nat.mul_comm 2 a, Nat.mul_comm 2 b]; exact h
theorem big_iff {a : Nat} (h : a < 8192) : 8192 ≤ 2 * a ↔ a.testBit 12 = true := by
  rw [Nat.testBit_eq_decide_div_mod_eq, decide_eq_true_eq]
  have : (2 ^ 12 : Nat) = 4096 := rfl
  rw [this]; omega
theorem W_xor {a b : Nat} (ha : a < 8192) (hb : b < 8192) : W (a ^^^ b) = W a ^^^ W b := by
  have e : ∀ x, x < 8192 → W x = (2 * x) ^^^ (if x.testBit 12 = true then 8219 else 0) := fun x hx => by
    unfold W
    by_cases h : 8192 ≤ 2 * x
    · rw [if_pos h, if_pos ((big_iff hx).1 h)]
    · rw [if_neg h, if_neg (fun h' => h ((big_iff hx).2 h')), Nat.xor_zero]
  rw [e _ (xor_lt ha hb), e _ ha, e _ hb, xor_two_mul, xor4, Nat.testBit_xor]
  congr 1
  cases a.testBit 12 <;> cases b.testBit 12 <;> simp
theorem M_lt : ∀ k {a : Nat} (b : Nat), a < 8192 → M k a b < 8192
  | 0, _, _, _ => by simp [M]
  | k + 1, a, b, h => by
    unfold M
    refine xor_lt ?_ (M_lt k _ (W_lt h))
    split
    · exact h
    · omega
theorem M_xor : ∀ k {a a' : Nat} (b : Nat), a < 8192 → a' < 8192 → M k (a ^^^ a') b = M k a b ^^^ M k a' b
  | 0, _, _, _, _, _ => (Nat.xor_self 0).symm
  | k + 1, a, a', b, h, h' => by
    unfold M
    rw [W_xor h h', M_xor k _ (W_lt h) (W_lt h'), xor4]
    congr 1
    split
    · rfl
    · rfl
theorem M_zero_left : ∀ k (b : Nat), M k 0 b = 0
  | 0, _ => rfl
  | k + 1, b => by
    unfold M
    rw [W_zero, M_zero_left k]
    split <;> rfl
theorem M_zero : ∀ k (a : Nat), M k a 0 = 0
  | 0, _ => rfl
  | k + 1, a => by
    unfold M
    rw [show 0 / 2 = 0 from rfl, M_zero k]
    simp
theorem xor_div2 (a b : Nat) : (a ^^^ b) / 2 = (a / 2) ^^^ (b / 2) := by
  have h := Nat.shiftRight_xor_distrib (a := a) (b := b) (i := 1)
  simpa only [Nat.shiftRight_eq_div_pow, Nat.pow_one] using h
theorem xor_mod2 (a b : Nat) : (a ^^^ b) % 2 = (a % 2 + b % 2) % 2 := by
  have h0 := Nat.testBit_xor a b 0
  simp only [Nat.testBit_zero] at h0
  have h1 : ((a ^^^ b) % 2 = 1) ↔ ¬ ((a % 2 = 1) ↔ (b % 2 = 1)) := by
    rw [show ((a ^^^ b) % 2 = 1) ↔ (decide ((a ^^^ b) % 2 = 1) = true) from decide_eq_true_iff.symm, h0]
    by_cases p : a % 2 = 1 <;> by_cases q : b % 2 = 1 <;> simp [p, q]
  by_cases p : a % 2 = 1 <;> by_cases q : b % 2 = 1 <;> by_cases r : (a ^^^ b) % 2 = 1 <;> simp only [p, q, r] at h1 <;> first | omega | (simp at h1)
theorem M_xor_right : ∀ k (a b b' : Nat), M k a (b ^^^ b') = M k a b ^^^ M k a b'
  | 0, _, _, _ => (Nat.xor_self 0).symm
  | k + 1, a, b, b' => by
    unfold M
    rw [xor_div2, M_xor_right k, xor4]
    congr 1
    have h := xor_mod2 b b'
    rcases Nat.mod_two_eq_zero_or_one b with p | p <;> rcases Nat.mod_two_eq_zero_or_one b' with q | q <;> rw [p, q] at h <;> simp [p, q, h]
theorem M_W : ∀ k {a : Nat} (b : Nat), a < 8192 → M k (W a) b = W (M k a b)
  | 0, _, _, _ => rfl
  | k + 1, a, b, h => by
    have h1 : M (k + 1) (W a) b = (if b % 2 = 1 then W a else 0) ^^^ M k (W (W a)) (b / 2) := rfl
    have h2 : M (k + 1) a b = (if b % 2 = 1 then a else 0) ^^^ M k (W a) (b / 2) := rfl
    rw [h1, h2, M_W k _ (W_lt h), W_xor _ (M_lt k _ (W_lt h))]
    · congr 1
      split <;> rfl
    · split
      · exact h
      · omega
theorem M_more : ∀ k (a : Nat) {b : Nat}, b < 2 ^ k → M (k + 1) a b = M k a b
  | 0, a, b, h => by
    have : b = 0 := by simpa using h
    subst this; exact M_zero _ _
  | k + 1, a, b, h => by
    have h1 : M (k + 1 + 1) a b = (if b % 2 = 1 then a else 0) ^^^ M (k + 1) (W a) (b / 2) := rfl
    have h2 : M (k + 1) a b = (if b % 2 = 1 then a else 0) ^^^ M k (W a) (b / 2) := rfl
    rw [h1, h2, M_more k _ (by rw [Nat.pow_succ] at h; omega)]
theorem M_double (k a b : Nat) : M (k + 1) a (2 * b) = M k (W a) b := by
  have h1 : M (k + 1) a (2 * b) = (if (2 * b) % 2 = 1 then a else 0) ^^^ M k (W a) (2 * b / 2) := rfl
  rw [h1, if_neg (by omega), Nat.zero_xor, show 2 * b / 2 = b from by omega]
theorem M_one {a : Nat} : M 13 a 1 = a := by
  have h1 : M 13 a 1 = (if 1 % 2 = 1 then a else 0) ^^^ M 12 (W a) (1 / 2) := rfl
  rw [h1, show 1 / 2 = 0 from rfl, M_zero]; simp
theorem M_W_right {a b : Nat} (ha : a < 8192) (hb : b < 8192) : M 13 a (W b) = W (M 13 a b) := by
  by_cases h : 8192 ≤ 2 * b
  · have e : W b = (2 * (b ^^^ 4096)) ^^^ 27 := by
      unfold W; rw [if_pos h, xor_two_mul, Nat.xor_assoc]; rfl
    have hb' : b ^^^ 4096 < 2 ^ 12 := by
      refine Nat.lt_pow_two_of_testBit _ fun i hi => ?_
      rw [Nat.testBit_xor]
      by_cases hi' : i = 12
      · subst hi'; rw [(big_iff hb).1 h]; rfl
      · rw [Nat.testBit_lt_two_pow (Nat.lt_of_lt_of_le hb (show 2 ^ 13 ≤ 2 ^ i from Nat.pow_le_pow_right (by omega) (by omega)))]
        rw [Nat.testBit_lt_two_pow (show 4096 < 2 ^ i from Nat.lt_of_lt_of_le (show 4096 < 2 ^ 13 by decide) (Nat.pow_le_pow_right (by omega) (by omega)))]
        rfl
    have e2 : M 13 a b = M 12 a (b ^^^ 4096) ^^^ W (W (W (W (W (W (W (W (W (W (W (W a))))))))))) := by
      have hx : b = (b ^^^ 4096) ^^^ 4096 := by rw [Nat.xor_assoc, Nat.xor_self, Nat.xor_zero]
      have h12 : M 13 a 4096 = W (W (W (W (W (W (W (W (W (W (W (W a))))))))))) := by simp [M]
      calc M 13 a b = M 13 a ((b ^^^ 4096) ^^^ 4096) := by rw [← hx]
        _ = _ := by rw [M_xor_right, M_more 12 _ hb', h12]
    have h27 : M 13 a 27 = W (W (W (W a))) ^^^ W (W (W a)) ^^^ W a ^^^ a := by
      have e : M 13 a 27 = a ^^^ (W a ^^^ (W (W (W a)) ^^^ W (W (W (W a))))) := by simp [M]
      rw [e]; ac_rfl
    have hw : ∀ {x}, x < 8192 → W x < 8192 := fun h => W_lt h
    rw [e, M_xor_right, M_double, M_W _ _ ha, e2, W_xor (M_lt _ _ ha) (hw (hw (hw (hw (hw (hw (hw (hw (hw (hw (hw (hw ha)))))))))))), W_13 ha, h27]
  · have e : W b = 2 * b := by unfold W; rw [if_neg h]
    rw [e, M_double, M_W _ _ ha, M_more 12 _ (by simp; omega)]
structure GF where
  v : Nat
  lt : v < 8192
theorem GF.ext {a b : GF} (h : a.v = b.v) : a = b := by cases a; cases b; cases h; rfl
instance : DecidableEq GF := fun a b => if h : a.v = b.v then isTrue (GF.ext h) else isFalse fun e => h (by rw [e])
instance : Add GF := ⟨fun a b => ⟨a.v ^^^ b.v, xor_lt a.lt b.lt⟩⟩
instance : Mul GF := ⟨fun a b => ⟨M 13 a.v b.v, M_lt 13 _ a.lt⟩⟩
instance : Zero GF := ⟨⟨0, by omega⟩⟩
instance : One GF := ⟨⟨1, by omega⟩⟩
theorem gmul_v (a b : GF) : (a * b).v = M 13 a.v b.v := rfl
/-- What is additive and goes along with W is told by its value at 1. -/
theorem lin_one {f g : Nat → Nat} (fx : ∀ a b, a < 8192 → b < 8192 → f (a ^^^ b) = f a ^^^ f b) (gx : ∀ a b, a < 8192 → b < 8192 → g (a ^^^ b) = g a ^^^ g b)
    (fW : ∀ a, a < 8192 → f (W a) = W (f a)) (gW : ∀ a, a < 8192 → g (W a) = W (g a)) (h1 : f 1 = g 1) : ∀ a, a < 8192 → f a = g a := by
  have f0 : f 0 = 0 := by have := fx 0 0 (by omega) (by omega); rw [Nat.xor_self] at this; rw [this, Nat.xor_self]
  have g0 : g 0 = 0 := by have := gx 0 0 (by omega) (by omega); rw [Nat.xor_self] at this; rw [this, Nat.xor_self]
  have key : ∀ k, k ≤ 13 → ∀ a, a < 2 ^ k → f a = g a := by
    intro k
    induction k with
    | zero => intro _ a ha; have : a = 0 := by simpa using ha
              subst this; rw [f0, g0]
    | succ k ih =>
      intro hk a ha
      have hp : 2 ^ k ≤ 2 ^ 12 := Nat.pow_le_pow_right (by omega) (by omega)
      have hd : a / 2 < 2 ^ k := by rw [Nat.pow_succ] at ha; omega
      have hd' : a / 2 < 8192 := by omega
      have hW : W (a / 2) = 2 * (a / 2) := by unfold W; rw [if_neg (by omega)]
      have he : f (2 * (a / 2)) = g (2 * (a / 2)) := by rw [← hW, fW _ hd', gW _ hd', ih (by omega) _ hd]
      rcases Nat.mod_two_eq_zero_or_one a with p | p
      · rw [show a = 2 * (a / 2) from by omega]; exact he
      · have ex : a = (2 * (a / 2)) ^^^ 1 := by
          have h2 : (2 * (a / 2)) ^^^ 1 = 2 * (a / 2) + 1 := by
            have hx := xor_mod2 (2 * (a / 2)) 1
            have hy := xor_div2 (2 * (a / 2)) 1
            rw [show 2 * (a / 2) / 2 = a / 2 from by omega, show 1 / 2 = 0 from rfl, Nat.xor_zero] at hy
            omega
          rw [h2]; omega
        have hl : 2 * (a / 2) < 8192 := by omega
        rw [ex, fx _ _ hl (by omega), gx _ _ hl (by omega), he, h1]
  exact fun a ha => key 13 (by omega) a (by simpa using ha)
theorem M_one_left {b : Nat} (hb : b < 8192) : M 13 1 b = b :=
  lin_one (f := fun b => M 13 1 b) (g := fun b => b) (fun a b _ _ => M_xor_right _ _ _ _) (fun _ _ _ _ => rfl) (fun a ha => M_W_right (by omega) ha) (fun _ _ => rfl) M_one b hb
theorem M_comm {a b : Nat} (ha : a < 8192) (hb : b < 8192) : M 13 a b = M 13 b a :=
  lin_one (f := fun a => M 13 a b) (g := fun a => M 13 b a) (fun _ _ h h' => M_xor 13 b h h') (fun _ _ _ _ => M_xor_right _ _ _ _) (fun _ h => M_W 13 b h) (fun _ h => M_W_right hb h) (by show M 13 1 b = M 13 b 1; rw [M_one_left hb, M_one]) a ha
theorem M_assoc {a b c : Nat} (ha : a < 8192) (hb : b < 8192) (hc : c < 8192) : M 13 (M 13 a b) c = M 13 a (M 13 b c) :=
  lin_one (f := fun c => M 13 (M 13 a b) c) (g := fun c => M 13 a (M 13 b c)) (fun _ _ _ _ => M_xor_right _ _ _ _) (fun _ _ _ _ => by show M 13 a (M 13 b (_ ^^^ _)) = _; rw [M_xor_right, M_xor_right]) (fun _ h => M_W_right (M_lt 13 _ ha) h)
    (fun _ h => by show M 13 a (M 13 b (W _)) = _; rw [M_W_right hb h, M_W_right ha (M_lt 13 _ hb)]) (by show M 13 (M 13 a b) 1 = M 13 a (M 13 b 1); rw [M_one, M_one]) c hc
instance : R2 GF where
  add_assoc a b c := GF.ext (Nat.xor_assoc _ _ _)
  add_comm a b := GF.ext (Nat.xor_comm _ _)
  add_zero a := GF.ext (Nat.xor_zero _)
  add_self a := GF.ext (Nat.xor_self _)
  mul_assoc a b c := GF.ext (M_assoc a.lt b.lt c.lt)
  mul_comm a b := GF.ext (M_comm a.lt b.lt)
  mul_one a := GF.ext M_one
  mul_add a b c := GF.ext (M_xor_right _ _ _ _)
def w : GF := ⟨2, by omega⟩
theorem w_mul (a : GF) : (a * w).v = W a.v := by
  rw [gmul_v]
  show M 13 a.v (W 1) = _
  rw [M_W_right a.lt (by omega), M_one]
def steps : Nat → Nat → Nat
  | 0, x => x
  | n + 1, x => steps n (W x)
theorem steps_add (n m x : Nat) : steps (n + m) x = steps m (steps n x) := by
  induction n generalizing x with
  | zero => rw [Nat.zero_add]; rfl
  | succ n ih => rw [show n + 1 + m = n + m + 1 from by omega]; exact ih (W x)
theorem steps_W (n x : Nat) : steps n (W x) = W (steps n x) := by
  have h := steps_add n 1 x
  rw [Nat.add_comm, steps_add] at h; exact h
/-- The powers of w, one bit for each: 2^k steps, then c. -/
def seen : Nat → (Nat → Nat → Bool) → Nat → Nat → Bool
  | 0, c, x, s => match W x with
    | 0 => false
    | y + 1 => match s ||| (1 <<< x) with
      | 0 => false
      | t + 1 => c (y + 1) (t + 1)
  | k + 1, c, x, s => seen k (seen k c) x s
theorem seen_sound : ∀ k c x s, seen k c x s = true → ∃ s', c (steps (2 ^ k) x) s' = true ∧ ∀ i, s'.testBit i = true → s.testBit i = true ∨ ∃ n, n < 2 ^ k ∧ steps n x = i
  | 0, c, x, s, h => by
    unfold seen at h
    split at h
    · exact absurd h (by simp)
    · rename_i y hy
      split at h
      · exact absurd h (by simp)
      · rename_i t ht
        refine ⟨t + 1, ?_, fun i hi => ?_⟩
        · rw [show y + 1 = W x from hy.symm] at h; exact h
        · rw [show t + 1 = s ||| 1 <<< x from ht.symm, Nat.testBit_or, Bool.or_eq_true, Nat.one_shiftLeft, Nat.testBit_two_pow, decide_eq_true_eq] at hi
          rcases hi with hi | hi
          · exact .inl hi
          · exact .inr ⟨0, by simp, hi⟩
  | k + 1, c, x, s, h => by
    obtain ⟨s1, h1, e1⟩ := seen_sound k (seen k c) x s h
    obtain ⟨s2, h2, e2⟩ := seen_sound k c _ s1 h1
    refine ⟨s2, by rw [Nat.pow_succ, Nat.mul_two, steps_add]; exact h2, fun i hi => ?_⟩
    rcases e2 i hi with h | ⟨n, hn, h⟩
    · rcases e1 i h with h | ⟨n, hn, h⟩
      · exact .inl h
      · exact .inr ⟨n, by rw [Nat.pow_succ]; omega, h⟩
    · exact .inr ⟨2 ^ k + n, by rw [Nat.pow_succ]; omega, by rw [steps_add]; exact h⟩
theorem seen_all : seen 13 (fun x s => x == 2 && s == 2 * ((1 <<< 8191) - 1)) 1 0 = true := by decide +kernel
theorem bits_full (N b : Nat) : (2 * ((1 <<< N) - 1)).testBit (b + 1) = decide (b < N) := by
  rw [Nat.testBit_succ, Nat.mul_div_cancel_left _ (by omega), Nat.one_shiftLeft, Nat.testBit_two_pow_sub_one]
theorem seen_it {a : Nat} (h0 : 0 < a) (h : a < 8192) : ∃ n, n < 8192 ∧ steps n 1 = a := by
  obtain ⟨s', hs, e⟩ := seen_sound _ _ _ _ seen_all
  rw [Bool.and_eq_true, beq_iff_eq, beq_iff_eq] at hs
  obtain ⟨b, rfl⟩ : ∃ b, a = b + 1 := ⟨a - 1, by omega⟩
  have hb := bits_full 8191 b
  rw [← hs.2, decide_eq_true (show b < 8191 by omega)] at hb
  rcases e _ hb with h | ⟨n, hn, h⟩
  · simp at h
  · exact ⟨n, hn, h⟩
theorem steps_8192 : steps (8191 + 1) 1 = 2 := by
  obtain ⟨s', hs, e⟩ := seen_sound _ _ _ _ seen_all
  rw [Bool.and_eq_true, beq_iff_eq] at hs
  exact hs.1
theorem pw_w_v (n : Nat) : (pw w n).v = steps n 1 := by
  induction n with
  | zero => rfl
  | succ n ih => rw [pw_succ, w_mul, ih, ← steps_W]; rfl
theorem W_two : allb (fun v => !(W v == 2) || (v == 1)) 13 0 = true := by decide +kernel
theorem pw_w_8191 : pw w 8191 = 1 := by
  refine GF.ext ?_
  rw [pw_w_v]
  have h3 : W (steps 8191 1) = 2 := by rw [← steps_8192, steps_add]; rfl
  have hl : steps 8191 1 < 8192 := by rw [← pw_w_v]; exact (pw w 8191).lt
  generalize steps 8191 1 = z at h3 hl
  have := allb_sound 13 0 W_two z (Nat.zero_le _) (by simpa using hl)
  rw [h3] at this
  have h1 : z = 1 := by simpa using this
  exact h1
theorem exists_log {a : GF} (h : a ≠ 0) : ∃ n, n < 8191 ∧ pw w n = a := by
  have h0 : 0 < a.v := Nat.pos_of_ne_zero fun e => h (GF.ext e)
  obtain ⟨n, hn, e⟩ := seen_it h0 a.lt
  by_cases hn' : n < 8191
  · exact ⟨n, hn', GF.ext (by rw [pw_w_v]; exact e)⟩
  · have : n = 8191 := by omega
    subst this
    refine ⟨0, by omega, ?_⟩
    rw [pw_zero, ← pw_w_8191]
    exact GF.ext (by rw [pw_w_v]; exact e)
theorem pw_order {a : GF} (h : a ≠ 0) : pw a 8191 = 1 := by
  obtain ⟨n, _, rfl⟩ := exists_log h
  rw [← pw_mul, Nat.mul_comm, pw_mul, pw_w_8191, one_pw]
theorem g_one_ne : (1 : GF) ≠ 0 := fun h => absurd (congrArg GF.v h) (by decide)
def ginv (a : GF) : GF := pw a 8190
theorem mul_ginv {a : GF} (h : a ≠ 0) : a * ginv a = 1 := by
  rw [ginv, R2.mul_comm, ← pw_succ]; exact pw_order h
theorem gmul_ne {a b : GF} (ha : a ≠ 0) (hb : b ≠ 0) : a * b ≠ 0 := fun h => by
  have : ginv a * (a * b) = 0 := by rw [h, r_mul_zero]
  rw [← R2.mul_assoc, R2.mul_comm (ginv a), mul_ginv ha, r_one_mul] at this
  exact hb this
theorem pw_ne {a : GF} (h : a ≠ 0) (n : Nat) : pw a n ≠ 0 := by
  induction n with
  | zero => exact g_one_ne
  | succ n ih => rw [pw_succ]; exact gmul_ne ih h
theorem w_ne : w ≠ 0 := fun h => absurd (congrArg GF.v h) (by decide)
theorem pw_mod {a : GF} (h : a ≠ 0) (n : Nat) : pw a (n % 8191) = pw a n := by
  have e : n = 8191 * (n / 8191) + n % 8191 := (Nat.div_add_mod _ _).symm
  rw [e, pw_add, pw_mul, pw_order h, one_pw, r_one_mul, ← e]
/-- 8191 has no divisor but 1 and itself. -/
theorem prime_check : allb (fun d => d ≤ 1 || d ≥ 8191 || (8191 % d != 0)) 13 0 = true := by decide +kernel
theorem dvd_8191 {d : Nat} (h : d ∣ 8191) : d = 1 ∨ d = 8191 := by
  have hle : d ≤ 8191 := Nat.le_of_dvd (by omega) h
  have := allb_sound 13 0 prime_check d (Nat.zero_le _) (by simp; omega)
  simp only [Bool.or_eq_true, decide_eq_true_eq, bne_iff_ne, ne_eq] at this
  rcases this with (h1 | h1) | h1
  · by_cases h0 : d = 0
    · subst h0; simp at h
    · omega
  · omega
  · exact absurd (Nat.mod_eq_zero_of_dvd h) h1
/-- pw a 1 is 1 where pw a n and pw a m are, n and m without a common divisor. -/
theorem pw_gcd {a : GF} (n m : Nat) (hn : pw a n = 1) (hm : pw a m = 1) : pw a (Nat.gcd n m) = 1 := by
  induction n, m using Nat.gcd.induction with
  | H0 m => rw [Nat.gcd_zero_left]; exact hm
  | H1 n m hpos ih =>
    rw [Nat.gcd_rec]
    refine ih ?_ hn
    have e : m = n * (m / n) + m % n := (Nat.div_add_mod _ _).symm
    rw [e, pw_add, pw_mul, hn, one_pw, r_one_mul] at hm
    exact hm
theorem pw_w_one {n : Nat} : pw w n = 1 ↔ n % 8191 = 0 := by
  constructor
  · intro h
    have hg := pw_gcd n 8191 h pw_w_8191
    rcases dvd_8191 (Nat.gcd_dvd_right n 8191) with e | e
    · rw [e, pw_one] at hg
      exact absurd (congrArg GF.v hg) (by decide)
    · have := Nat.gcd_dvd_left n 8191
      rw [e] at this
      exact Nat.mod_eq_zero_of_dvd this
  · intro h; rw [← pw_mod w_ne, h, pw_zero]
theorem pw_w_inj {n m : Nat} : pw w n = pw w m ↔ n % 8191 = m % 8191 := by
  have key : ∀ n d, pw w (n + d) = pw w n → d % 8191 = 0 := fun n d h => by
    rw [pw_add] at h
    have h2 : ginv (pw w n) * (pw w n * pw w d) = ginv (pw w n) * pw w n := by rw [h]
    rw [← R2.mul_assoc, R2.mul_comm (ginv _), mul_ginv (pw_ne w_ne n), r_one_mul] at h2
    exact pw_w_one.1 h2
  constructor
  · intro h
    rcases Nat.le_total n m with hl | hl
    · obtain ⟨d, rfl⟩ := Nat.exists_eq_add_of_le hl
      have := key n d h.symm; omega
    · obtain ⟨d, rfl⟩ := Nat.exists_eq_add_of_le hl
      have := key m d h; omega
  · intro h; rw [← pw_mod w_ne n, h, pw_mod w_ne]
theorem pw_8192 (a : GF) : pw a 8192 = a := by
  by_cases h : a = 0
  · subst h; exact zero_pw _ (by omega)
  · rw [show 8192 = 8191 + 1 from rfl, pw_succ, pw_order h, r_one_mul]
theorem g_sq_self {a : GF} (h : a * a = a) : a = 0 ∨ a = 1 := by
  by_cases h0 : a = 0
  · exact .inl h0
  · right
    have : ginv a * (a * a) = ginv a * a := by rw [h]
    rwa [← R2.mul_assoc, R2.mul_comm (ginv a), mul_ginv h0, r_one_mul] at this
end Go.Proofs.CsM

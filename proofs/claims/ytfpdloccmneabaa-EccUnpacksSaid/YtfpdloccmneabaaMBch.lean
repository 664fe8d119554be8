/- Plain mathematics: generators of codes, how far code words are apart, the shortest rule of sums (Berlekamp and Massey) and its roots. No condition. -/
import Derived.Test.YtfpdloccmneabaaMDom
set_option linter.unusedVariables false
namespace Go.Proofs.CsM
/-- The roots of the generator: the conjugates of w's odd powers below 2t. -/
def gl : Nat → List GF
  | 0 => []
  | t + 1 => gl t ++ conj (pw w (2 * t + 1)) 13
/-- Their exponents. -/
def ge : Nat → List Nat
  | 0 => []
  | t + 1 => ge t ++ (List.range 13).map fun i => (2 * t + 1) * 2 ^ i % 8191
theorem gl_ge : ∀ t, gl t = (ge t).map (pw w)
  | 0 => rfl
  | t + 1 => by
    show gl t ++ _ = _
    unfold ge
    rw [List.map_append, ← gl_ge t, List.map_map]
    congr 1
    unfold conj
    refine List.map_congr_left fun i _ => ?_
    show pw (pw w (2 * t + 1)) (2 ^ i) = pw w ((2 * t + 1) * 2 ^ i % 8191)
    rw [pw_mod w_ne, pw_mul]
theorem gl_length : ∀ t, (gl t).length = 13 * t
  | 0 => rfl
  | t + 1 => by show (gl t ++ _).length = _; rw [List.length_append, gl_length t, conj_length]; omega
theorem ge_nodup : (ge 8).Nodup := by decide +kernel
theorem ge_lt : ∀ e ∈ ge 8, e < 8191 := by decide +kernel
theorem ge_prefix {t : Nat} (h : t ≤ 8) : ge t <+: ge 8 := by
  have : ∀ d, ge t <+: ge (t + d) := fun d => by
    induction d with
    | zero => exact List.prefix_refl _
    | succ d ih => exact ih.trans (List.prefix_append _ _)
  have h1 := this (8 - t)
  rwa [show t + (8 - t) = 8 from by omega] at h1
theorem map_nodup {α β : Type} {f : α → β} : ∀ {l : List α}, l.Nodup → (∀ a ∈ l, ∀ b ∈ l, f a = f b → a = b) → (l.map f).Nodup
  | [], _, _ => by simp
  | a :: l, h, hi => by
    have h1 := List.nodup_cons.1 h
    rw [List.map_cons, List.nodup_cons]
    refine ⟨fun hm => ?_, map_nodup h1.2 fun x hx y hy => hi x (by simp [hx]) y (by simp [hy])⟩
    obtain ⟨b, hb, e⟩ := List.mem_map.1 hm
    have := hi b (by simp [hb]) a (by simp) e
    exact h1.1 (this ▸ hb)
theorem gl_nodup {t : Nat} (h : t ≤ 8) : (gl t).Nodup := by
  rw [gl_ge]
  have hs := (ge_prefix h).sublist
  refine map_nodup (ge_nodup.sublist hs) fun a ha b hb e => ?_
  have h1 := ge_lt a (hs.subset ha)
  have h2 := ge_lt b (hs.subset hb)
  have := pw_w_inj.1 e
  omega
theorem ge_check : allb (fun t => t == 0 || decide (t > 8) || allb (fun j => j == 0 || decide (j > 2 * t) || (ge t).contains j) 5 0) 4 0 = true := by decide +kernel
theorem gl_mem {t j : Nat} (ht : t ≤ 8) (h1 : 1 ≤ j) (h2 : j ≤ 2 * t) : pw w j ∈ gl t := by
  have h := allb_sound 4 0 ge_check t (by omega) (by omega)
  have e1 : (t == 0) = false := beq_eq_false_iff_ne.2 (by omega)
  have e2 : decide (t > 8) = false := decide_eq_false (by omega)
  rw [e1, e2] at h
  have h3 := allb_sound 5 0 (by simpa using h) j (by omega) (by omega)
  have e3 : (j == 0) = false := beq_eq_false_iff_ne.2 (by omega)
  have e4 : decide (j > 2 * t) = false := decide_eq_false (by omega)
  rw [e3, e4] at h3
  rw [gl_ge]
  exact List.mem_map.2 ⟨j, by simpa using h3, rfl⟩
/-- What the generator's roots have in common with w's powers 1 to 2t: a polynomial of bits that is 0 at these is 0 at those. -/
theorem gl_roots {t : Nat} (ht : t ≤ 8) {f : Ser Bool} {n : Nat} (h : ∀ j, 1 ≤ j → j ≤ 2 * t → vb f n (pw w j) = 0) : ∀ x ∈ gl t, vb f n x = 0 := by
  induction t with
  | zero => intro x hx; simp [gl] at hx
  | succ t ih =>
    intro x hx
    rcases List.mem_append.1 hx with hx | hx
    · exact ih (by omega) (fun j h1 h2 => h j h1 (by omega)) x hx
    · simp only [conj, List.mem_map] at hx
      obtain ⟨i, _, rfl⟩ := hx
      exact vb_root (h _ (by omega) (by omega)) i
theorem w_odd_ne {t : Nat} (ht : t ≤ 8) : pw w (2 * t + 1) ≠ 1 := fun e => by
  have := pw_w_one.1 e
  omega
/-- The generator. -/
def gen : Nat → Ser Bool
  | 0 => 1
  | t + 1 => gen t * mp (pw w (2 * t + 1))
theorem lift_gen : ∀ {t : Nat}, t ≤ 8 → lift (gen t) = lins (gl t)
  | 0, _ => lift_one
  | t + 1, h => by
    show lift (gen t * _) = lins (gl t ++ _)
    rw [lift_mul, lift_gen (by omega), lins_append, lift_mp]
    unfold cj
    rw [if_neg (w_odd_ne (by omega))]
theorem gen_bd {t : Nat} (h : t ≤ 8) : Bd (gen t) (13 * t + 1) := lift_bd' (by rw [lift_gen h, ← gl_length]; exact lins_bd _)
theorem gen_top {t : Nat} (h : t ≤ 8) : (gen t).c (13 * t) = true := by
  refine b2g_inj ?_
  rw [← lift_c, lift_gen h, ← gl_length, lins_top]; rfl
theorem gen_root {t : Nat} (h : t ≤ 8) {x : GF} (hx : x ∈ gl t) {n : Nat} (hn : 13 * t < n) : vb (gen t) n x = 0 := by
  unfold vb
  rw [lift_gen h, lins_ev' _ (by rw [gl_length]; exact hn)]
  exact hx
/-- A multiple of the generator is 0 at w's powers 1 to 2t. -/
theorem gen_mul_root {t : Nat} (ht : t ≤ 8) {f q : Ser Bool} {n m : Nat} (hq : Bd q m) (hf : Bd f n) (e : f = q * gen t) {j : Nat} (h1 : 1 ≤ j) (h2 : j ≤ 2 * t) : vb f n (pw w j) = 0 := by
  rw [vb_any hf (m := m + (13 * t + 1)) (by rw [e]; exact (hq.mul' (gen_bd ht)).mono (by omega)), e, vb_mul hq (gen_bd ht), gen_root ht (gl_mem ht h1 h2) (by omega), r_mul_zero]
/-- A word shorter than the generator that is 0 at w's powers 1 to 2t is 0. -/
theorem short_zero {t : Nat} (ht : t ≤ 8) {f : Ser Bool} (hf : Bd f (13 * t)) {n : Nat} (hn : 13 * t ≤ n) (h : ∀ j, 1 ≤ j → j ≤ 2 * t → vb f n (pw w j) = 0) : f = 0 :=
  vb_roots_zero (gl t) hf (gl_nodup ht) (by rw [gl_length]; omega) fun x hx => by rw [← vb_bd hf hn]; exact gl_roots ht h x hx
def ls (f : GF → GF) : List GF → GF
  | [] => 0
  | x :: xs => f x + ls f xs
/-- The sum of the k-th powers. -/
def ps (xs : List GF) (k : Nat) : GF := ls (fun x => pw x k) xs
def places (f : Ser Bool) (n : Nat) : List GF := ((List.range n).filter f.c).map (pw w)
/-- The product of 1 + X x. -/
def loc : List GF → Ser GF
  | [] => 1
  | x :: xs => (1 + cst x * XX) * loc xs
def sums (xs : List GF) : Ser GF := ⟨fun k => ps xs (k + 1)⟩
/-- One place's sums. -/
def geo (x : GF) : Ser GF := ⟨fun k => pw x (k + 1)⟩
/-- How the rules stand ahead of the n-th sum. -/
structure BMs (S : Ser GF) (n L h : Nat) (C B : Ser GF) (last : GF) : Prop where
  c0 : C.c 0 = 1
  hL : L ≤ n
  h1 : 1 ≤ h
  hh : h + L ≤ n + 1
  cb : Bd C (L + 1)
  bb : Bd B (n + 2 - L - h)
  cz : ∀ k, L ≤ k → k < n → (C * S).c k = 0
  bz : ∀ k, n + 1 - L ≤ k → k < n → (pw XX h * (B * S)).c k = 0
  bt : 0 < L → (pw XX h * (B * S)).c n = last
  ln : last ≠ 0
theorem BMs.start (S : Ser GF) : BMs S 0 0 1 1 1 1 :=
  ⟨rfl, Nat.le_refl _, Nat.le_refl _, Nat.le_refl _, Bd_one, Bd_one.mono (by omega), fun k _ h => absurd h (Nat.not_lt_zero _), fun k _ h => absurd h (Nat.not_lt_zero _), fun h => absurd h (Nat.not_lt_zero _), g_one_ne⟩
theorem shift_c (f : Ser GF) (h k : Nat) : (pw XX (h + 1) * f).c (k + 1) = (pw XX h * f).c k := by
  rw [pwXX_c, pwXX_c]
  by_cases e : h ≤ k
  · rw [if_pos e, if_pos (by omega)]; congr 1; omega
  · rw [if_neg e, if_neg (by omega)]
theorem BMs.keep {S : Ser GF} {n L h : Nat} {C B : Ser GF} {last : GF} (H : BMs S n L h C B last) (hd : (C * S).c n = 0) : BMs S (n + 1) L (h + 1) C B last where
  c0 := H.c0
  hL := Nat.le_succ_of_le H.hL
  h1 := Nat.le_add_left _ _
  hh := by have := H.hh; omega
  cb := H.cb
  bb := H.bb.mono (by omega)
  cz := fun k h1 h2 => by
    by_cases e : k = n
    · subst e; exact hd
    · exact H.cz k h1 (by omega)
  bz := fun k h1 h2 => by
    obtain ⟨j, rfl⟩ : ∃ j, k = j + 1 := ⟨k - 1, by have := H.hL; omega⟩
    rw [shift_c]; exact H.bz j (by omega) (by omega)
  bt := fun h => by rw [shift_c]; exact H.bt h
  ln := H.ln
def turnC (C B : Ser GF) (d last : GF) (h : Nat) : Ser GF := C + pw XX h * (cst (d * ginv last) * B)
theorem turnC_c {S C B : Ser GF} {d last : GF} {h : Nat} (k : Nat) : (turnC C B d last h * S).c k = (C * S).c k + d * ginv last * (pw XX h * (B * S)).c k := by
  unfold turnC
  rw [r_add_mul, add_c]
  congr 1
  rw [show pw XX h * (cst (d * ginv last) * B) * S = cst (d * ginv last) * (pw XX h * (B * S)) from by ac_rfl, cst_mul_c]
theorem pwXX_bd {f : Ser GF} {m h : Nat} (hf : Bd f m) : Bd (pw XX h * f) (h + m) := fun i hi => by
  rw [pwXX_c]; split
  · exact hf _ (by omega)
  · rfl
theorem cst_mul_bd {f : Ser GF} {m : Nat} (a : GF) (hf : Bd f m) : Bd (cst a * f) m := fun i hi => by rw [cst_mul_c, hf i hi, r_mul_zero]
theorem turnC_0 {C B : Ser GF} {d last : GF} {h : Nat} (hh : 1 ≤ h) (c0 : C.c 0 = 1) : (turnC C B d last h).c 0 = 1 := by
  unfold turnC
  rw [add_c, pwXX_c, if_neg (by omega), R2.add_zero, c0]
theorem BMs.turnz {S : Ser GF} {n L h : Nat} {C B : Ser GF} {d last : GF} (H : BMs S n L h C B last) (hd : (C * S).c n = d) (hL : 0 < L) (k : Nat) (hk : L ≤ k) (hk' : n + 1 - L ≤ k) (hn : k < n + 1) : (turnC C B d last h * S).c k = 0 := by
  rw [turnC_c]
  by_cases e : k = n
  · subst e
    rw [hd, H.bt hL, R2.mul_assoc, R2.mul_comm (ginv last), mul_ginv H.ln, R2.mul_one, R2.add_self]
  · rw [H.cz k hk (by omega), H.bz k hk' (by omega), r_mul_zero, R2.add_zero]
/-- The rule fails, and is no shorter than half. -/
theorem BMs.turn {S : Ser GF} {n L h : Nat} {C B : Ser GF} {d last : GF} (H : BMs S n L h C B last) (hd : (C * S).c n = d) (hL : n < 2 * L) : BMs S (n + 1) L (h + 1) (turnC C B d last h) B last where
  c0 := turnC_0 H.h1 H.c0
  hL := Nat.le_succ_of_le H.hL
  h1 := Nat.le_add_left _ _
  hh := by have := H.hh; omega
  cb := by
    refine H.cb.add ((pwXX_bd (cst_mul_bd _ H.bb)).mono ?_)
    have := H.hh
    omega
  bb := H.bb.mono (by omega)
  cz := fun k h1 h2 => H.turnz hd (by omega) k h1 (by omega) (by omega)
  bz := fun k h1 h2 => by
    obtain ⟨j, rfl⟩ : ∃ j, k = j + 1 := ⟨k - 1, by have := H.hL; omega⟩
    rw [shift_c]; exact H.bz j (by omega) (by omega)
  bt := fun h => by rw [shift_c]; exact H.bt h
  ln := H.ln
/-- The rule fails, and is short: a longer one. -/
theorem BMs.grow {S : Ser GF} {n L h : Nat} {C B : Ser GF} {d last : GF} (H : BMs S n L h C B last) (hd : (C * S).c n = d) (h0 : d ≠ 0) (hL : 2 * L ≤ n) : BMs S (n + 1) (n + 1 - L) 1 (turnC C B d last h) C d where
  c0 := turnC_0 H.h1 H.c0
  hL := by omega
  h1 := Nat.le_refl _
  hh := by omega
  cb := by
    refine (H.cb.mono (by omega)).add ((pwXX_bd (cst_mul_bd _ H.bb)).mono ?_)
    have := H.hh
    omega
  bb := H.cb.mono (by omega)
  cz := fun k h1 h2 => by
    by_cases e : L = 0
    · omega
    · exact H.turnz hd (by omega) k (by omega) h1 h2
  bz := fun k h1 h2 => by
    obtain ⟨j, rfl⟩ : ∃ j, k = j + 1 := ⟨k - 1, by omega⟩
    rw [shift_c, pw_zero, r_one_mul]; exact H.cz j (by omega) (by omega)
  bt := fun _ => by rw [shift_c, pw_zero, r_one_mul]; exact hd
  ln := h0
end Go.Proofs.CsM

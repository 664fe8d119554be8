/- Plain mathematics: generators of codes, how far code words are apart, the shortest rule of sums (Berlekamp and Massey) and its roots. No condition. -/
import Derived.Test.YtfpdloccmneabaaMDom
set_option linter.unusedVariables false
namespace Go.Proofs.CsM
/-- The roots of the generator: the conjugates of w's odd powers below 2t. -/
def gl : Nat → List GF
  | 0 => []
  | t + 1 => gl t ++ conj (pw w (2 * t + 1)) 13
/-- Their exponents. -/
def ge : Nat → List Nat
  | 0 => []
  | t + 1 => ge t ++ (List.range 13).map fun i => (2 * t + 1) * 2 ^ i % 8191
theorem gl_ge : ∀ t, gl t = (ge t).map (pw w)
  | 0 => rfl
  | t + 1 => by
    show gl t ++ _ = _
    unfold ge
    rw [List.map_append, ← gl_ge t, List.map_map]
    congr 1
    unfold conj
    refine List.map_congr_left fun i _ => ?_
    show pw (pw w (2 * t + 1)) (2 ^ i) = pw w ((2 * t + 1) * 2 ^ i % 8191)
    rw [pw_mod w_ne, pw_mul]
theorem gl_length : ∀ t, (gl t).length = 13 * t
  | 0 => rfl
  | t + 1 => by show (gl t ++ _).length = _; rw [List.length_append, gl_length t, conj_length]; omega
theorem map_nodup {α β : Type} {f : α → β} : ∀ {l : List α}, l.Nodup → (∀ a ∈ l, ∀ b ∈ l, f a = f b → a = b) → (l.map f).Nodup
  | [], _, _ => by simp
  | a :: l, h, hi => by
    have h1 := List.nodup_cons.1 h
    rw [List.map_cons, List.nodup_cons]
    refine ⟨fun hm => ?_, map_nodup h1.2 fun x hx y hy => hi x (by simp [hx]) y (by simp [hy])⟩
    obtain ⟨b, hb, e⟩ := List.mem_map.1 hm
    have := hi b (by simp [hb]) a (by simp) e
    exact h1.1 (this ▸ hb)
theorem ge_check : allb (fun t => t == 0 || decide (t > 8) || allb (fun j => j == 0 || decide (j > 2 * t) || (ge t).contains j) 5 0) 4 0 = true := by decide +kernel
theorem gl_mem {t j : Nat} (ht : t ≤ 8) (h1 : 1 ≤ j) (h2 : j ≤ 2 * t) : pw w j ∈ gl t := by
  have h := allb_sound 4 0 ge_check t (by omega) (by omega)
  have e1 : (t == 0) = false := beq_eq_false_iff_ne.2 (by omega)
  have e2 : decide (t > 8) = false := decide_eq_false (by omega)
  rw [e1, e2] at h
  have h3 := allb_sound 5 0 (by simpa using h) j (by omega) (by omega)
  have e3 : (j == 0) = false := beq_eq_false_iff_ne.2 (by omega)
  have e4 : decide (j > 2 * t) = false := decide_eq_false (by omega)
  rw [e3, e4] at h3
  rw [gl_ge]
  exact List.mem_map.2 ⟨j, by simpa using h3, rfl⟩
/-- What the generator's roots have in common with w's powers 1 to 2t: a polynomial of bits that is 0 at these is 0 at those. -/
theorem gl_roots {t : Nat} (ht : t ≤ 8) {f : Ser Bool} {n : Nat} (h : ∀ j, 1 ≤ j → j ≤ 2 * t → vb f n (pw w j) = 0) : ∀ x ∈ gl t, vb f n x = 0 := by
  induction t with
  | zero => intro x hx; simp [gl] at hx
  | succ t ih =>
    intro x hx
    rcases List.mem_append.1 hx with hx | hx
    · exact ih (by omega) (fun j h1 h2 => h j h1 (by omega)) x hx
    · simp only [conj, List.mem_map] at hx
      obtain ⟨i, _, rfl⟩ := hx
      exact vb_root (h _ (by omega) (by omega)) i
theorem w_odd_ne {t : Nat} (ht : t ≤ 8) : pw w (2 * t + 1) ≠ 1 := fun e => by
  have := pw_w_one.1 e
  omega
/-- The generator. -/
def gen : Nat → Ser Bool
  | 0 => 1
  | t + 1 => gen t * mp (pw w (2 * t + 1))
theorem lift_gen : ∀ {t : Nat}, t ≤ 8 → lift (gen t) = lins (gl t)
  | 0, _ => lift_one
  | t + 1, h => by
    show lift (gen t * _) = lins (gl t ++ _)
    rw [lift_mul, lift_gen (by omega), lins_append, lift_mp]
    unfold cj
    rw [if_neg (w_odd_ne (by omega))]
theorem gen_bd {t : Nat} (h : t ≤ 8) : Bd (gen t) (13 * t + 1) := lift_bd' (by rw [lift_gen h, ← gl_length]; exact lins_bd _)
theorem gen_top {t : Nat} (h : t ≤ 8) : (gen t).c (13 * t) = true := by
  refine b2g_inj ?_
  rw [← lift_c, lift_gen h, ← gl_length, lins_top]; rfl
theorem gen_root {t : Nat} (h : t ≤ 8) {x : GF} (hx : x ∈ gl t) {n : Nat} (hn : 13 * t < n) : vb (gen t) n x = 0 := by
  unfold vb
  rw [lift_gen h, lins_ev' _ (by rw [gl_length]; exact hn)]
  exact hx
/-- A multiple of the generator is 0 at w's powers 1 to 2t. -/
theorem gen_mul_root {t : Nat} (ht : t ≤ 8) {f q : Ser Bool} {n m : Nat} (hq : Bd q m) (hf : Bd f n) (e : f = q * gen t) {j : Nat} (h1 : 1 ≤ j) (h2 : j ≤ 2 * t) : vb f n (pw w j) = 0 := by
  rw [vb_any hf (m := m + (13 * t + 1)) (by rw [e]; exact (hq.mul' (gen_bd ht)).mono (by omega)), e, vb_mul hq (gen_bd ht), gen_root ht (gl_mem ht h1 h2) (by omega), r_mul_zero]
def ls (f : GF → GF) : List GF → GF
  | [] => 0
  | x :: xs => f x + ls f xs
theorem ls_congr {f g : GF → GF} : ∀ {xs : List GF}, (∀ x ∈ xs, f x = g x) → ls f xs = ls g xs
  | [], _ => rfl
  | x :: xs, h => by show f x + _ = g x + _; rw [h x (by simp), ls_congr fun y hy => h y (by simp [hy])]
theorem ls_add (f g : GF → GF) : ∀ xs : List GF, ls (fun x => f x + g x) xs = ls f xs + ls g xs
  | [] => (R2.add_zero _).symm
  | x :: xs => by show f x + g x + _ = (f x + _) + (g x + _); rw [ls_add]; ac_rfl
theorem ls_mul (c : GF) (f : GF → GF) : ∀ xs : List GF, ls (fun x => c * f x) xs = c * ls f xs
  | [] => (r_mul_zero _).symm
  | x :: xs => by show c * f x + _ = c * (f x + _); rw [ls_mul, R2.mul_add]
theorem ls_zero : ∀ xs : List GF, ls (fun _ => 0) xs = 0
  | [] => rfl
  | x :: xs => by show 0 + _ = _; rw [ls_zero, R2.add_zero]
theorem ls_sm (n : Nat) (F : Nat → GF → GF) (xs : List GF) : ls (fun x => sm n (fun i => F i x)) xs = sm n (fun i => ls (F i) xs) := by
  induction n with
  | zero => exact ls_zero xs
  | succ n ih =>
    rw [sm_succ, ← ih, ← ls_add]
    exact ls_congr fun x _ => sm_succ _ _
theorem ls_append (f : GF → GF) : ∀ xs ys : List GF, ls f (xs ++ ys) = ls f xs + ls f ys
  | [], ys => (r_zero_add _).symm
  | x :: xs, ys => by show f x + ls f (xs ++ ys) = f x + ls f xs + _; rw [ls_append, R2.add_assoc]
theorem ls_perm {f : GF → GF} {xs ys : List GF} (h : xs.Perm ys) : ls f xs = ls f ys := by
  induction h with
  | nil => rfl
  | cons x _ ih => show _ + _ = _ + _; rw [ih]
  | swap x y l => show f y + (f x + ls f l) = f x + (f y + ls f l); ac_rfl
  | trans _ _ ih1 ih2 => exact ih1.trans ih2
/-- Weights whose sums with as many powers as there are elements are 0 are all 0. -/
theorem weights_zero (y : GF → GF) (xs : List GF) (hn : xs.Nodup) (h : ∀ m, m < xs.length → ls (fun x => y x * pw x m) xs = 0) : ∀ x ∈ xs, y x = 0 := by
  intro x0 hx0
  obtain ⟨p, q, rfl⟩ := List.append_of_mem hx0
  have hperm : (p ++ x0 :: q).Perm (x0 :: (p ++ q)) := List.perm_middle
  have hlen : (p ++ x0 :: q).length = (p ++ q).length + 1 := by simp; omega
  have hno : x0 ∉ p ++ q := (List.nodup_cons.1 ((hperm.nodup_iff).1 hn)).1
  have h1 : ls (fun x => y x * ev (lins (p ++ q)) ((p ++ q).length + 1) x) (p ++ x0 :: q) = 0 := by
    have e : ∀ x, y x * ev (lins (p ++ q)) ((p ++ q).length + 1) x = sm ((p ++ q).length + 1) (fun m => (lins (p ++ q)).c m * (y x * pw x m)) := fun x => by
      unfold ev
      rw [← sm_mul_left]
      exact sm_congr fun i _ => by ac_rfl
    rw [ls_congr fun x _ => e x, ls_sm]
    refine sm_all0 fun m hm => ?_
    rw [ls_mul, h m (by omega), r_mul_zero]
  rw [ls_perm hperm] at h1
  have h2 : ls (fun x => y x * ev (lins (p ++ q)) ((p ++ q).length + 1) x) (p ++ q) = 0 := by
    rw [ls_congr (g := fun _ => 0) fun x hx => by rw [(lins_ev (p ++ q) x).2 hx, r_mul_zero], ls_zero]
  have h3 : y x0 * ev (lins (p ++ q)) ((p ++ q).length + 1) x0 = 0 := by
    have : y x0 * ev (lins (p ++ q)) ((p ++ q).length + 1) x0 + ls (fun x => y x * ev (lins (p ++ q)) ((p ++ q).length + 1) x) (p ++ q) = 0 := h1
    rwa [h2, R2.add_zero] at this
  refine Classical.byContradiction fun h4 => ?_
  exact gmul_ne h4 (fun h5 => hno ((lins_ev _ _).1 h5)) h3
/-- The sum of the k-th powers. -/
def ps (xs : List GF) (k : Nat) : GF := ls (fun x => pw x k) xs
/-- The value of a word of bits is the sum of its places' powers. -/
theorem vb_places (f : Ser Bool) (x : GF) : ∀ n, vb f n x = ls (fun y => y) (((List.range n).filter f.c).map (pw x))
  | 0 => rfl
  | n + 1 => by
    have e : vb f (n + 1) x = vb f n x + b2g (f.c n) * pw x n := sm_succ _ _
    rw [e, vb_places f x n, List.range_succ, List.filter_append, List.map_append, ls_append]
    congr 1
    cases h : f.c n
    · have : List.filter f.c [n] = [] := by simp [h]
      rw [this]; exact r_zero_mul _
    · have : List.filter f.c [n] = [n] := by simp [h]
      rw [this]
      show b2g true * pw x n = pw x n + 0
      rw [R2.add_zero]; exact r_one_mul _
def places (f : Ser Bool) (n : Nat) : List GF := ((List.range n).filter f.c).map (pw w)
theorem ls_map (f : GF → GF) (g : Nat → GF) : ∀ l : List Nat, ls f (l.map g) = ls (fun y => y) (l.map fun i => f (g i))
  | [] => rfl
  | a :: l => by show f (g a) + _ = f (g a) + _; rw [ls_map]
theorem pw_pw_comm (i k : Nat) : pw (pw w i) k = pw (pw w k) i := by rw [← pw_mul, ← pw_mul, Nat.mul_comm]
theorem vb_ps (f : Ser Bool) (n k : Nat) : vb f n (pw w k) = ps (places f n) k := by
  unfold ps places
  rw [vb_places, ls_map (fun x => pw x k) (pw w)]
  rw [show ((List.range n).filter f.c).map (pw (pw w k)) = ((List.range n).filter f.c).map (fun i => pw (pw w i) k) from List.map_congr_left fun i _ => (pw_pw_comm i k).symm]
theorem places_nodup (f : Ser Bool) {n : Nat} (hn : n ≤ 8191) : (places f n).Nodup := by
  refine map_nodup (List.nodup_range.sublist List.filter_sublist) fun a ha b hb e => ?_
  have h1 := List.mem_range.1 (List.mem_filter.1 ha).1
  have h2 := List.mem_range.1 (List.mem_filter.1 hb).1
  have := pw_w_inj.1 e
  omega
theorem places_ne (f : Ser Bool) (n : Nat) : ∀ x ∈ places f n, x ≠ 0 := fun x hx => by
  simp only [places, List.mem_map] at hx
  obtain ⟨i, _, rfl⟩ := hx
  exact pw_ne w_ne i
theorem places_length (f : Ser Bool) (n : Nat) : (places f n).length = ((List.range n).filter f.c).length := List.length_map _
/-- The product of 1 + X x. -/
def loc : List GF → Ser GF
  | [] => 1
  | x :: xs => (1 + cst x * XX) * loc xs
def sums (xs : List GF) : Ser GF := ⟨fun k => ps xs (k + 1)⟩
theorem Bd_locl (x : GF) : Bd (1 + cst x * XX : Ser GF) 2 := (Bd_one.mono (by omega)).add (((Bd_cst x).mul' (Bd_XX)).mono (by omega))
theorem loc_bd : ∀ xs : List GF, Bd (loc xs) (xs.length + 1)
  | [] => Bd_one
  | x :: xs => by
    have := (Bd_locl x).mul (n := 1) (loc_bd xs)
    rw [List.length_cons]
    exact this.mono (by omega)
theorem mul_c0 (f g : Ser GF) : (f * g).c 0 = f.c 0 * g.c 0 := by rw [mul_c, sm_succ, sm_zero, r_zero_add]
theorem loc_0 : ∀ xs : List GF, (loc xs).c 0 = 1
  | [] => rfl
  | x :: xs => by
    show ((1 + cst x * XX) * loc xs).c 0 = 1
    rw [mul_c0, loc_0 xs, R2.mul_one, add_c, mul_c0]
    show (1 : GF) + x * 0 = 1
    rw [r_mul_zero, R2.add_zero]
/-- One place's sums. -/
def geo (x : GF) : Ser GF := ⟨fun k => pw x (k + 1)⟩
theorem geo_rule (x : GF) : (1 + cst x * XX) * geo x = cst x := Ser.ext fun k => by
  rw [r_add_mul, r_one_mul, add_c, R2.mul_assoc, cst_mul_c, XX_mul_c, cst_c]
  show pw x (k + 1) + x * (if k = 0 then 0 else pw x (k - 1 + 1)) = _
  by_cases h : k = 0
  · subst h; rw [if_pos rfl, if_pos rfl, r_mul_zero, R2.add_zero, pw_one]
  · rw [if_neg h, if_neg h, show k - 1 + 1 = k from by omega, pw_succ, R2.mul_comm, R2.add_self]
theorem sums_cons (x : GF) (xs : List GF) : sums (x :: xs) = geo x + sums xs := Ser.ext fun k => rfl
theorem loc_rule : ∀ xs : List GF, Bd (loc xs * sums xs) xs.length
  | [] => fun i _ => by
    show (1 * sums []).c i = 0
    rw [r_one_mul]; rfl
  | x :: xs => by
    have e : loc (x :: xs) * sums (x :: xs) = cst x * loc xs + (1 + cst x * XX) * (loc xs * sums xs) := by
      show (1 + cst x * XX) * loc xs * sums (x :: xs) = _
      rw [sums_cons, R2.mul_add]
      congr 1
      · rw [show (1 + cst x * XX) * loc xs * geo x = ((1 + cst x * XX) * geo x) * loc xs from by ac_rfl, geo_rule]
      · exact R2.mul_assoc _ _ _
    rw [e, List.length_cons]
    refine Bd.add (((Bd_cst x).mul' (loc_bd xs)).mono (by omega)) ?_
    have := (Bd_locl x).mul' (loc_rule xs)
    exact this.mono (by omega)
/-- How the rules stand ahead of the n-th sum. -/
structure BMs (S : Ser GF) (n L h : Nat) (C B : Ser GF) (last : GF) : Prop where
  c0 : C.c 0 = 1
  hL : L ≤ n
  h1 : 1 ≤ h
  hh : h + L ≤ n + 1
  cb : Bd C (L + 1)
  bb : Bd B (n + 2 - L - h)
  cz : ∀ k, L ≤ k → k < n → (C * S).c k = 0
  bz : ∀ k, n + 1 - L ≤ k → k < n → (pw XX h * (B * S)).c k = 0
  bt : 0 < L → (pw XX h * (B * S)).c n = last
  ln : last ≠ 0
theorem BMs.start (S : Ser GF) : BMs S 0 0 1 1 1 1 :=
  ⟨rfl, Nat.le_refl _, Nat.le_refl _, Nat.le_refl _, Bd_one, Bd_one.mono (by omega), fun k _ h => absurd h (Nat.not_lt_zero _), fun k _ h => absurd h (Nat.not_lt_zero _), fun h => absurd h (Nat.not_lt_zero _), g_one_ne⟩
theorem shift_c (f : Ser GF) (h k : Nat) : (pw XX (h + 1) * f).c (k + 1) = (pw XX h * f).c k := by
  rw [pwXX_c, pwXX_c]
  by_cases e : h ≤ k
  · rw [if_pos e, if_pos (by omega)]; congr 1; omega
  · rw [if_neg e, if_neg (by omega)]
theorem BMs.keep {S : Ser GF} {n L h : Nat} {C B : Ser GF} {last : GF} (H : BMs S n L h C B last) (hd : (C * S).c n = 0) : BMs S (n + 1) L (h + 1) C B last where
  c0 := H.c0
  hL := Nat.le_succ_of_le H.hL
  h1 := Nat.le_add_left _ _
  hh := by have := H.hh; omega
  cb := H.cb
  bb := H.bb.mono (by omega)
  cz := fun k h1 h2 => by
    by_cases e : k = n
    · subst e; exact hd
    · exact H.cz k h1 (by omega)
  bz := fun k h1 h2 => by
    obtain ⟨j, rfl⟩ : ∃ j, k = j + 1 := ⟨k - 1, by have := H.hL; omega⟩
    rw [shift_c]; exact H.bz j (by omega) (by omega)
  bt := fun h => by rw [shift_c]; exact H.bt h
  ln := H.ln
def turnC (C B : Ser GF) (d last : GF) (h : Nat) : Ser GF := C + pw XX h * (cst (d * ginv last) * B)
theorem turnC_c {S C B : Ser GF} {d last : GF} {h : Nat} (k : Nat) : (turnC C B d last h * S).c k = (C * S).c k + d * ginv last * (pw XX h * (B * S)).c k := by
  unfold turnC
  rw [r_add_mul, add_c]
  congr 1
  rw [show pw XX h * (cst (d * ginv last) * B) * S = cst (d * ginv last) * (pw XX h * (B * S)) from by ac_rfl, cst_mul_c]
theorem pwXX_bd {f : Ser GF} {m h : Nat} (hf : Bd f m) : Bd (pw XX h * f) (h + m) := fun i hi => by
  rw [pwXX_c]; split
  · exact hf _ (by omega)
  · rfl
theorem cst_mul_bd {f : Ser GF} {m : Nat} (a : GF) (hf : Bd f m) : Bd (cst a * f) m := fun i hi => by rw [cst_mul_c, hf i hi, r_mul_zero]
theorem turnC_0 {C B : Ser GF} {d last : GF} {h : Nat} (hh : 1 ≤ h) (c0 : C.c 0 = 1) : (turnC C B d last h).c 0 = 1 := by
  unfold turnC
  rw [add_c, pwXX_c, if_neg (by omega), R2.add_zero, c0]
theorem BMs.turnz {S : Ser GF} {n L h : Nat} {C B : Ser GF} {d last : GF} (H : BMs S n L h C B last) (hd : (C * S).c n = d) (hL : 0 < L) (k : Nat) (hk : L ≤ k) (hk' : n + 1 - L ≤ k) (hn : k < n + 1) : (turnC C B d last h * S).c k = 0 := by
  rw [turnC_c]
  by_cases e : k = n
  · subst e
    rw [hd, H.bt hL, R2.mul_assoc, R2.mul_comm (ginv last), mul_ginv H.ln, R2.mul_one, R2.add_self]
  · rw [H.cz k hk (by omega), H.bz k hk' (by omega), r_mul_zero, R2.add_zero]
/-- The rule fails, and is no shorter than half. -/
theorem BMs.turn {S : Ser GF} {n L h : Nat} {C B : Ser GF} {d last : GF} (H : BMs S n L h C B last) (hd : (C * S).c n = d) (hL : n < 2 * L) : BMs S (n + 1) L (h + 1) (turnC C B d last h) B last where
  c0 := turnC_0 H.h1 H.c0
  hL := Nat.le_succ_of_le H.hL
  h1 := Nat.le_add_left _ _
  hh := by have := H.hh; omega
  cb := by
    refine H.cb.add ((pwXX_bd (cst_mul_bd _ H.bb)).mono ?_)
    have := H.hh
    omega
  bb := H.bb.mono (by omega)
  cz := fun k h1 h2 => H.turnz hd (by omega) k h1 (by omega) (by omega)
  bz := fun k h1 h2 => by
    obtain ⟨j, rfl⟩ : ∃ j, k = j + 1 := ⟨k - 1, by have := H.hL; omega⟩
    rw [shift_c]; exact H.bz j (by omega) (by omega)
  bt := fun h => by rw [shift_c]; exact H.bt h
  ln := H.ln
/-- The rule fails, and is short: a longer one. -/
theorem BMs.grow {S : Ser GF} {n L h : Nat} {C B : Ser GF} {d last : GF} (H : BMs S n L h C B last) (hd : (C * S).c n = d) (h0 : d ≠ 0) (hL : 2 * L ≤ n) : BMs S (n + 1) (n + 1 - L) 1 (turnC C B d last h) C d where
  c0 := turnC_0 H.h1 H.c0
  hL := by omega
  h1 := Nat.le_refl _
  hh := by omega
  cb := by
    refine (H.cb.mono (by omega)).add ((pwXX_bd (cst_mul_bd _ H.bb)).mono ?_)
    have := H.hh
    omega
  bb := H.cb.mono (by omega)
  cz := fun k h1 h2 => by
    by_cases e : L = 0
    · omega
    · exact H.turnz hd (by omega) k (by omega) h1 h2
  bz := fun k h1 h2 => by
    obtain ⟨j, rfl⟩ : ∃ j, k = j + 1 := ⟨k - 1, by omega⟩
    rw [shift_c, pw_zero, r_one_mul]; exact H.cz j (by omega) (by omega)
  bt := fun _ => by rw [shift_c, pw_zero, r_one_mul]; exact hd
  ln := h0
/-- The rule's roots: where it is no longer than there are places, and there are sums enough, it is 0 at the places' inverses. -/
theorem rule_roots {C : Ser GF} {L N : Nat} (xs : List GF) (hn : xs.Nodup) (h0 : ∀ x ∈ xs, x ≠ 0) (hC : Bd C (L + 1)) (hz : ∀ k, L ≤ k → k < N → (C * sums xs).c k = 0) (hN : L + xs.length ≤ N) : ∀ x ∈ xs, ev C (L + 1) (ginv x) = 0 := by
  have key : ∀ x, x ≠ 0 → ∀ j, j ≤ L → pw x (L + 1) * pw (ginv x) j = pw x (L + 1 - j) := by
    intro x hx j hj
    rw [show L + 1 = (L + 1 - j) + j from by omega, pw_add, R2.mul_assoc, ← mul_pw, mul_ginv hx, one_pw, R2.mul_one]
    congr 1; omega
  have h := weights_zero (fun x => sm (L + 1) (fun j => C.c j * pw x (L + 1 - j))) xs hn (fun m hm => by
    have h1 := hz (m + L) (by omega) (by omega)
    rw [mul_c] at h1
    rw [← h1, ls_congr (g := fun x => sm (L + 1) (fun j => C.c j * (pw x (L + 1 - j) * pw x m))) fun x _ => by rw [← sm_mul_right]; exact sm_congr fun i _ => R2.mul_assoc _ _ _, ls_sm]
    rw [sm_tail (n := L + 1) (m := m + L + 1) (by omega) (fun i h1 _ => by rw [hC i h1, r_zero_mul])]
    refine sm_congr fun j hj => ?_
    rw [ls_mul]
    congr 1
    show ls _ xs = ps xs (m + L - j + 1)
    refine ls_congr fun x _ => ?_
    rw [← pw_add]; congr 1; omega)
  intro x hx
  have h1 := h x hx
  have e : pw x (L + 1) * ev C (L + 1) (ginv x) = sm (L + 1) (fun j => C.c j * pw x (L + 1 - j)) := by
    unfold ev
    rw [← sm_mul_left]
    refine sm_congr fun j hj => ?_
    rw [← key x (h0 x hx) j (by omega)]; ac_rfl
  rw [← e] at h1
  refine Classical.byContradiction fun h2 => ?_
  exact gmul_ne (pw_ne (h0 x hx) _) h2 h1
end Go.Proofs.CsM

/- Plain mathematics: generators of codes, how far code words are apart, the shortest rule of sums (Berlekamp and Massey) and its roots. No condition. -/
import Derived.Test.YtfclloehamgplaaMDom
set_option linter.unusedVariables false
namespace Go.Proofs.CsM
/-- The roots of the generator: the conjugates of w's odd powers below 2t. -/
def gl : Nat → List GF
  | 0 => []
  | t + 1 => gl t ++ conj (pw w (2 * t + 1)) 13
/-- Their exponents. -/
def ge : Nat → List Nat
  | 0 => []
  | t + 1 => ge t ++ (List.range 13).map fun i => (2 * t + 1) * 2 ^ i % 8191
/-- The generator. -/
def gen : Nat → Ser Bool
  | 0 => 1
  | t + 1 => gen t * mp (pw w (2 * t + 1))
def ls (f : GF → GF) : List GF → GF
  | [] => 0
  | x :: xs => f x + ls f xs
/-- The sum of the k-th powers. -/
def ps (xs : List GF) (k : Nat) : GF := ls (fun x => pw x k) xs
def places (f : Ser Bool) (n : Nat) : List GF := ((List.range n).filter f.c).map (pw w)
/-- The product of 1 + X x. -/
def loc : List GF → Ser GF
  | [] => 1
  | x :: xs => (1 + cst x * XX) * loc xs
def sums (xs : List GF) : Ser GF := ⟨fun k => ps xs (k + 1)⟩
/-- One place's sums. -/
def geo (x : GF) : Ser GF := ⟨fun k => pw x (k + 1)⟩
/-- How the rules stand ahead of the n-th sum. -/
structure BMs (S : Ser GF) (n L h : Nat) (C B : Ser GF) (last : GF) : Prop where
  c0 : C.c 0 = 1
  hL : L ≤ n
  h1 : 1 ≤ h
  hh : h + L ≤ n + 1
  cb : Bd C (L + 1)
  bb : Bd B (n + 2 - L - h)
  cz : ∀ k, L ≤ k → k < n → (C * S).c k = 0
  bz : ∀ k, n + 1 - L ≤ k → k < n → (pw XX h * (B * S)).c k = 0
  bt : 0 < L → (pw XX h * (B * S)).c n = last
  ln : last ≠ 0
theorem shift_c (f : Ser GF) (h k : Nat) : (pw XX (h + 1) * f).c (k + 1) = (pw XX h * f).c k := by
  rw [pwXX_c, pwXX_c]
  by_cases e : h ≤ k
  · rw [if_pos e, if_pos (by omega)]; congr 1; omega
  · rw [if_neg e, if_neg (by omega)]
theorem BMs.keep {S : Ser GF} {n L h : Nat} {C B : Ser GF} {last : GF} (H : BMs S n L h C B last) (hd : (C * S).c n = 0) : BMs S (n + 1) L (h + 1) C B last where
  c0 := H.c0
  hL := Nat.le_succ_of_le H.hL
  h1 := Nat.le_add_left _ _
  hh := by have := H.hh; omega
  cb := H.cb
  bb := H.bb.mono (by omega)
  cz := fun k h1 h2 => by
    by_cases e : k = n
    · subst e; exact hd
    · exact H.cz k h1 (by omega)
  bz := fun k h1 h2 => by
    obtain ⟨j, rfl⟩ : ∃ j, k = j + 1 := ⟨k - 1, by have := H.hL; omega⟩
    rw [shift_c]; exact H.bz j (by omega) (by omega)
  bt := fun h => by rw [shift_c]; exact H.bt h
  ln := H.ln
def turnC (C B : Ser GF) (d last : GF) (h : Nat) : Ser GF := C + pw XX h * (cst (d * ginv last) * B)
end Go.Proofs.CsM

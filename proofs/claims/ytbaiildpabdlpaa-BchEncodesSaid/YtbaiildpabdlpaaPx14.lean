/- What Go functions of the translation come to, as plain functions, and that their calls come to just that. No condition but that the plain function answers. (Written by a program of this session.) -/
import Derived.Test.YtbaiildpabdlpaaPx0
import Derived.Test.YtbaiildpabdlpaaPx9
import Derived.Test.YtbaiildpabdlpaaPx10
namespace Go.Proofs.Ytbaiildpabdlpaa.P
open Go.RowKit Go.Proofs.YtbaiildpabdlpaaW.PrintWords Go.Proofs.YtbaiildpabdlpaaW.PrintLast Go.Proofs.YtbaiildpabdlpaaW.PrintMore
attribute [local go_sem] max2_int min2_int max_two min_two max_three min_three max_four min_four   -- for this text's walks alone
set_option linter.unusedVariables false
set_option linter.unusedSimpArgs false
def casemateref05_May.f (a0 : Int) (l1 : List Int) (a2 : Int) : Option (Bool) := if a0 ≥ 1 then (if a0 ≤ 8 then (if (l1.length : Int) ≥ 1 then (if (l1.length : Int) ≤ 512 then ((casemateref05_Bytes.f a0).bind fun t379 => (some (a2 == t379))) else (some false)) else (some false)) else (some false)) else (some false)
def casemateref04_Value.l0 : Nat → List Int → Int → Int → Int → Option (Int)
  | 0, _, _, _, _ => none
  | k + 1, x0, x1, x5, x6 => if x6 ≥ 0 then ((casemateref02_Mul.f k x5 x1).bind fun t380 => (if 0 ≤ x6 then (if x6 < (x0.length : Int) then (if (rd x0 x6) = 1 then ((casemateref02_Sum.f k t380 1).bind fun t382 => (casemateref04_Value.l0 k x0 x1 t382 (wrap64 (x6 - 1)))) else (casemateref04_Value.l0 k x0 x1 t380 (wrap64 (x6 - 1)))) else (none)) else (none))) else (some x5)
def casemateref04_Value.f (k : Nat) (l0 : List Int) (a1 : Int) : Option (Int) := casemateref04_Value.l0 k l0 a1 0 (wrap64 ((l0.length : Int) - 1))
def casemateref05_Sums.l0 : Nat → Int → List Int → List Int → Int → Option (List Int)
  | 0, _, _, _, _ => none
  | k + 1, x0, x7, x8, x9 => if x9 ≤ (wrap64 (2 * x0)) then ((casemateref02_Exp.f k x9).bind fun t386 => ((casemateref04_Value.f k x7 t386).bind fun t387 => (if x8.length < 17592186044416 then (casemateref05_Sums.l0 k x0 x7 (x8 ++ [t387]) (wrap64 (x9 + 1))) else (none)))) else (some x8)
def casemateref05_Sums.f (k : Nat) (a0 : Int) (l1 : List Int) (l2 : List Int) : Option (List Int) := (casemateref05_Word.f k a0 l1 l2).bind fun t383 => (casemateref05_Sums.l0 k a0 t383 ([] : List Int) 1)
def casemateref05_Is.l0 : Nat → List Int → Int → Option (Bool)
  | 0, _, _ => none
  | k + 1, x7, x8 => if x8 < (x7.length : Int) then (if 0 ≤ x8 then (if (rd x7 x8) = 0 then (casemateref05_Is.l0 k x7 (wrap64 (x8 + 1))) else (some false)) else (none)) else (some true)
def casemateref05_Is.f (k : Nat) (a0 : Int) (l1 : List Int) (l2 : List Int) : Option (Bool) := (casemateref05_Sums.f k a0 l1 l2).bind fun t391 => (casemateref05_Is.l0 k t391 0)
def casemateref05_Apart.l0 : Nat → List Int → List Int → Int → Int → Option (Int)
  | 0, _, _, _, _ => none
  | k + 1, x0, x1, x5, x6 => if x6 < (x0.length : Int) then (if 0 ≤ x6 then (if x6 < (x1.length : Int) then (if (rd x0 x6) = (rd x1 x6) then (casemateref05_Apart.l0 k x0 x1 x5 (wrap64 (x6 + 1))) else (casemateref05_Apart.l0 k x0 x1 (wrap64 (x5 + 1)) (wrap64 (x6 + 1)))) else (none)) else (none)) else (some x5)
def casemateref05_Apart.f (k : Nat) (l0 : List Int) (l1 : List Int) : Option (Int) := casemateref05_Apart.l0 k l0 l1 0 0
end Go.Proofs.Ytbaiildpabdlpaa.P

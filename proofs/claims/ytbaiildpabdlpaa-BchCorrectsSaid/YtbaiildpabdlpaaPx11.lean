/- What Go functions of the translation come to, as plain functions, and that their calls come to just that. No condition but that the plain function answers. (Written by a program of this session.) -/
import Derived.Test.YtbaiildpabdlpaaPx0
import Derived.Test.YtbaiildpabdlpaaPx10
namespace Go.Proofs.Ytbaiildpabdlpaa.P
open Go.RowKit Go.Proofs.YtbaiildpabdlpaaW.PrintWords Go.Proofs.YtbaiildpabdlpaaW.PrintLast Go.Proofs.YtbaiildpabdlpaaW.PrintMore
attribute [local go_sem] max2_int min2_int max_two min_two max_three min_three max_four min_four   -- for this text's walks alone
set_option linter.unusedVariables false
set_option linter.unusedSimpArgs false
mutual
def casemateref05_generator.l0 : Nat → Int → List Int → Int → Option (List Int)
  | 0, _, _, _ => none
  | k + 1, x0, x3, x4 => if x4 < (wrap64 (2 * x0)) then ((casemateref02_Exp.f k x4).bind fun t310 => (casemateref05_generator.l1 k x0 x3 x4 (([1] : List Int)) t310 0)) else (some x3)
def casemateref05_generator.l1 : Nat → Int → List Int → Int → List Int → Int → Int → Option (List Int)
  | 0, _, _, _, _, _, _ => none
  | k + 1, x0, x3, x4, x5, x6, x7 => if x7 < 13 then (if 0 ≤ (wrap64 ((x5.length : Int) + 1)) then (if (wrap64 ((x5.length : Int) + 1) : Int).toNat ≤ 35184372088832 then (casemateref05_generator.l2 k x0 x3 x4 x5 x6 x7 (List.replicate (wrap64 ((x5.length : Int) + 1) : Int).toNat 0) 0) else (none)) else (none)) else ((casemateref04_Mul.f k x3 x5).bind fun t311 => (casemateref05_generator.l0 k x0 t311 (wrap64 (x4 + 2))))
def casemateref05_generator.l2 : Nat → Int → List Int → Int → List Int → Int → Int → List Int → Int → Option (List Int)
  | 0, _, _, _, _, _, _, _, _ => none
  | k + 1, x0, x3, x4, x5, x6, x7, x8, x9 => if x9 < (x5.length : Int) then (if 0 ≤ x9 then (if x9 < (x8.length : Int) then ((casemateref02_Mul.f k (rd x5 x9) x6).bind fun t319 => ((casemateref02_Sum.f k (rd x8 x9) t319).bind fun t320 => ((some (x8.set (x9 : Int).toNat t320 : List Int)).bind fun y321 => (if 0 ≤ (wrap64 (x9 + 1)) then (if (wrap64 (x9 + 1)) < (x8.length : Int) then ((casemateref02_Sum.f k (rd y321 (wrap64 (x9 + 1))) (rd x5 x9)).bind fun t324 => (casemateref05_generator.l2 k x0 x3 x4 x5 x6 x7 (y321.set ((wrap64 (x9 + 1)) : Int).toNat t324) (wrap64 (x9 + 1)))) else (none)) else (none))))) else (none)) else (none)) else ((casemateref02_Mul.f k x6 x6).bind fun t326 => (casemateref05_generator.l1 k x0 x3 x4 x8 t326 (wrap64 (x7 + 1))))
end
def casemateref05_generator.f (k : Nat) (a0 : Int) : Option (List Int) := casemateref05_generator.l0 k a0 (([1] : List Int)) 1
def casemateref05_generator.T14 : Bool × List (List Nat × List Nat) := (true, [([], []), ([], []), ([], []), ([], []), ([2, 3], [2, 3]), ([4], [4]), ([], []), ([], []), ([6, 7], [6, 7]), ([8], [8]), ([], []), ([9, 10], [9, 10]), ([5, 11, 11], [5, 11]), ([0, 1, 0, 1, 2, 3, 4, 5, 6, 7, 8, 9, 10, 11, 12], [0, 1]), ([13, 12, 12, 0, 1, 2, 3, 4, 5, 6, 7, 8, 9, 10, 11, 12], [12, 13])])
def casemateref05_generator.B14 : List Nat := [0, 0, 0, 0, 12, 28, 0, 0, 192, 448, 0, 1984, 4092, 8191, 16383]
def casemateref05_generator.T15 : Bool × List (List Nat × List Nat) := (true, [([], []), ([], []), ([1], [1]), ([], []), ([], []), ([4], [4]), ([3, 5], [3, 5]), ([6], [6]), ([], []), ([], []), ([8, 9], [8, 9]), ([10], [10]), ([7, 11], [7, 11]), ([0, 2, 0, 1, 2, 3, 4, 5, 6, 7, 8, 9, 10, 11, 12], [0, 2]), ([13, 12, 12, 0, 1, 2, 3, 4, 5, 6, 7, 8, 9, 10, 11, 12], [12, 13])])
def casemateref05_generator.B15 : List Nat := [0, 0, 2, 0, 0, 16, 56, 120, 0, 0, 768, 1792, 4088, 8191, 16383]
def casemateref05_padded.l0 : Nat → List Int → Int → Option (List Int)
  | 0, _, _ => none
  | k + 1, x0, x1 => if (x0.length : Int) < x1 then (if x0.length < 140737488355328 then (casemateref05_padded.l0 k (x0 ++ [0]) x1) else (none)) else (some x0)
def casemateref05_padded.f (k : Nat) (l0 : List Int) (a1 : Int) : Option (List Int) := casemateref05_padded.l0 k l0 a1
end Go.Proofs.Ytbaiildpabdlpaa.P

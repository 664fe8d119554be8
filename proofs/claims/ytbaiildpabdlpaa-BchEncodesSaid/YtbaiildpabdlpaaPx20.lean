/- What Go functions of the translation come to, as plain functions, and that their calls come to just that. No condition but that the plain function answers. (Written by a program of this session.) -/
import Derived.Test.YtbaiildpabdlpaaPx0
namespace Go.Proofs.Ytbaiildpabdlpaa.P
open Go.RowKit Go.Proofs.YtbaiildpabdlpaaW.PrintWords Go.Proofs.YtbaiildpabdlpaaW.PrintLast Go.Proofs.YtbaiildpabdlpaaW.PrintMore
attribute [local go_sem] max2_int min2_int max_two min_two max_three min_three max_four min_four   -- for this text's walks alone
set_option linter.unusedVariables false
set_option linter.unusedSimpArgs false
def bits_Turn.l0 : Nat → List Int → List Int → List Int → Int → Int → Option (List Int × Int)
  | 0, _, _, _, _, _ => none
  | k + 1, x0, x6, x15, x16, x17 => if x17 < x16 then (if 0 ≤ x17 then (if x17 < (x15.length : Int) then (if (rd x15 x17) < 0 then (some (([] : List Int), 1)) else (if (rd x15 x17) ≥ (wrap64 (8 * (x0.length : Int))) then (some (([] : List Int), 1)) else (if 0 ≤ (wrap64 (Int.tdiv (rd x15 x17) 8)) then (if (wrap64 (Int.tdiv (rd x15 x17) 8)) < (x6.length : Int) then (if 0 ≤ (Int.tmod (rd x15 x17) 8) then (bits_Turn.l0 k x0 (x6.set ((wrap64 (Int.tdiv (rd x15 x17) 8)) : Int).toNat (Go.bits .xor .u8 (rd x6 (wrap64 (Int.tdiv (rd x15 x17) 8))) (shl .u8 1 (Int.tmod (rd x15 x17) 8)))) x15 x16 (wrap64 (x17 + 1))) else (none)) else (none)) else (none)))) else (none)) else (none)) else (some (x6, 0))
def bits_Turn.f (k : Nat) (l0 : List Int) (l1 : List Int) : Option (List Int × Int) := if 0 ≤ (l0.length : Int) then (if ((l0.length : Int) : Int).toNat ≤ 281474976710656 then (bits_Turn.l0 k l0 l0 l1 (l1.length : Int) 0) else (none)) else (none)
def bits_Turn.T8 : Bool × List (List Nat × List Nat) := (true, [([], []), ([], []), ([1], [1]), ([0, 2], [0, 2]), ([3], [3]), ([], []), ([5], [5]), ([6], [6]), ([4, 7], [4, 7]), ([0, 2, 0, 1, 2, 3, 4, 5, 6, 7, 8], [0, 2]), ([9, 8, 0, 1, 2, 3, 4, 5, 6, 7, 8], [8, 9])])
def bits_Turn.B8 : List Nat := [0, 0, 2, 7, 15, 0, 32, 96, 255, 511, 1023]
end Go.Proofs.Ytbaiildpabdlpaa.P

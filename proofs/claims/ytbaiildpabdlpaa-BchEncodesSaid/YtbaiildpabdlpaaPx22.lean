/- What Go functions of the translation come to, as plain functions, and that their calls come to just that. No condition but that the plain function answers. (Written by a program of this session.) -/
import Derived.Test.YtbaiildpabdlpaaPx0
namespace Go.Proofs.Ytbaiildpabdlpaa.P
open Go.RowKit Go.Proofs.YtbaiildpabdlpaaW.PrintWords Go.Proofs.YtbaiildpabdlpaaW.PrintLast Go.Proofs.YtbaiildpabdlpaaW.PrintMore
attribute [local go_sem] max2_int min2_int max_two min_two max_three min_three max_four min_four   -- for this text's walks alone
set_option linter.unusedVariables false
set_option linter.unusedSimpArgs false
mutual
def bits_Apart.l0 : Nat → List Int → List Int → List Int → Int → Int → Option (List Int × Int)
  | 0, _, _, _, _, _ => none
  | k + 1, x0, x1, x6, x15, x16 => if x16 < x15 then (bits_Apart.l1 k x0 x1 x6 x16 x15 x16 0) else (some (x6, 0))
def bits_Apart.l1 : Nat → List Int → List Int → List Int → Int → Int → Int → Int → Option (List Int × Int)
  | 0, _, _, _, _, _, _, _ => none
  | k + 1, x0, x1, x6, x7, x15, x16, x19 => if x19 < 8 then (if 0 ≤ x7 then (if x7 < (x0.length : Int) then (if x7 < (x1.length : Int) then (if 0 ≤ x19 then (if (Go.bits .and .u8 (shr .u8 (Go.bits .xor .u8 (rd x0 x7) (rd x1 x7)) x19) 1) = 1 then (if x6.length < 17592186044416 then (bits_Apart.l1 k x0 x1 (x6 ++ [wrap64 ((wrap64 (8 * x7)) + x19)]) x7 x15 x16 (wrap64 (x19 + 1))) else (none)) else (bits_Apart.l1 k x0 x1 x6 x7 x15 x16 (wrap64 (x19 + 1)))) else (none)) else (none)) else (none)) else (none)) else (bits_Apart.l0 k x0 x1 x6 x15 (wrap64 (x16 + 1)))
end
def bits_Apart.f (k : Nat) (l0 : List Int) (l1 : List Int) : Option (List Int × Int) := if (l0.length : Int) = (l1.length : Int) then (bits_Apart.l0 k l0 l1 ([] : List Int) (l0.length : Int) 0) else (some (([] : List Int), 1))
end Go.Proofs.Ytbaiildpabdlpaa.P

/- What Go functions of the translation come to, as plain functions, and that their calls come to just that. No condition but that the plain function answers. (Written by a program of this session.) -/
import Derived.Test.YtfpdloccmneabaaPx0
import Derived.Test.YtfpdloccmneabaaPx4
import Derived.Test.YtfpdloccmneabaaPx18
namespace Go.Proofs.Ytfpdloccmneabaa.P
open Go.RowKit Go.Proofs.YtfpdloccmneabaaW.PrintWords Go.Proofs.YtfpdloccmneabaaW.PrintLast Go.Proofs.YtfpdloccmneabaaW.PrintMore
attribute [local go_sem] max2_int min2_int max_two min_two max_three min_three max_four min_four   -- for this text's walks alone
set_option linter.unusedVariables false
set_option linter.unusedSimpArgs false
def casemateref06_sector.f (a0_0 : Int) (a0_1 : Int) (a0_2 : Int) (a0_3 : Int) (a0_4 : Int) (l1 : List Int) (a2 : Int) : Option (List Int) := (casemateref06_Whole.f a0_0 a0_1 a0_2 a0_3 a0_4).bind fun t => if 0 ≤ wrap64 (a2 * t) then (if wrap64 (a2 * t) ≤ wrap64 (wrap64 (a2 + 1) * t) then (if wrap64 (wrap64 (a2 + 1) * t) ≤ (l1.length : Int) then some ((l1.take (wrap64 (wrap64 (a2 + 1) * t) : Int).toNat).drop (wrap64 (a2 * t) : Int).toNat) else none) else none) else none
mutual
def casemateref06_Marked.l0 : Nat → List Int → Int → Int → Int → Int → Int → Int → Option (Int)
  | 0, _, _, _, _, _, _, _ => none
  | k + 1, x1, x6, x569000, x569001, x569002, x569003, x569004 => if x6 < x569002 then ((casemateref06_sector.f x569000 x569001 x569002 x569003 x569004 x1 x6).bind fun t570 => ((casemateref01_All.f k t570).bind fun t573 => (casemateref06_Marked.l1 k x1 x6 t573 0 0 x569000 x569001 x569002 x569003 x569004))) else (some 61)
def casemateref06_Marked.l1 : Nat → List Int → Int → List Int → Int → Int → Int → Int → Int → Int → Int → Option (Int)
  | 0, _, _, _, _, _, _, _, _, _, _ => none
  | k + 1, x1, x6, x7, x8, x9, x569000, x569001, x569002, x569003, x569004 => if x9 < (x7.length : Int) then (if 0 ≤ x9 then (casemateref06_Marked.l1 k x1 x6 x7 (wrap64 ((wrap64 (x8 + 1)) - (rd x7 x9))) (wrap64 (x9 + 1)) x569000 x569001 x569002 x569003 x569004) else (none)) else (if x8 > x569004 then (some 60) else (casemateref06_Marked.l0 k x1 (wrap64 (x6 + 1)) x569000 x569001 x569002 x569003 x569004))
end
def casemateref06_Marked.f (k : Nat) (a0_0 : Int) (a0_1 : Int) (a0_2 : Int) (a0_3 : Int) (a0_4 : Int) (l1 : List Int) : Option (Int) := if 0 ≤ (wrap64 ((l1.length : Int) - 1)) then (if (wrap64 ((l1.length : Int) - 1)) < (l1.length : Int) then (if (rd l1 (wrap64 ((l1.length : Int) - 1))) = 0 then (some 0) else (if (rd l1 (wrap64 ((l1.length : Int) - 1))) = 255 then (casemateref06_Marked.l0 k l1 0 a0_0 a0_1 a0_2 a0_3 a0_4) else (some 60))) else (none)) else (none)
def casemateref05_Apart.l0 : Nat → List Int → List Int → Int → Int → Option (Int)
  | 0, _, _, _, _ => none
  | k + 1, x0, x1, x5, x6 => if x6 < (x0.length : Int) then (if 0 ≤ x6 then (if x6 < (x1.length : Int) then (if (rd x0 x6) = (rd x1 x6) then (casemateref05_Apart.l0 k x0 x1 x5 (wrap64 (x6 + 1))) else (casemateref05_Apart.l0 k x0 x1 (wrap64 (x5 + 1)) (wrap64 (x6 + 1)))) else (none)) else (none)) else (some x5)
def casemateref05_Apart.f (k : Nat) (l0 : List Int) (l1 : List Int) : Option (Int) := casemateref05_Apart.l0 k l0 l1 0 0
end Go.Proofs.Ytfpdloccmneabaa.P

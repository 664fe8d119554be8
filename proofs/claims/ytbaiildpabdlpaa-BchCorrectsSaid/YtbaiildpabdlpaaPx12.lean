/- What Go functions of the translation come to, as plain functions, and that their calls come to just that. No condition but that the plain function answers. (Written by a program of this session.) -/
import Derived.Test.YtbaiildpabdlpaaPx0
import Derived.Test.YtbaiildpabdlpaaPx9
import Derived.Test.YtbaiildpabdlpaaPx11
namespace Go.Proofs.Ytbaiildpabdlpaa.P
open Go.RowKit Go.Proofs.YtbaiildpabdlpaaW.PrintWords Go.Proofs.YtbaiildpabdlpaaW.PrintLast Go.Proofs.YtbaiildpabdlpaaW.PrintMore
attribute [local go_sem] max2_int min2_int max_two min_two max_three min_three max_four min_four   -- for this text's walks alone
set_option linter.unusedVariables false
set_option linter.unusedSimpArgs false
mutual
def casemateref01_Put.l0 : Nat → List Int → List Int → Int → Option (List Int)
  | 0, _, _, _ => none
  | k + 1, x0, x3, x4 => if x4 < (x0.length : Int) then (casemateref01_Put.l1 k x0 x3 x4 1 0) else (some x3)
def casemateref01_Put.l1 : Nat → List Int → List Int → Int → Int → Int → Option (List Int)
  | 0, _, _, _, _, _ => none
  | k + 1, x0, x3, x4, x5, x6 => if x6 < (Int.tmod x4 8) then (casemateref01_Put.l1 k x0 x3 x4 (wrap64 (2 * x5)) (wrap64 (x6 + 1))) else (if 0 ≤ (wrap64 (Int.tdiv x4 8)) then (if (wrap64 (Int.tdiv x4 8)) < (x3.length : Int) then (if 0 ≤ x4 then (if x4 < (x0.length : Int) then (casemateref01_Put.l0 k x0 (x3.set ((wrap64 (Int.tdiv x4 8)) : Int).toNat (((rd x3 (wrap64 (Int.tdiv x4 8))) + ((wrap64 (x5 * (rd x0 x4))) % 256)) % 256)) (wrap64 (x4 + 1))) else (none)) else (none)) else (none)) else (none))
end
def casemateref01_Put.f (k : Nat) (l0 : List Int) : Option (List Int) := if 0 ≤ (wrap64 (Int.tdiv (wrap64 ((l0.length : Int) + 7)) 8)) then (if (wrap64 (Int.tdiv (wrap64 ((l0.length : Int) + 7)) 8) : Int).toNat ≤ 281474976710656 then (casemateref01_Put.l0 k l0 (List.replicate (wrap64 (Int.tdiv (wrap64 ((l0.length : Int) + 7)) 8) : Int).toNat 0) 0) else (none)) else (none)
def casemateref01_Put.T10 : Bool × List (List Nat × List Nat) := (true, [([], []), ([], []), ([1], [1]), ([], []), ([], []), ([4], [4]), ([3, 5], [3, 5]), ([6], [6]), ([], []), ([], []), ([], []), ([9, 10], [9, 10]), ([11], [11]), ([8, 12], [8, 12]), ([13], [13]), ([7, 14], [7, 14]), ([0, 2, 0, 1, 2, 3, 4, 5, 6, 7, 8, 9, 10, 11, 12, 13, 14, 15], [0, 2]), ([16, 15, 0, 1, 2, 3, 4, 5, 6, 7, 8, 9, 10, 11, 12, 13, 14, 15], [15, 16])])
def casemateref01_Put.B10 : List Nat := [0, 0, 2, 0, 0, 16, 56, 120, 0, 0, 0, 1536, 3584, 7936, 16128, 32760, 65535, 131071]
def casemateref05_Encode.f (k : Nat) (a0 : Int) (l1 : List Int) : Option (List Int) := (casemateref05_Bytes.f a0).bind fun t336 => (if 0 ≤ t336 then (if (t336 : Int).toNat ≤ 281474976710656 then ((casemateref05_Word.f k a0 l1 (List.replicate (t336 : Int).toNat 0)).bind fun t340 => ((casemateref05_generator.f k a0).bind fun t343 => ((casemateref04_Mod.f k t340 t343).bind fun t346 => (if 0 ≤ (wrap64 (13 * a0)) then (if (wrap64 (13 * a0)) ≤ (t346.length : Int) then ((casemateref01_Put.f k (t346.take ((wrap64 (13 * a0)) : Int).toNat)).bind fun t353 => ((casemateref05_Bytes.f a0).bind fun t356 => ((casemateref05_padded.f k t353 t356).bind fun t357 => (some t357)))) else (none)) else (none))))) else (none)) else (none))
end Go.Proofs.Ytbaiildpabdlpaa.P

/- What the functions of layer 6 come to: the mark, the sectors. Conditions: geometries that may be, rows of bytes. -/
import Derived.Test.YtfpdloccmneabaaL6
import Derived.Test.YtfpdloccmneabaaPx0
import Derived.Test.YtfpdloccmneabaaPx6
import Derived.Test.YtfpdloccmneabaaPx10
import Derived.Test.YtfpdloccmneabaaPx20
set_option linter.unusedVariables false
set_option linter.unusedSimpArgs false
namespace Go.Proofs.Ytfpdloccmneabaa.L
open Go Go.RowKit Go.Proofs.Ytfpdloccmneabaa.P Go.Proofs.YtfpdloccmneabaaW.PrintWords Go.Proofs.YtfpdloccmneabaaW.PrintLast Go.Proofs.YtfpdloccmneabaaW.PrintMore Go.Proofs.CsM
/-- Sector i of raw bytes. -/
def sg (w : Nat) (R : List Int) (i : Nat) : List Int := (R.drop (i * w)).take w
/-- Are the noughts of each sector few? -/
def few (t w : Nat) (R : List Int) : Nat → Nat → Bool
  | 0, _ => true
  | m + 1, i => decide (8 * w - ones (sg w R i) ≤ t) && few t w R m (i + 1)
/-- What the mark and the noughts say. -/
def says (s w t : Nat) (R : List Int) : Int := if R.getD (s * w) 0 = 0 then 0 else if R.getD (s * w) 0 = 255 then (if few t w R s 0 = true then 61 else 60) else 60
/-- What a word is told as. -/
structure DecOk (t : Nat) (d m : List Int) (r : List Int × List Int × Int × Int) : Prop where
  run : Evt fun k => bch_Decode.f k (t : Int) d m = some r
  ok : (∃ N : Nat, r.2.2 = ((N : Int), 0) ∧ N ≤ t ∧ Wok t r.1 r.2.1 ∧ r.1.length = d.length ∧ Code t (L.wd t r.1 r.2.1) (wl t r.1) ∧ (∀ j, 13 * t ≤ j → bitAt r.2.1 j = false) ∧ cnt (fun j => (L.wd t d m).c j ^^ (L.wd t r.1 r.2.1).c j) (wl t d) = N) ∨ r = ([], [], 0, 50)
noncomputable def dec (t : Nat) (d m : List Int) : List Int × List Int × Int × Int := open Classical in if h : ∃ r, DecOk t d m r then Classical.choose h else ([], [], 0, 0)
/-- A sector's answer. -/
noncomputable def sct (t n : Nat) (S : List Int) : S39 := ⟨(dec t (S.take n) (S.drop n)).1, (dec t (S.take n) (S.drop n)).2.2.1, (dec t (S.take n) (S.drop n)).2.2.2⟩
/-- The answers of the sectors from i on. -/
noncomputable def scts (t n w : Nat) (R : List Int) : Nat → Nat → List S39
  | 0, _ => []
  | m + 1, i => sct t n (sg w R i) :: scts t n w R m (i + 1)
/-- What Unpack tells. -/
noncomputable def unp (s n t : Nat) (R : List Int) : List S39 × Int := if says s (wh n t) t R = 0 then (scts t n (wh n t) R s 0, 0) else ([], says s (wh n t) t R)
/-- What is read of the sectors' answers. -/
def rdl : List S39 → List Int → Int → List Int × Int × Int
  | [], x, m => (x, m, 0)
  | e :: l, x, m => if e.f2 = 0 then rdl l (x ++ e.f0) (mx m e.f1) else ([], 0, e.f2)
noncomputable def rea (s n t : Nat) (R : List Int) : List Int × Int × Int := if says s (wh n t) t R = 0 then rdl (scts t n (wh n t) R s 0) [] 0 else ([], 0, says s (wh n t) t R)
end Go.Proofs.Ytfpdloccmneabaa.L

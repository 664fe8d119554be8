/- What carries a fact to a later world: blocks laid and orders drawn change nothing below. No condition. -/
import Derived.Test.YtfpdloccmneabaaPx0
namespace Go.Proofs.Ytfpdloccmneabaa.P
open Go Go.RowKit Go.Proofs.YtfpdloccmneabaaW.PrintWords Go.Proofs.YtfpdloccmneabaaW.PrintLast Go.Proofs.YtfpdloccmneabaaW.PrintMore
class Ups (w w' : World) : Prop where
  up : Below w.heap.size w w'
instance (priority := low) Ups.same (w : World) : Ups w w := ⟨Below.refl _ _⟩
instance Ups.alloc (w W : World) (o : Obj) [h : Ups w W] : Ups w (W.alloc o) := ⟨below_alloc h.up o⟩
instance Ups.drewN (w W : World) (n : Nat) [h : Ups w W] : Ups w (W.drewN n) := ⟨pw_below_drewN h.up n⟩
instance Ups.drew (w W : World) [h : Ups w W] : Ups w W.drew := ⟨below_drew1 h.up⟩
theorem uB {w0 w w' : World} [h : Ups w w'] (H : Below w0.heap.size w0 w) : Below w0.heap.size w0 w' := below_step H h.up
theorem uK {w w' : World} [h : Ups w w'] {g : Nat} {o : Obj} (H : w.heap[g]? = some o) : w'.heap[g]? = some o := blk_below H h.up
theorem uR {α : Type} {d : Kd α} {e : Nat} {w w' : World} {base : Nat} {ok : Nat → Prop} {v : Value} {xs : List α} [h : Ups w w'] (H : Kd.R d e w base ok v xs) : Kd.R d e w' base ok v xs := Kd.R_below H h.up
theorem uV {α : Type} {d : Kd α} {e : Nat} {w w' : World} {base : Nat} {ok : Nat → Prop} {v : Value} {xs : List α} [h : Ups w w'] (H : Kd.V d e w base ok v xs) : Kd.V d e w' base ok v xs := Kd.V_below H h.up
theorem uS {α : Type} {d : Kd α} {e : Nat} {w w' : World} {base : Nat} {ok : Nat → Prop} {v : Value} {xs : List α} [h : Ups w w'] (H : Kd.S d e w base ok v xs) : Kd.S d e w' base ok v xs := Kd.S_below H h.up
end Go.Proofs.Ytfpdloccmneabaa.P

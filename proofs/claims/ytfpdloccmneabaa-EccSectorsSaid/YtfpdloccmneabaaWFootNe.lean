/- Words of the print, as far as this proof leans on them. No condition. -/
import Derived.Test.YtfpdloccmneabaaWN
namespace Go.Proofs.YtfpdloccmneabaaW.PrintWords
open Go.RowKit
namespace Kd
section
variable {α : Type} {d : Kd α} {W : World} {g n : Nat} {S ok : Nat → Prop} {A : Option Addr} {ad : Addr} {xs : List α}
end
end Kd
end Go.Proofs.YtfpdloccmneabaaW.PrintWords

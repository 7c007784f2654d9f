/- Texts of this claim. -/
import Derived.Test.YtmjemknimipnjaaGreatDoorMk15
import Derived.BigRegion
namespace Go.Proofs.YtmjemknimipnjaaGreatDoor
open Go.RowKit
section
variable (A B : Option Addr) (c d : Nat) (i j : Int) (w : World)
set_option maxRecDepth 100000
end
end Go.Proofs.YtmjemknimipnjaaGreatDoor

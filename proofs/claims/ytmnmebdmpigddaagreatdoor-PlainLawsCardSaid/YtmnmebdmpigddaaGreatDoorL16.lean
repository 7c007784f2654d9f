/- Texts of this claim. -/
import Derived.Test.YtmnmebdmpigddaaGreatDoorL15
import Derived.BigRegion
set_option maxRecDepth 100000
namespace Go.Proofs.YtmnmebdmpigddaaGreatDoor
open Go.RowKit
section
variable (A B:Option Addr) (c d:Nat) (i j:Int) (w:World)
end
end Go.Proofs.YtmnmebdmpigddaaGreatDoor

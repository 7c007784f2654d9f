/- Texts of this claim. -/
import Derived.Test.YtdofcnodhgaedaaGreatDoorG15
import Derived.BigRegion
set_option maxRecDepth 100000
namespace Go.Proofs.YtdofcnodhgaedaaGreatDoor
open Go.RowKit Proofs.Tryz
section
variable (A B:Option Addr) (c d:Nat) (i j:Int) (w:World)
end
end Go.Proofs.YtdofcnodhgaedaaGreatDoor

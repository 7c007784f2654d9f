/- Texts of this claim. -/
import Derived.Test.YtmjbnhjgebjhlaaDoorK14
import Derived.BigRegion
namespace Go.Proofs.YtmjbnhjgebjhlaaDoor
open Go.RowKit
section
variable (A B : Option Addr) (c d : Nat) (i j : Int) (w : World)
set_option maxRecDepth 100000
end
end Go.Proofs.YtmjbnhjgebjhlaaDoor

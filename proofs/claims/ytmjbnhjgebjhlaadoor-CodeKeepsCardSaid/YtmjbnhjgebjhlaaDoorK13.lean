/- Texts of this claim. -/
import Derived.Test.YtmjbnhjgebjhlaaDoorK12
import Derived.Lib.SlBytesConst
namespace Go.Proofs.YtmjbnhjgebjhlaaDoor
open Go.RowKit
set_option maxRecDepth 100000
end Go.Proofs.YtmjbnhjgebjhlaaDoor
namespace Go.Proofs.YtmjbnhjgebjhlaaDoor
open Go.RowKit
def RetN (W : World) (n : Bool) (xs : List Nat) (e : Ending) (w' : World) : Prop := ∃ A c, e = .returned (.agg #[.bool n, .slice A xs.length c]) ∧ Nums w' A xs ∧ Below W.heap.size W w'
def RetTwoN (W : World) (e : Ending) (w' : World) : Prop := ∃ A c B d, e = .returned (.tuple #[.agg #[.bool true, .slice A 1 c], .agg #[.bool false, .slice B 1 d], .int .i64 0]) ∧ Nums w' A [4] ∧ Nums w' B [1] ∧ Below W.heap.size W w'
set_option maxRecDepth 100000
end Go.Proofs.YtmjbnhjgebjhlaaDoor

/- Texts of this claim. -/
import Derived.Test.YtmjbnhjgebjhlaaDoorK21
import Derived.MakeChecks
import Derived.Stop.LaidErr
import Derived.SizedLaws
import Derived.ChangeMaps5
namespace Go.Proofs.YtmjbnhjgebjhlaaDoor
open Go.ChangeShapes Go.WideShapes Go.ChangeAt Go.RowKit Go.Joins
set_option maxRecDepth 100000
theorem laid_plain {W : World} (h : laidMetH Tryd.prog Rows.codeSpoilsRow.laid W) : laidMet Tryd.prog Rows.codeSpoilsRow.laid W := by
 rw [MakeChecks.laidMetH_plain _ _ _ (by kernel_rfl)] at h;exact h
end Go.Proofs.YtmjbnhjgebjhlaaDoor

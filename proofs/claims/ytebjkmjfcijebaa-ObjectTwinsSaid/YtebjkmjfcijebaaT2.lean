/- Texts of this claim. -/
import Derived.Test.YtebjkmjfcijebaaT1
import Derived.Shelf.Strconv.Itoa0
import Derived.Test.YtebjkmjfcijebaaProg
namespace Go.Proofs
open Go.Shelf
end Go.Proofs

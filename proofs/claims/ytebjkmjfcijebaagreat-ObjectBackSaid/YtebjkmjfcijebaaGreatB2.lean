/- Texts of this claim. -/
import Derived.Test.YtebjkmjfcijebaaGreatB1
import Derived.Shelf.Strconv.Itoa0
import Derived.Test.YtebjkmjfcijebaaGreatProg
namespace Go.Proofs
open Go.Shelf
end Go.Proofs

/- Texts of this claim. -/
import Derived.Test.YtdofcnodhgaedaaGreatDoorG9
import Derived.Lib.LaidTab
set_option maxRecDepth 100000
namespace Go.Proofs.YtdofcnodhgaedaaGreatDoor
open Go.RowKit Proofs.Tryz
theorem later {F:World→Prop} {w w1:World} (ht:∀b,Below w.heap.size w b→F b) (h:Below w.heap.size w w1):∀b,Below w1.heap.size w1 b→F b:=fun b hb=>ht b (h.trans (hb.mono h.size))
abbrev dH (w:World):Prop:=Lib.TabIs prog w "internal/strconv.uint64pow10" .u64 Lib.pow10Tab
end Go.Proofs.YtdofcnodhgaedaaGreatDoor

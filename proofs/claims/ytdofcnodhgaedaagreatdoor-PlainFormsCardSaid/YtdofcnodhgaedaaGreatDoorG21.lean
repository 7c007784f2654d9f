/- Texts of this claim. -/
import Derived.Test.YtdofcnodhgaedaaGreatDoorG20
import Derived.MakeChecks
import Derived.Stop.LaidErr
import Derived.SizedLaws
import Derived.ChangeMaps5
set_option maxRecDepth 100000
namespace Go.Proofs.YtdofcnodhgaedaaGreatDoor
open Go.ChangeShapes Go.WideShapes Go.ChangeAt Go.RowKit Go.Joins
theorem ygk {W:World} (h:laidMetH Tryz.prog Rows.plainFormsRow.laid W):laidMet Tryz.prog Rows.plainFormsRow.laid W:=by
 rw[MakeChecks.laidMetH_plain _ _ _ kr] at h;exact h
end Go.Proofs.YtdofcnodhgaedaaGreatDoor
namespace Go.Proofs.YtdofcnodhgaedaaGreatDoor
open Proofs.Tryz
open Go.ChangeShapes Go.WideShapes Go.ChangeAt Go.RowKit Go.Joins
theorem tab_stays {W b:World} (h:dH W) (hb:Below W.heap.size W b):dH b:=by
 have hg:prog.globalNamed "internal/strconv.uint64pow10" =some 3:=kr;unfold dH Lib.TabIs World.var? at h ⊢;rw[hg,Option.bind_some] at h ⊢;have hlt:3<W.heap.size:=by
  rcases Nat.lt_or_ge 3 W.heap.size with h' | h'
  · exact h'
  · rw[Array.getElem?_eq_none h'] at h;cases h
 rw[hb.block _ hlt];exact h
theorem Uh {W:World} (h:laidMetH prog Rows.plainFormsRow.laid W) (b:World) (hb:Below W.heap.size W b):dH b:=
 tab_stays (Lib.tabIs_of_head (k:=.u64) (zs:=Lib.pow10Tab) (g:=3) (t:=170) (e:=25) (n:=20) kr kr underlying170 u25 kr kr (ygk h).tail.tail.tail.tail.tail.tail.tail.tail) hb
end Go.Proofs.YtdofcnodhgaedaaGreatDoor

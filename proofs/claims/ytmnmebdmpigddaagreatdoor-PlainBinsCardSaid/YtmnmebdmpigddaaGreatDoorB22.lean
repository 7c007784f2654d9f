/- Texts of this claim. -/
import Derived.Test.YtmnmebdmpigddaaGreatDoorB21
import Derived.MakeChecks
import Derived.Stop.LaidErr
import Derived.SizedLaws
import Derived.ChangeMaps5
set_option maxRecDepth 100000
namespace Go.Proofs.YtmnmebdmpigddaaGreatDoor
open Go.ChangeShapes Go.WideShapes Go.ChangeAt Go.RowKit Go.Joins
theorem qqz {W:World} (h:laidMetH Tryz.prog Rows.plainBinsRow.laid W):laidMet Tryz.prog Rows.plainBinsRow.laid W:=by
 rw[MakeChecks.laidMetH_plain _ _ _ kr] at h;exact h
end Go.Proofs.YtmnmebdmpigddaaGreatDoor
namespace Go.Proofs.YtmnmebdmpigddaaGreatDoor
open Proofs.Tryz
open Go.ChangeShapes Go.WideShapes Go.ChangeAt Go.RowKit Go.Joins
theorem tab_stays {W b:World} (h:iC W) (hb:Below W.heap.size W b):iC b:=by
 have hg:prog.globalNamed "internal/strconv.uint64pow10" =some 9:=kr;unfold iC Lib.TabIs World.var? at h ⊢;rw[hg,Option.bind_some] at h ⊢;have hlt:9<W.heap.size:=by
  rcases Nat.lt_or_ge 9 W.heap.size with h' | h'
  · exact h'
  · rw[Array.getElem?_eq_none h'] at h;cases h
 rw[hb.block _ hlt];exact h
theorem alq {W:World} (h:laidMetH prog Rows.plainBinsRow.laid W) (b:World) (hb:Below W.heap.size W b):iC b:=
 tab_stays (Lib.tabIs_of_head (k:=.u64) (zs:=Lib.pow10Tab) (g:=9) (t:=238) (e:=25) (n:=20) kr kr underlying238 u25 kr kr (qqz h).tail.tail.tail.tail.tail.tail.tail.tail) hb
end Go.Proofs.YtmnmebdmpigddaaGreatDoor

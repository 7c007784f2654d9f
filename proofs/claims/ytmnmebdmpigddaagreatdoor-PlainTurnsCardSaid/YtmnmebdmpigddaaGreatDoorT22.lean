/- Texts of this claim. -/
import Derived.Test.YtmnmebdmpigddaaGreatDoorT21
import Derived.MakeChecks
import Derived.Stop.LaidErr
import Derived.SizedLaws
import Derived.ChangeMaps5
set_option maxRecDepth 100000
namespace Go.Proofs.YtmnmebdmpigddaaGreatDoor
open Go.ChangeShapes Go.WideShapes Go.ChangeAt Go.RowKit Go.Joins
theorem qaq {W:World} (h:laidMetH Tryz.prog Rows.plainBinsRow.laid W):laidMet Tryz.prog Rows.plainBinsRow.laid W:=by
 rw[MakeChecks.laidMetH_plain _ _ _ (by kernel_rfl)] at h;exact h
theorem tab_stays {W b:World} (h:TabD W) (hb:Below W.heap.size W b):TabD b:=by
 have hg:Tryz.prog.globalNamed "internal/strconv.uint64pow10" =some 9:=by kernel_rfl
 unfold TabD Lib.TabIs World.var? at h ⊢;rw[hg,Option.bind_some] at h ⊢;have hlt:9<W.heap.size:=by
  rcases Nat.lt_or_ge 9 W.heap.size with h' | h'
  · exact h'
  · rw[Array.getElem?_eq_none h'] at h;cases h
 rw[hb.block _ hlt];exact h
theorem tabd_of {W:World} (h:laidMetH Tryz.prog Rows.plainBinsRow.laid W) (b:World) (hb:Below W.heap.size W b):TabD b:=
 tab_stays (Lib.tabIs_of_head (k:=.u64) (zs:=Lib.pow10Tab) (g:=9) (t:=238) (e:=25) (n:=20) (by kernel_rfl) (by kernel_rfl) Tryz.underlying238 u25 (by kernel_rfl) (by kernel_rfl) (qaq h).tail.tail.tail.tail.tail.tail.tail.tail) hb
end Go.Proofs.YtmnmebdmpigddaaGreatDoor

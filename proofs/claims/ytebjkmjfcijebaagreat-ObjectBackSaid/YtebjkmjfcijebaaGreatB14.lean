/- Texts of this claim. -/
import Derived.Test.YtebjkmjfcijebaaGreatB13
import Derived.Lib.SlBytesConst
set_option maxRecDepth 100000
namespace Go.Proofs.YtebjkmjfcijebaaGreat
open Go.RowKit
end Go.Proofs.YtebjkmjfcijebaaGreat
namespace Go.Proofs.YtebjkmjfcijebaaGreat
open Go.RowKit
theorem digs_one {b x:Nat} (hb:2≤b) (h0:x≠0) (h:x<b):js b x= [x]:=by
 rw[xx hb h0,Nat.mod_eq_of_lt h,Nat.div_eq_of_lt h,yjk]
theorem limbs_one {i:Int} (h0:i≠0) (h:i.natAbs<1000000000000000000):limbs i= [i.natAbs]:=by
 rw[vg,digs_one vd (by omega) (by unfold B18;exact h)]
def RetN (W:World) (n:Bool) (xs:List Nat) (e:Ending) (w':World):Prop:=∃A c,e= .returned (.agg #[.bool n,.slice A xs.length c])∧Nums w' A xs∧Below W.heap.size W w'
def RetTwoN (W:World) (e:Ending) (w':World):Prop:=∃A c B d,e= .returned (.tuple #[.agg #[.bool true,.slice A 1 c],.agg #[.bool false,.slice B 1 d],.int .i64 0])∧Nums w' A [4]∧Nums w' B [1]∧Below W.heap.size W w'
theorem good_4 (A:Option Addr) (c:Nat) (w:World) (hx:Nums w A [4]):Calls Tryz.prog 36 #[.agg #[.bool true,.slice A 1 c]] w fun e w'=>e= .returned (.bool true)∧Below w.heap.size w w':=by
 have h:=qm true c w A [4] (by decide) hx;rwa [show yq true [4]=true from by simp[yq,nth,yek]] at h
end Go.Proofs.YtebjkmjfcijebaaGreat

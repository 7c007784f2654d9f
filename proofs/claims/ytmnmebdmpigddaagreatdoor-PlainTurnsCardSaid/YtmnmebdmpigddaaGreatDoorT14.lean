/- Texts of this claim. -/
import Derived.Test.YtmnmebdmpigddaaGreatDoorT13
import Derived.Lib.SlBytesConst
set_option maxRecDepth 100000
namespace Go.Proofs.YtmnmebdmpigddaaGreatDoor
open Go.RowKit
end Go.Proofs.YtmnmebdmpigddaaGreatDoor
namespace Go.Proofs.YtmnmebdmpigddaaGreatDoor
open Go.RowKit
theorem SX {b x:Nat} (hb:2≤b) (h0:x≠0) (h:x<b):aX b x= [x]:=by
 rw[kq hb h0,Nat.mod_eq_of_lt h,Nat.div_eq_of_lt h,yaq]
theorem Nc {i:Int} (h0:i≠0) (h:i.natAbs<1000000000000000000):limbs i= [i.natAbs]:=by
 rw[qo,SX qj om (by unfold au;exact h)]
def aUx (W:World) (n:Bool) (xs:List Nat) (e:Ending) (w':World):Prop:=∃A c,e= .returned (.agg #[.bool n,.slice A xs.length c])∧aC w' A xs∧Below W.heap.size W w'
def aL3 (W:World) (e:Ending) (w':World):Prop:=∃A c B d,e= .returned (.tuple #[.agg #[.bool true,.slice A 1 c],.agg #[.bool false,.slice B 1 d],.int .i64 0])∧aC w' A [4]∧aC w' B [1]∧Below W.heap.size W w'
end Go.Proofs.YtmnmebdmpigddaaGreatDoor

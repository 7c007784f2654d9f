/- Texts of this claim. -/
import Derived.Test.YtmnmebdmpigddaaGreatDoorB13
import Derived.Lib.SlBytesConst
set_option maxRecDepth 100000
namespace Go.Proofs.YtmnmebdmpigddaaGreatDoor
open Go.RowKit Proofs.Tryz
theorem SV {b x:Nat} (hb:2≤b) (h0:x≠0) (h:x<b):aS b x= [x]:=by
 rw[kg hb h0,Nat.mod_eq_of_lt h,Nat.div_eq_of_lt h,ymq]
theorem MR {i:Int} (h0:i≠0) (h:i.natAbs<1000000000000000000):limbs i= [i.natAbs]:=by
 rw[qo,SV qk om (by unfold av;exact h)]
def bfq (W:World) (n:Bool) (xs:List Nat) (e:Ending) (w':World):Prop:=∃A c,e= .returned (.agg #[.bool n,.slice A xs.length c])∧aA w' A xs∧Below W.heap.size W w'
def aTx (W:World) (e:Ending) (w':World):Prop:=∃A c B d,e= .returned (.tuple #[.agg #[.bool true,.slice A 1 c],.agg #[.bool false,.slice B 1 d],.int .i64 0])∧aA w' A [4]∧aA w' B [1]∧Below W.heap.size W w'
end Go.Proofs.YtmnmebdmpigddaaGreatDoor

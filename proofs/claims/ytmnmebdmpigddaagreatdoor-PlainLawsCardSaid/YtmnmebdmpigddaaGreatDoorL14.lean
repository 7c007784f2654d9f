/- Texts of this claim. -/
import Derived.Test.YtmnmebdmpigddaaGreatDoorL13
import Derived.Lib.SlBytesConst
set_option maxRecDepth 100000
namespace Go.Proofs.YtmnmebdmpigddaaGreatDoor
open Go.RowKit
end Go.Proofs.YtmnmebdmpigddaaGreatDoor
namespace Go.Proofs.YtmnmebdmpigddaaGreatDoor
open Go.RowKit
theorem PW {b x:Nat} (hb:2≤b) (h0:x≠0) (h:x<b):bI b x= [x]:=by
 rw[kx hb h0,Nat.mod_eq_of_lt h,Nat.div_eq_of_lt h,zvk]
theorem Ko {i:Int} (h0:i≠0) (h:i.natAbs<1000000000000000000):limbs i= [i.natAbs]:=by
 rw[qn,PW qg om (by unfold au;exact h)]
def aP9 (W:World) (n:Bool) (xs:List Nat) (e:Ending) (w':World):Prop:=∃A c,e= .returned (.agg #[.bool n,.slice A xs.length c])∧aA w' A xs∧Below W.heap.size W w'
def aG7 (W:World) (e:Ending) (w':World):Prop:=∃A c B d,e= .returned (.tuple #[.agg #[.bool true,.slice A 1 c],.agg #[.bool false,.slice B 1 d],.int .i64 0])∧aA w' A [4]∧aA w' B [1]∧Below W.heap.size W w'
end Go.Proofs.YtmnmebdmpigddaaGreatDoor

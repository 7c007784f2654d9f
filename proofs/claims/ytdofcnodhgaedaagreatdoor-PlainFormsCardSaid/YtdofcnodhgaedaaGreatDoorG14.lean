/- Texts of this claim. -/
import Derived.Test.YtdofcnodhgaedaaGreatDoorG13
import Derived.Lib.SlBytesConst
set_option maxRecDepth 100000
namespace Go.Proofs.YtdofcnodhgaedaaGreatDoor
open Go.RowKit Proofs.Tryz
theorem Nq {b x:Nat} (hb:2≤b) (h0:x≠0) (h:x<b):aI b x= [x]:=by
 rw[ga hb h0,Nat.mod_eq_of_lt h,Nat.div_eq_of_lt h,znx]
theorem IC {i:Int} (h0:i≠0) (h:i.natAbs<1000000000000000000):limbs i= [i.natAbs]:=by
 rw[yo,Nq yq om (by unfold au;exact h)]
def az4 (W:World) (n:Bool) (xs:List Nat) (e:Ending) (w':World):Prop:=∃A c,e= .returned (.agg #[.bool n,.slice A xs.length c])∧ay w' A xs∧Below W.heap.size W w'
def an6 (W:World) (e:Ending) (w':World):Prop:=∃A c B d,e= .returned (.tuple #[.agg #[.bool true,.slice A 1 c],.agg #[.bool false,.slice B 1 d],.int .i64 0])∧ay w' A [4]∧ay w' B [1]∧Below W.heap.size W w'
end Go.Proofs.YtdofcnodhgaedaaGreatDoor

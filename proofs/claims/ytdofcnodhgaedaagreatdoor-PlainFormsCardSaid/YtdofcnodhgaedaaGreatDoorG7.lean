/- Texts of this claim. -/
import Derived.Test.YtdofcnodhgaedaaGreatDoorG6
import Derived.ArgAppend
import Derived.Deep.Upon
namespace Go.Proofs.YtdofcnodhgaedaaGreatDoor
open Go.RowKit
section
variable {P:Program} {N:Nat} {ops:Array Oper} {Q:Exit→Act→World→Prop} {σ:Env} {w:World} {ty:TypeId} {pos:String} {af:Array Edge} {dst:Option Nat} {Post:Value→World→Prop}
end
theorem yfx {w:World} {g:Nat} {t:TypeId} {cs:Array Value} {B n size:Nat} (h:aA w g t cs) (hB:g<B) (hn:cs.size=n*size):Reads w B size (some ⟨g,0,none⟩) n cs.toList:=by
 refine ⟨by simp[hn],fun _=>⟨_,rfl,hB,fun j u hj=>?_⟩⟩;have h1:=h.cell j;rw[Lib.add_plain];simpa [h1] using hj
end Go.Proofs.YtdofcnodhgaedaaGreatDoor

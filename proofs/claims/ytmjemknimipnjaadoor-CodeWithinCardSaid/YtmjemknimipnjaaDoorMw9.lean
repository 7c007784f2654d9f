/- Texts of this claim. -/
import Derived.Test.YtmjemknimipnjaaDoorMw8
import Derived.ArgAppend
import Derived.Deep.Upon
namespace Go.Proofs.YtmjemknimipnjaaDoor
open Go.RowKit
section
variable {P : Program} {N : Nat} {ops : Array Oper} {Q : Exit → Act → World → Prop} {σ : Env} {w : World} {ty : TypeId} {pos : String} {af : Array Edge} {dst : Option Nat} {Post : Value → World → Prop}
end
end Go.Proofs.YtmjemknimipnjaaDoor

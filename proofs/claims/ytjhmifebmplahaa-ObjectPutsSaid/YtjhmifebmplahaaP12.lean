/- Texts of this claim. -/
import Derived.Test.YtjhmifebmplahaaP11
import Derived.Lib.SlBytesConst
namespace Go.Proofs.Ytjhmifebmplahaa
open Go.RowKit
set_option maxRecDepth 100000
end Go.Proofs.Ytjhmifebmplahaa
namespace Go.Proofs.Ytjhmifebmplahaa
open Go.RowKit
def RetN (W : World) (n : Bool) (xs : List Nat) (e : Ending) (w' : World) : Prop := ∃ A c, e = .returned (.agg #[.bool n, .slice A xs.length c]) ∧ Nums w' A xs ∧ Below W.heap.size W w'
def RetTwoN (W : World) (e : Ending) (w' : World) : Prop := ∃ A c B d, e = .returned (.tuple #[.agg #[.bool true, .slice A 1 c], .agg #[.bool false, .slice B 1 d], .int .i64 0]) ∧ Nums w' A [4] ∧ Nums w' B [1] ∧ Below W.heap.size W w'
theorem good_4 (A : Option Addr) (c : Nat) (w : World) (hx : Nums w A [4]) : Calls Try.prog 51 #[.agg #[.bool true, .slice A 1 c]] w fun e w' => e = .returned (.bool true) ∧ Below w.heap.size w w' := by
 have h := kd true c w A [4] (by decide) hx;rwa [show vw true [4] = true from by simp [vw, nth, xy]] at h
set_option maxRecDepth 100000
end Go.Proofs.Ytjhmifebmplahaa

/- Words for the laws' own walks: what stands since a world; contracts in the laws' wording. -/
import Derived.Test.YteggjfmcpodepaaDoorWKnown
import Derived.Test.YteggjfmcpodepaaDoorRTo
import Derived.Test.YteggjfmcpodepaaDoorRGood
import Derived.Test.YteggjfmcpodepaaDoorRSame
import Derived.Test.YteggjfmcpodepaaDoorSince
import Derived.Deep.RegionWith
namespace Go.Proofs.YteggjfmcpodepaaDoor
open Go.RowKit

theorem same_self (n1 : Bool) (xs : List Nat) : sameB n1 xs n1 xs = true := by unfold sameB; simp
theorem rsame_self (A B : Option Addr) (c d : Nat) (n : Bool) (xs : List Nat) (w : World) (hx : Nums w A xs) (hy : Nums w B xs) (hl : xs.length ≤ 1048576) :
    Calls Tryd.prog 21 #[.agg #[.bool n, .slice A xs.length c], .agg #[.bool n, .slice B xs.length d]] w fun e w' => e = .returned (.bool true) ∧ Below w.heap.size w w' := by
  have h := rsame_any A B c d xs xs w n n hx hy hl hl
  rwa [same_self] at h
theorem limbs_length {i : Int} (h : i.natAbs < B18 ^ 30) : (limbs i).length ≤ 30 := by
  rw [limbs_eq]; exact (digs_length_le B18_two _ _).2 h
theorem tens_len_of {i : Int} {k : Nat} (h : i.natAbs < B18 ^ k) : (tens i).length ≤ 18 * k := by
  rw [tens_eq]; exact (digs_length_le (by decide) _ _).2 (by rw [← B18_pow]; exact h)
theorem tens_length {i : Int} (h : i.natAbs < B18 ^ 30) : (tens i).length ≤ 540 := tens_len_of h
end Go.Proofs.YteggjfmcpodepaaDoor

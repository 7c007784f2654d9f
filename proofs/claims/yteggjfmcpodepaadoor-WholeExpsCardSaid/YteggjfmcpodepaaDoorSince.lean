/- Words for what stands since a world. -/
import Derived.Test.YteggjfmcpodepaaDoorByteWords
namespace Go.Proofs.YteggjfmcpodepaaDoor
open Go.RowKit
theorem below_on {a b w' : World} (h : Below a.heap.size a b) (k : Below b.heap.size b w') : Below a.heap.size a w' := h.trans (k.mono h.size)
theorem below_undrew {a w' : World} (k : Below a.drew.heap.size a.drew w') : Below a.heap.size a w' := ⟨k.os, k.tape, k.output, k.size, k.block⟩
theorem Nums.since {a b : World} {A : Option Addr} {xs : List Nat} (h : Nums a A xs) (k : Below a.heap.size a b) : Nums b A xs := h.below k (Nat.le_refl _)
theorem Nums8.since {a b : World} {A : Option Addr} {xs : List Nat} (h : Nums8 a A xs) (k : Below a.heap.size a b) : Nums8 b A xs := h.below k (Nat.le_refl _)
end Go.Proofs.YteggjfmcpodepaaDoor

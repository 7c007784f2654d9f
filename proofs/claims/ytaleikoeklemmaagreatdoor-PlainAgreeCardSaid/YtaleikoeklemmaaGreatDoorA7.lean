/- Texts of this claim. -/
import Derived.Test.YtaleikoeklemmaaGreatDoorA6
import Derived.Laws.IdiomStrings
import Derived.Lib.ItoaMem
namespace Go.Proofs.YtaleikoeklemmaaGreatDoor
open Go.RowKit
theorem Per.turn {X Y : Nat → Prop} {w w' : World} {F : World → Prop} (h : Per X w F) (e : Ext X w w') (hy : ∀ k, Y k → X k ∨ w.heap.size ≤ k) : Per Y w' F := fun _ hb => h _ (e.step hb hy)
theorem Apart.turn {r r' s : Option Nat} {n : Nat} (d : Apart r s) (kn : ∀ k, r' = some k → r = some k ∨ n ≤ k) (hs : ∀ k, s = some k → k < n) : Apart r' s := fun k e f => (kn k e).elim (fun e' => d k e' f) (fun h => by have := hs k f; omega)
theorem Apart.ge {r s : Option Nat} {n : Nat} (kn : ∀ k, r = some k → n ≤ k) (hs : ∀ k, s = some k → k < n) : Apart r s := fun k e f => by have h1 := kn k e; have h2 := hs k f; omega
theorem owns_shape {w : World} {base n size : Nat} {e : TypeId} {v : Value} {xs : List Value} (h : w.ownsRow base e size v n xs) : ∃ A c, v = .slice A n c := by
 rcases h.2 with ⟨rfl, rfl⟩ | ⟨g, cap, cur, rfl, _⟩
 · exact ⟨none, 0, rfl⟩
 · exact ⟨_, _, rfl⟩
theorem owns_nil {w : World} {base size : Nat} {e : TypeId} : w.ownsRow base e size (.slice none 0 0) 0 [] := ⟨by simp, Or.inl ⟨rfl, rfl⟩⟩
theorem owns_base {w : World} {base base' n size : Nat} {e : TypeId} {v : Value} {xs : List Value} (h : w.ownsRow base e size v n xs) (hb : base' ≤ base) : w.ownsRow base' e size v n xs := by
 refine ⟨h.1, h.2.imp id ?_⟩;rintro ⟨g, cap, cur, hv, hg, r⟩;exact ⟨g, cap, cur, hv, by omega, r⟩
section
variable {P : Program} {N : Nat} {ops : Array Oper} {Q : Exit → Act → World → Prop} {σ : Env} {w : World} {ty : TypeId} {pos : String} {af : Array Edge} {dst : Option Nat} {Post : Value → World → Prop}
end
end Go.Proofs.YtaleikoeklemmaaGreatDoor

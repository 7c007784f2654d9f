/- Words for the laws' walks: what stands in every later world. -/
import Derived.Test.YteggjfmcpodepaaDoorLawFns
namespace Go.Proofs.YteggjfmcpodepaaDoor
open Go.RowKit
/-- What stands in every later world. -/
def Pers (W : World) (F : World → Prop) : Prop := ∀ b, Below W.heap.size W b → F b
theorem Pers.here {W : World} {F : World → Prop} (h : Pers W F) : F W := h W (Below.refl _ _)
theorem Pers.on {W W' : World} {F : World → Prop} (h : Pers W F) (L : Below W.heap.size W W') : Pers W' F := fun b hb => h b (below_on L hb)
theorem Pers.and {W : World} {F G : World → Prop} (h : Pers W F) (k : Pers W G) : Pers W (fun b => F b ∧ G b) := fun b hb => ⟨h b hb, k b hb⟩
/-- A box that holds a number. -/
def Box (g : Nat) (t : TypeId) (u v : Value) (b : World) : Prop := b.cell? ⟨g, 0, none⟩ = some u ∧ b.cell? ⟨g, 1, none⟩ = some v
theorem Pers.box {W : World} {g : Nat} {t : TypeId} {u v : Value} (h : Blk W g t #[u, v]) : Pers W (Box g t u v) := fun _ hb => ⟨(h.below hb h.lt).two.1, (h.below hb h.lt).two.2.1⟩
theorem Pers.nums {W : World} {A : Option Addr} {xs : List Nat} (h : Nums W A xs) : Pers W (fun b => Nums b A xs) := fun _ hb => h.since hb
theorem Pers.nums8 {W : World} {A : Option Addr} {xs : List Nat} (h : Nums8 W A xs) : Pers W (fun b => Nums8 b A xs) := fun _ hb => h.since hb

/-- What a call leaves that answers nought. -/
def RetNought (W : World) (f : Int) (e : Ending) (w' : World) : Prop := ∃ A c, e = .returned (.tuple #[.agg #[.bool false, .slice A 0 c], .int .i64 f]) ∧ Nums w' A [] ∧ Below W.heap.size W w'
theorem retBigErr_nought {W w' : World} {f : Int} {e : Ending} (h : RetBigErr W 0 f e w') : RetNought W f e w' := by
  obtain ⟨A, c, rfl, ho, hb⟩ := h
  rw [limbs_zero] at ho ⊢
  exact ⟨A, c, rfl, ho.nums, hb⟩
def RetNought1 (W : World) (e : Ending) (w' : World) : Prop := ∃ A c, e = .returned (.agg #[.bool false, .slice A 0 c]) ∧ Nums w' A [] ∧ Below W.heap.size W w'
theorem retBig_nought {W w' : World} {e : Ending} (h : RetBig W 0 e w') : RetNought1 W e w' := by
  obtain ⟨A, c, rfl, ho, hb⟩ := h
  rw [limbs_zero] at ho ⊢
  exact ⟨A, c, rfl, ho.nums, hb⟩
/-- What a law's call leaves. -/
def LawTrue (W : World) (e : Ending) (w' : World) : Prop := e = .returned (.bool true) ∧ Below W.heap.size W w'
end Go.Proofs.YteggjfmcpodepaaDoor

/- Texts of this claim. -/
import Derived.Test.YtmjbnhjgebjhlaaDoorK13
import Derived.Deep.RegionWith
namespace Go.Proofs.YtmjbnhjgebjhlaaDoor
open Go.RowKit
end Go.Proofs.YtmjbnhjgebjhlaaDoor
namespace Go.Proofs.YtmjbnhjgebjhlaaDoor
open Go.RowKit
def Two (w : World) (n1 n2 : Bool) (A B : Option Addr) (c d : Nat) (xs ys : List Nat) (b : World) : Prop :=
 (b.cell? ⟨w.heap.size, 0, none⟩ = some (.bool n1) ∧ b.cell? ⟨w.heap.size, 1, none⟩ = some (.slice A xs.length c) ∧
 b.cell? ⟨w.heap.size + 1, 0, none⟩ = some (.bool n2) ∧ b.cell? ⟨w.heap.size + 1, 1, none⟩ = some (.slice B ys.length d)) ∧ Nums b A xs ∧ Nums b B ys
def two (w : World) (n1 n2 : Bool) (A B : Option Addr) (c d : Nat) (xs ys : List Nat) : World :=
 (w.alloc (.cells #[.bool n1, .slice A xs.length c] 61)).alloc (.cells #[.bool n2, .slice B ys.length d] 61)
def formE (g1 g2 : Bool) : Int := if g1 && g2 then 0 else 3
set_option maxRecDepth 100000
end Go.Proofs.YtmjbnhjgebjhlaaDoor
namespace Go.Proofs.YtmjbnhjgebjhlaaDoor
open Go.RowKit
def Pers (W : World) (F : World → Prop) : Prop := ∀ b, Below W.heap.size W b → F b
theorem Pers.here {W : World} {F : World → Prop} (h : Pers W F) : F W := h W (Below.refl _ _)
theorem Pers.on {W W' : World} {F : World → Prop} (h : Pers W F) (L : Below W.heap.size W W') : Pers W' F := fun b hb => h b (below_on L hb)
theorem Pers.and {W : World} {F G : World → Prop} (h : Pers W F) (k : Pers W G) : Pers W (fun b => F b ∧ G b) := fun b hb => ⟨h b hb, k b hb⟩
def Box (g : Nat) (t : TypeId) (u v : Value) (b : World) : Prop := b.cell? ⟨g, 0, none⟩ = some u ∧ b.cell? ⟨g, 1, none⟩ = some v
theorem Pers.box {W : World} {g : Nat} {t : TypeId} {u v : Value} (h : Blk W g t #[u, v]) : Pers W (Box g t u v) := fun _ hb => ⟨(h.below hb h.lt).two.1, (h.below hb h.lt).two.2.1⟩
theorem Pers.nums {W : World} {A : Option Addr} {xs : List Nat} (h : Nums W A xs) : Pers W (fun b => Nums b A xs) := fun _ hb => h.since hb
def RetNought (W : World) (f : Int) (e : Ending) (w' : World) : Prop := ∃ A c, e = .returned (.tuple #[.agg #[.bool false, .slice A 0 c], .int .i64 f]) ∧ Nums w' A [] ∧ Below W.heap.size W w'
def RetNought1 (W : World) (e : Ending) (w' : World) : Prop := ∃ A c, e = .returned (.agg #[.bool false, .slice A 0 c]) ∧ Nums w' A [] ∧ Below W.heap.size W w'
def LawTrue (W : World) (e : Ending) (w' : World) : Prop := e = .returned (.bool true) ∧ Below W.heap.size W w'
end Go.Proofs.YtmjbnhjgebjhlaaDoor
namespace Go.Proofs.YtmjbnhjgebjhlaaDoor
open Go.RowKit
def RetTurn (W : World) (A : Option Addr) (c : Nat) (i : Int) (e : Ending) (w' : World) : Prop := e = .returned (.agg #[.bool (decide (-i < 0)), .slice A (tens i).length c]) ∧ Below W.heap.size W w'
set_option maxRecDepth 100000
def Three (w : World) (bi bj : Bool) (A B : Option Addr) (c d : Nat) (i j : Int) (b : World) : Prop :=
 (b.cell? ⟨w.heap.size, 0, none⟩ = some (.bool bi) ∧ b.cell? ⟨w.heap.size, 1, none⟩ = some (.slice A (tens i).length c)) ∧
 (b.cell? ⟨w.heap.size + 1, 0, none⟩ = some (.bool bj) ∧ b.cell? ⟨w.heap.size + 1, 1, none⟩ = some (.slice B (tens j).length d)) ∧
 (b.cell? ⟨w.heap.size + 1 + 1, 0, none⟩ = some (.bool false) ∧ b.cell? ⟨w.heap.size + 1 + 1, 1, none⟩ = some (.slice none 0 0) ∧ b.frozen? ⟨w.heap.size + 1 + 1, 0, none⟩ = false ∧ b.frozen? ⟨w.heap.size + 1 + 1, 1, none⟩ = false) ∧
 Nums8 b A (tens i) ∧ Nums8 b B (tens j)
section
variable (A B : Option Addr) (c d : Nat) (i j : Int) (w : World)
end
end Go.Proofs.YtmjbnhjgebjhlaaDoor

/- whole.Text at the numbers of one digit that the law's known asks. The walk of the law's known: the chapter's examples. Words for the laws' own walks: what stands since a world; contracts in the laws' wording. The walks of the laws' own small functions: form, fits, is. Words for the laws' walks: what stands in every later world. -/
import Derived.Test.YtljndllhmdpjlaaGreatDoorO14
import Derived.Lib.SlBytesConst
import Derived.Deep.RegionWith
namespace Go.Proofs.YtljndllhmdpjlaaGreatDoor
open Go.RowKit
set_option maxRecDepth 100000
end Go.Proofs.YtljndllhmdpjlaaGreatDoor
namespace Go.Proofs.YtljndllhmdpjlaaGreatDoor
open Go.RowKit

/-- What a call leaves that answers these limbs. -/
def RetN (W : World) (n : Bool) (xs : List Nat) (e : Ending) (w' : World) : Prop := ∃ A c, e = .returned (.agg #[.bool n, .slice A xs.length c]) ∧ Nums w' A xs ∧ Below W.heap.size W w'
/-- What the example's division leaves. -/
def RetTwoN (W : World) (e : Ending) (w' : World) : Prop := ∃ A c B d, e = .returned (.tuple #[.agg #[.bool true, .slice A 1 c], .agg #[.bool false, .slice B 1 d], .int .i64 0]) ∧ Nums w' A [4] ∧ Nums w' B [1] ∧ Below W.heap.size W w'
set_option maxRecDepth 100000
end Go.Proofs.YtljndllhmdpjlaaGreatDoor
namespace Go.Proofs.YtljndllhmdpjlaaGreatDoor
open Go.RowKit

end Go.Proofs.YtljndllhmdpjlaaGreatDoor
namespace Go.Proofs.YtljndllhmdpjlaaGreatDoor
open Go.RowKit

/-- Two words boxed: what stands in every later world. -/
def Two (w : World) (n1 n2 : Bool) (A B : Option Addr) (c d : Nat) (xs ys : List Nat) (b : World) : Prop :=
  (b.cell? ⟨w.heap.size, 0, none⟩ = some (.bool n1) ∧ b.cell? ⟨w.heap.size, 1, none⟩ = some (.slice A xs.length c) ∧
  b.cell? ⟨w.heap.size + 1, 0, none⟩ = some (.bool n2) ∧ b.cell? ⟨w.heap.size + 1, 1, none⟩ = some (.slice B ys.length d)) ∧ Nums b A xs ∧ Nums b B ys
def two (w : World) (n1 n2 : Bool) (A B : Option Addr) (c d : Nat) (xs ys : List Nat) : World :=
  (w.alloc (.cells #[.bool n1, .slice A xs.length c] 41)).alloc (.cells #[.bool n2, .slice B ys.length d] 41)
theorem two_below (w : World) (n1 n2 : Bool) (A B : Option Addr) (c d : Nat) (xs ys : List Nat) : Below w.heap.size w (two w n1 n2 A B c d xs ys) :=
  ((Below.refl _ _).alloc (Nat.le_refl _) _).alloc (by simp) _
theorem two_since {w b : World} {n1 n2 : Bool} {A B : Option Addr} {c d : Nat} {xs ys : List Nat} (hx : Nums w A xs) (hy : Nums w B ys) (hb : Below (two w n1 n2 A B c d xs ys).heap.size (two w n1 n2 A B c d xs ys) b) : Two w n1 n2 A B c d xs ys b := by
  have X : Blk (two w n1 n2 A B c d xs ys) w.heap.size 41 #[.bool n1, .slice A xs.length c] := (Blk.new _ _ _).alloc _
  have Y : Blk (two w n1 n2 A B c d xs ys) (w.heap.size + 1) 41 #[.bool n2, .slice B ys.length d] := Blk.new1 _ _ _ _
  have x := (X.below hb X.lt).two; have y := (Y.below hb Y.lt).two
  exact ⟨⟨x.1, x.2.1, y.1, y.2.1⟩, (hx.since (two_below w n1 n2 A B c d xs ys)).since hb, (hy.since (two_below w n1 n2 A B c d xs ys)).since hb⟩

/-- The number of the error that the laws expect of two numbers. -/
def formE (g1 g2 : Bool) : Int := if g1 && g2 then 0 else 3
set_option maxRecDepth 100000
/-- is, where the number is told: no error. -/
def isW (w : World) (b1 b2 : Bool) (A B : Option Addr) (c d n m : Nat) : World :=
  (w.alloc (.cells #[.bool b1, .slice A n c] 41)).alloc (.cells #[.bool b2, .slice B m d] 86)
end Go.Proofs.YtljndllhmdpjlaaGreatDoor
namespace Go.Proofs.YtljndllhmdpjlaaGreatDoor
open Go.RowKit
/-- What stands in every later world. -/
def Pers (W : World) (F : World → Prop) : Prop := ∀ b, Below W.heap.size W b → F b
theorem Pers.here {W : World} {F : World → Prop} (h : Pers W F) : F W := h W (Below.refl _ _)
theorem Pers.on {W W' : World} {F : World → Prop} (h : Pers W F) (L : Below W.heap.size W W') : Pers W' F := fun b hb => h b (below_on L hb)
theorem Pers.and {W : World} {F G : World → Prop} (h : Pers W F) (k : Pers W G) : Pers W (fun b => F b ∧ G b) := fun b hb => ⟨h b hb, k b hb⟩
/-- A box that holds a number. -/
def Box (g : Nat) (t : TypeId) (u v : Value) (b : World) : Prop := b.cell? ⟨g, 0, none⟩ = some u ∧ b.cell? ⟨g, 1, none⟩ = some v
theorem Pers.box {W : World} {g : Nat} {t : TypeId} {u v : Value} (h : Blk W g t #[u, v]) : Pers W (Box g t u v) := fun _ hb => ⟨(h.below hb h.lt).two.1, (h.below hb h.lt).two.2.1⟩
theorem Pers.nums {W : World} {A : Option Addr} {xs : List Nat} (h : Nums W A xs) : Pers W (fun b => Nums b A xs) := fun _ hb => h.since hb
/-- What a call leaves that answers nought. -/
def RetNought (W : World) (f : Int) (e : Ending) (w' : World) : Prop := ∃ A c, e = .returned (.tuple #[.agg #[.bool false, .slice A 0 c], .int .i64 f]) ∧ Nums w' A [] ∧ Below W.heap.size W w'
def RetNought1 (W : World) (e : Ending) (w' : World) : Prop := ∃ A c, e = .returned (.agg #[.bool false, .slice A 0 c]) ∧ Nums w' A [] ∧ Below W.heap.size W w'
/-- What a law's call leaves. -/
def LawTrue (W : World) (e : Ending) (w' : World) : Prop := e = .returned (.bool true) ∧ Below W.heap.size W w'
end Go.Proofs.YtljndllhmdpjlaaGreatDoor

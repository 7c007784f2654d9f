/- Texts of this claim. -/
import Derived.Test.YtmjemknimipnjaaGreatDoorMk11
import Derived.Laws.StructEq
namespace Go.Proofs.YtmjemknimipnjaaGreatDoor
open Go.RowKit
set_option maxRecDepth 100000
def PlainV (P : Program) (t : TypeId) (v : Value) : Prop := (∃ k k' n, P.underlying t = some (.int k') ∧ v = .int k n) ∨ (∃ s, P.underlying t = some .string ∧ v = .string s)
section
variable {P : Program} {w : World}
def PlainS (P : Program) (T : TypeId) (cs : Array Value) : Prop := P.underlying T = some (.struct (P.fieldsOf T)) ∧ P.stoodInHeld T = false ∧ P.eqGuardType P.depth T = false ∧ ∀ q ∈ (P.fieldsOf T).toList.map (fun f => (f.type, f.offset)), ∃ v, cs[q.2]? = some v ∧ PlainV P q.1 v
variable {N : Nat} {ops : Array Oper} {Q : Exit → Act → World → Prop} {σ : Env} {ty : TypeId} {pos : String} {af : Array Edge} {dst : Option Nat} {Post : Value → World → Prop}
end
/-! ### the structs of a function -/
end Go.Proofs.YtmjemknimipnjaaGreatDoor
namespace Go.Proofs.YtmjemknimipnjaaGreatDoor
open Go.RowKit
set_option maxRecDepth 100000
attribute [local irreducible] OW RS
theorem same_ints (w : World) (A A' : Option Addr) (c c' n n' : Nat) (xs : List Int) (h : IntsA n w A xs) (h' : IntsA n' w A' xs) : Calls Tryz.prog 13 #[.slice A xs.length c, .slice A' xs.length c'] w fun e w' => e = .returned (.bool true) ∧ Below w.heap.size w w' := by
 obtain ⟨w0, hw0⟩ : ∃ w0, w0 = w := ⟨_, rfl⟩;have hlen := h.len
 refine yn Tryz.func13 rfl Tryz.ntmps13 rfl (srx (anx rfl (zi (srx (mvx rfl (za rfl (qr Tryz.underlying44 rfl (mvx rfl (za rfl (qr Tryz.underlying44 rfl (za rfl (qw rfl rfl (rnx (zp 10 (.bool false) rfl ((by rw [bne_self_eq_false] : (.bool ((((xs.length : Nat)) : Int) != (((xs.length : Nat)) : Int)) : Value) = _)) (ye rfl (zn (ze (zi (srx (anx rfl (yc (qm (ι := Nat) (fun i => [(0, .slice A xs.length c), (1, .slice A' xs.length c'), (5, .int .i64 ((i : Nat) : Int))]) (fun i w' => i ≤ xs.length ∧ Ext No w0 w') (fun i => xs.length - i) 0 ⟨rfl, rfl, rfl, trivial⟩ (⟨Nat.zero_le _, by rw [hw0]; exact Ext.refl _ _⟩) ?_))))))))))))))))))))))
 rintro i w2 ⟨hi0, hEi⟩;refine zi (srx (mvx rfl (mvx rfl (za rfl (qr Tryz.underlying44 rfl (za rfl (yv rfl rfl (rnx (zt rfl (fun hi => ?_) (fun hi => ?_))))))))))
 ·
  have hi := of_decide_eq_true hi;have hil : i < xs.length := by omega
  obtain ⟨x, hx⟩ : ∃ x, xs[i]? = some x := ⟨_, List.getElem?_eq_getElem hil⟩;rw [hw0] at hEi;have hz := h.low (X := No) ⟨hEi, fun _ h => h.elim⟩;have hz' := h'.low (X := No) ⟨hEi, fun _ h => h.elim⟩;obtain ⟨g, o, hA, hg, hc⟩ := hz.cell hx;obtain ⟨g', o', hA', hg', hc'⟩ := hz'.cell hx;refine zn (ze (zi (yc (zi ?_))))
  refine vo (No) Mut.none_ [] [] (oi [Fx.of (.slice A xs.length c),
   Fx.of (.int .i64 ((i : Nat) : Int)),
   Fx.of (.pointer (some ⟨g, o + i, none⟩)),
   Fx.of (.int .i64 x),
   Fx.of (.slice A' xs.length c'),
   Fx.of (.int .i64 ((i : Nat) : Int)),
   Fx.of (.pointer (some ⟨g', o' + i, none⟩)),
   Fx.of (.int .i64 x),
   Fx.of (.bool false)]) mixed rfl trivial (fun _ h => by cases h) ?_ ?_
  · refine ⟨?_, ?_, ?_, ?_, ?_, ?_, ?_, ?_, ?_, trivial⟩
    · intro vs X wq K;exact zv rfl ⟨Below.refl _ _, Left.of rfl⟩
    · intro vs X wq K;exact zv rfl ⟨Below.refl _ _, Left.of rfl⟩
    · intro vs X wq K;obtain ⟨_, e0, k0⟩ := K.dep 0 rfl rfl rfl;refine zk 17 (.slice A xs.length c) rfl e0 ?_;obtain ⟨_, e1, k1⟩ := K.dep 1 rfl rfl rfl;refine zk 18 (.int .i64 ((i : Nat) : Int)) rfl e1 ?_;exact vu (j := i) Tryz.underlying44 sz3 (congrArg (fun z ↦ some (Value.slice z xs.length c)) hA) rfl rfl hil ⟨Below.refl _ _, Left.of rfl⟩
    · intro vs X wq K;have LE := K.1;obtain ⟨_, e2, k2⟩ := K.dep 2 rfl rfl rfl;refine zk 19 (.pointer (some ⟨g, o + i, none⟩)) rfl e2 ?_;exact yx Tryz.underlying3 rfl rfl (cell_z LE (fun h ↦ h) hc) ⟨Below.refl _ _, Left.of rfl⟩
    · intro vs X wq K;exact zv rfl ⟨Below.refl _ _, Left.of rfl⟩
    · intro vs X wq K;exact zv rfl ⟨Below.refl _ _, Left.of rfl⟩
    · intro vs X wq K;obtain ⟨_, e4, k4⟩ := K.dep 4 rfl rfl rfl;refine zk 21 (.slice A' xs.length c') rfl e4 ?_;obtain ⟨_, e5, k5⟩ := K.dep 5 rfl rfl rfl;refine zk 22 (.int .i64 ((i : Nat) : Int)) rfl e5 ?_;exact vu (j := i) Tryz.underlying44 sz3 (congrArg (fun z ↦ some (Value.slice z xs.length c')) hA') rfl rfl hil ⟨Below.refl _ _, Left.of rfl⟩
    · intro vs X wq K;have LE := K.1;obtain ⟨_, e6, k6⟩ := K.dep 6 rfl rfl rfl;refine zk 23 (.pointer (some ⟨g', o' + i, none⟩)) rfl e6 ?_;exact yx Tryz.underlying3 rfl rfl (cell_z LE (fun h ↦ h) hc') ⟨Below.refl _ _, Left.of rfl⟩
    · intro vs X wq K;obtain ⟨_, e3, k3⟩ := K.dep 3 rfl rfl rfl;refine zk 20 (.int .i64 x) rfl e3 ?_;obtain ⟨_, e7, k7⟩ := K.dep 7 rfl rfl rfl;refine zk 24 (.int .i64 x) rfl e7 ?_;exact qw rfl rfl ⟨Below.refl _ _, Left.of ((by rw [bne_self_eq_false] : (.bool (x != x) : Value) = _))⟩
  intro vs w3 LE AO AL AF AA;have hbd : Below (w2).heap.size (w2) w3 := (((Ext.refl No (w2)).drew).trans LE).toBelow;obtain ⟨_, e8, k8⟩ := AL.2.2.2.2.2.2.2.2.1;refine jj (τ := [(0, _), (1, _), (5, _), (25, .bool false)]) ⟨rfl, rfl, rfl, congrArg some e8, trivial⟩ ?_;clear AL AF AA AO
  refine ze (ye rfl (zn (zf (ze (zg (mvx rfl (za rfl (yp rfl rfl (zw (by omega)) (avx rfl (yd ?_))))))))));exact yr (i + 1) (by show xs.length - (i + 1) < xs.length - i; omega) ⟨rfl, rfl, rfl, trivial⟩ (⟨hil, by rw [hw0]; exact hEi.trans (Ext.of_below hbd No)⟩)
 ·
  refine yw (zl (zl (zy (ze (srx (anx rfl (zo (zm (rs := [.tmp 4]) (vs := [_]) rfl ⟨rfl, trivial⟩ ?_))))))));exact ⟨rfl, by rw [hw0] at hEi; exact hEi.toBelow⟩
end Go.Proofs.YtmjemknimipnjaaGreatDoor

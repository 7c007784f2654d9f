/- Texts of this claim. -/
import Derived.Test.YtmjemknimipnjaaDoorMw10
import Derived.Laws.StructEq
namespace Go.Proofs.YtmjemknimipnjaaDoor
open Go.RowKit
set_option maxRecDepth 100000
def PlainV (P : Program) (t : TypeId) (v : Value) : Prop := (∃ k k' n, P.underlying t = some (.int k') ∧ v = .int k n) ∨ (∃ s, P.underlying t = some .string ∧ v = .string s)
section
variable {P : Program} {w : World}
def PlainS (P : Program) (T : TypeId) (cs : Array Value) : Prop := P.underlying T = some (.struct (P.fieldsOf T)) ∧ P.stoodInHeld T = false ∧ P.eqGuardType P.depth T = false ∧ ∀ q ∈ (P.fieldsOf T).toList.map (fun f => (f.type, f.offset)), ∃ v, cs[q.2]? = some v ∧ PlainV P q.1 v
variable {N : Nat} {ops : Array Oper} {Q : Exit → Act → World → Prop} {σ : Env} {ty : TypeId} {pos : String} {af : Array Edge} {dst : Option Nat} {Post : Value → World → Prop}
end
/-! ### the structs of a function -/
end Go.Proofs.YtmjemknimipnjaaDoor
namespace Go.Proofs.YtmjemknimipnjaaDoor
open Go.RowKit
set_option maxRecDepth 100000
attribute [local irreducible] OW RS
theorem same_ints (w : World) (A A' : Option Addr) (c c' n n' : Nat) (xs : List Int) (h : IntsA n w A xs) (h' : IntsA n' w A' xs) : Calls Tryd.prog 12 #[.slice A xs.length c, .slice A' xs.length c'] w fun e w' => e = .returned (.bool true) ∧ Below w.heap.size w w' := by
 obtain ⟨w0, hw0⟩ : ∃ w0, w0 = w := ⟨_, rfl⟩;have hlen := h.len
 refine yk Tryd.func12 rfl Tryd.ntmps12 rfl (srx (anx rfl (zf (srx (mvx rfl (za rfl (vk Tryd.underlying38 rfl (mvx rfl (za rfl (vk Tryd.underlying38 rfl (za rfl (qm rfl rfl (rnx (zu 10 (.bool false) rfl ((by rw [bne_self_eq_false] : (.bool ((((xs.length : Nat)) : Int) != (((xs.length : Nat)) : Int)) : Value) = _)) (zy rfl (zj (ze (zf (srx (anx rfl (zx (qk (ι := Nat) (fun i => [(0, .slice A xs.length c), (1, .slice A' xs.length c'), (5, .int .i64 ((i : Nat) : Int))]) (fun i w' => i ≤ xs.length ∧ Ext No w0 w') (fun i => xs.length - i) 0 ⟨rfl, rfl, rfl, trivial⟩ (⟨Nat.zero_le _, by rw [hw0]; exact Ext.refl _ _⟩) ?_))))))))))))))))))))))
 rintro i w2 ⟨hi0, hEi⟩;refine zf (srx (mvx rfl (mvx rfl (za rfl (vk Tryd.underlying38 rfl (za rfl (yt rfl rfl (rnx (zt rfl (fun hi => ?_) (fun hi => ?_))))))))))
 ·
  have hi := of_decide_eq_true hi;have hil : i < xs.length := by omega
  obtain ⟨x, hx⟩ : ∃ x, xs[i]? = some x := ⟨_, List.getElem?_eq_getElem hil⟩;rw [hw0] at hEi;have hz := h.low (X := No) ⟨hEi, fun _ h => h.elim⟩;have hz' := h'.low (X := No) ⟨hEi, fun _ h => h.elim⟩;obtain ⟨g, o, hA, hg, hc⟩ := hz.cell hx;obtain ⟨g', o', hA', hg', hc'⟩ := hz'.cell hx;refine zj (ze (zf (zx (zf ?_))))
  refine vj (No) Mut.none_ [] [] (xx [Fx.of (.slice A xs.length c),
   Fx.of (.int .i64 ((i : Nat) : Int)),
   Fx.of (.pointer (some ⟨g, o + i, none⟩)),
   Fx.of (.int .i64 x),
   Fx.of (.slice A' xs.length c'),
   Fx.of (.int .i64 ((i : Nat) : Int)),
   Fx.of (.pointer (some ⟨g', o' + i, none⟩)),
   Fx.of (.int .i64 x),
   Fx.of (.bool false)]) mixed rfl trivial (fun _ h => by cases h) ?_ ?_
  · refine ⟨?_, ?_, ?_, ?_, ?_, ?_, ?_, ?_, ?_, trivial⟩
    · intro vs X wq K;exact zo rfl ⟨Below.refl _ _, Left.of rfl⟩
    · intro vs X wq K;exact zo rfl ⟨Below.refl _ _, Left.of rfl⟩
    · intro vs X wq K;obtain ⟨_, e0, k0⟩ := K.dep 0 rfl rfl rfl;refine zg 17 (.slice A xs.length c) rfl e0 ?_;obtain ⟨_, e1, k1⟩ := K.dep 1 rfl rfl rfl;refine zg 18 (.int .i64 ((i : Nat) : Int)) rfl e1 ?_;exact ja (j := i) Tryd.underlying38 sz3 (congrArg (fun z ↦ some (Value.slice z xs.length c)) hA) rfl rfl hil ⟨Below.refl _ _, Left.of rfl⟩
    · intro vs X wq K;have LE := K.1;obtain ⟨_, e2, k2⟩ := K.dep 2 rfl rfl rfl;refine zg 19 (.pointer (some ⟨g, o + i, none⟩)) rfl e2 ?_;exact ym Tryd.underlying3 rfl rfl (cell_z LE (fun h ↦ h) hc) ⟨Below.refl _ _, Left.of rfl⟩
    · intro vs X wq K;exact zo rfl ⟨Below.refl _ _, Left.of rfl⟩
    · intro vs X wq K;exact zo rfl ⟨Below.refl _ _, Left.of rfl⟩
    · intro vs X wq K;obtain ⟨_, e4, k4⟩ := K.dep 4 rfl rfl rfl;refine zg 21 (.slice A' xs.length c') rfl e4 ?_;obtain ⟨_, e5, k5⟩ := K.dep 5 rfl rfl rfl;refine zg 22 (.int .i64 ((i : Nat) : Int)) rfl e5 ?_;exact ja (j := i) Tryd.underlying38 sz3 (congrArg (fun z ↦ some (Value.slice z xs.length c')) hA') rfl rfl hil ⟨Below.refl _ _, Left.of rfl⟩
    · intro vs X wq K;have LE := K.1;obtain ⟨_, e6, k6⟩ := K.dep 6 rfl rfl rfl;refine zg 23 (.pointer (some ⟨g', o' + i, none⟩)) rfl e6 ?_;exact ym Tryd.underlying3 rfl rfl (cell_z LE (fun h ↦ h) hc') ⟨Below.refl _ _, Left.of rfl⟩
    · intro vs X wq K;obtain ⟨_, e3, k3⟩ := K.dep 3 rfl rfl rfl;refine zg 20 (.int .i64 x) rfl e3 ?_;obtain ⟨_, e7, k7⟩ := K.dep 7 rfl rfl rfl;refine zg 24 (.int .i64 x) rfl e7 ?_;exact qm rfl rfl ⟨Below.refl _ _, Left.of ((by rw [bne_self_eq_false] : (.bool (x != x) : Value) = _))⟩
  intro vs w3 LE AO AL AF AA;have hbd : Below (w2).heap.size (w2) w3 := (((Ext.refl No (w2)).drew).trans LE).toBelow;obtain ⟨_, e8, k8⟩ := AL.2.2.2.2.2.2.2.2.1;refine jg (τ := [(0, _), (1, _), (5, _), (25, .bool false)]) ⟨rfl, rfl, rfl, congrArg some e8, trivial⟩ ?_;clear AL AF AA AO
  refine ze (zy rfl (zj (zm (ze (zi (mvx rfl (za rfl (yg rfl rfl (zp (by omega)) (avx rfl (yf ?_))))))))));exact yl (i + 1) (by show xs.length - (i + 1) < xs.length - i; omega) ⟨rfl, rfl, rfl, trivial⟩ (⟨hil, by rw [hw0]; exact hEi.trans (Ext.of_below hbd No)⟩)
 ·
  refine yn (zh (zh (zv (ze (srx (anx rfl (zr (zq (rs := [.tmp 4]) (vs := [_]) rfl ⟨rfl, trivial⟩ ?_))))))));exact ⟨rfl, by rw [hw0] at hEi; exact hEi.toBelow⟩
end Go.Proofs.YtmjemknimipnjaaDoor

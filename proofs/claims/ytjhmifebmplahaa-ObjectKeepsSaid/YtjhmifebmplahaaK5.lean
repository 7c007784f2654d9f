/- Texts of this claim. -/
import Derived.Test.YtjhmifebmplahaaK4
import Derived.Laws.Externs
import Derived.Laws.FloatArith
namespace Go.Proofs.Ytjhmifebmplahaa
open Go.RowKit
def Ext_ (P : Program) (f : FuncId) (e : Array Value → Sem Value) : Prop := ∃ fn, P.funcs[f]? = some fn ∧ (fn.name == "runtime.NumGoroutine") = false ∧ fn.body.isNone = true ∧ Extern.findNext fn = none ∧ Extern.find fn = some e
def isNan64 (r : Nat) : Prop := ∃ s t, s < 2 ∧ t < 4503599627370495 ∧ r = s * 9223372036854775808 + 9218868437227405312 + 1 + t
def FRes (z : Option Nat) (r : Nat) (w w' : World) : Prop := (z = some r ∧ w' = w) ∨ (z = none ∧ isNan64 r ∧ w' = w.drew)
theorem FRes.ext {z : Option Nat} {r : Nat} {w w' : World} (h : FRes z r w w') : Ext No w w' := by
 rcases h with ⟨_, rfl⟩ | ⟨_, _, rfl⟩
 · exact Ext.refl _ _
 · exact ⟨rfl, rfl, rfl, Nat.le_refl _, fun _ _ _ => rfl⟩
theorem isNan64.lt {r : Nat} (h : isNan64 r) : r < 18446744073709551616 := by obtain ⟨s, t, h1, h2, rfl⟩ := h; omega
section
variable {P : Program} {N : Nat} {ops : Array Oper} {Q : Exit → Act → World → Prop} {σ : Env} {w : World} {ty : TypeId} {pos : String} {af : Array Edge} {dst : Option Nat} {Post : Value → World → Prop}
def fop (op : BinOp) (a b : Nat) : Option Nat := match op with
 | .add => Ieee.double.add a b
 | .sub => Ieee.double.sub a b
 | .mul => Ieee.double.mul a b
 | .quo => Ieee.double.div a b
 | _ => none
def ford (a b : Nat) : Option Ordering := Ieee.double.order a b
end
end Go.Proofs.Ytjhmifebmplahaa
namespace Go.Proofs.Ytjhmifebmplahaa
open Ieee
set_option maxRecDepth 100000
def rg (b : Nat) : Nat := b % 9223372036854775808
def ng (b : Nat) : Bool := b / 9223372036854775808 % 2 == 1
def mg (r : Nat) : Nat := if r < 4503599627370496 then r else 4503599627370496 + r % 4503599627370496
def ex (r : Nat) : Nat := if r < 4503599627370496 then 0 else r / 4503599627370496 - 1
def vl (r : Nat) : Nat := mg r * 2 ^ ex r
theorem c1 : double.signWeight = 9223372036854775808 := by decide +kernel
theorem c2 : double.binade = 4503599627370496 := by decide +kernel
theorem c3 : double.infRung = 9218868437227405312 := by decide +kernel
theorem c4 : double.leastPlace = -1074 := by decide +kernel
theorem read_num {b : Nat} (h : rg b < 9218868437227405312) : double.read b = .number (ng b) (mg (rg b)) (-1074 + (ex (rg b) : Int)) := by
 unfold Format.read;simp only [c1, c2, c3, c4]
 show (if rg b < 4503599627370496 then _ else if rg b < 9218868437227405312 then _ else _) = _
 by_cases h1 : rg b < 4503599627370496
 · rw [if_pos h1, mg, ex, if_pos h1, if_pos h1]; rfl
 · rw [if_neg h1, if_pos h, mg, ex, if_neg h1, if_neg h1]; rfl
theorem read_inf {b : Nat} (h : rg b = 9218868437227405312) : double.read b = .infinity (ng b) := by
 unfold Format.read;simp only [c1, c2, c3, c4]
 show (if rg b < 4503599627370496 then _ else if rg b < 9218868437227405312 then _ else if rg b = 9218868437227405312 then _ else _) = _
 rw [if_neg (by rw [h]; decide), if_neg (by rw [h]; decide), if_pos h]; rfl
def isN (b : Nat) : Bool := decide (9218868437227405312 < rg b)
def pc (b : Nat) : Int := if ng b then -(rg b : Int) else (rg b : Int)
def sv (b : Nat) : Int := if ng b then -(vl (rg b) : Int) else (vl (rg b) : Int)
def cmp3 (x y : Int) : Ordering := if x < y then .lt else if x = y then .eq else .gt
/-! ### sums and products -/
def fnegate (b : Nat) : Nat := b ^^^ 9223372036854775808
theorem sub_self {a : Nat} (hn : isN a = false) : fop .sub a a = if rg a = 9218868437227405312 then none else some 0 := by
 have hn' : ¬ 9218868437227405312 < rg a := of_decide_eq_false hn;by_cases h3 : rg a < 9218868437227405312
 · rw [if_neg (by omega)];simp only [fop, Format.sub, read_num h3, Datum.opposite, Datum.sum]
   have e : signed (ng a) (mg (rg a)) ((-1074 + (ex (rg a) : Int)) - min (-1074 + (ex (rg a) : Int)) (-1074 + (ex (rg a) : Int))).toNat + signed (!ng a) (mg (rg a)) ((-1074 + (ex (rg a) : Int)) - min (-1074 + (ex (rg a) : Int)) (-1074 + (ex (rg a) : Int))).toNat = 0 := by
    unfold signed;cases ng a <;> simp
    all_goals omega
   rw [e];cases ng a <;> rfl
 · have h4 : rg a = 9218868437227405312 := by omega
   rw [if_pos h4];simp only [fop, Format.sub, read_inf h4, Datum.opposite, Datum.sum]
   cases ng a <;> rfl
end Go.Proofs.Ytjhmifebmplahaa

/- Rules for walks: functions that the model gives itself, floating-point numbers. -/
import Derived.Test.YteggjfmcpodepaaDoorK6
import Derived.Laws.Externs
import Derived.Laws.FloatArith
namespace Go.Proofs.YteggjfmcpodepaaDoor
open Go.RowKit
/-- A function that the model gives itself. -/
def Ext_ (P : Program) (f : FuncId) (e : Array Value → Sem Value) : Prop := ∃ fn, P.funcs[f]? = some fn ∧ (fn.name == "runtime.NumGoroutine") = false ∧ fn.body.isNone = true ∧ Extern.findNext fn = none ∧ Extern.find fn = some e
/-- What comes of an operation on floating-point numbers that may end in no number. -/
def isNan64 (r : Nat) : Prop := ∃ s t, s < 2 ∧ t < 4503599627370495 ∧ r = s * 9223372036854775808 + 9218868437227405312 + 1 + t
def FRes (z : Option Nat) (r : Nat) (w w' : World) : Prop := (z = some r ∧ w' = w) ∨ (z = none ∧ isNan64 r ∧ w' = w.drew)
theorem FRes.ext {z : Option Nat} {r : Nat} {w w' : World} (h : FRes z r w w') : Ext No w w' := by
  rcases h with ⟨_, rfl⟩ | ⟨_, _, rfl⟩
  · exact Ext.refl _ _
  · exact ⟨rfl, rfl, rfl, Nat.le_refl _, fun _ _ _ => rfl⟩
theorem isNan64.lt {r : Nat} (h : isNan64 r) : r < 18446744073709551616 := by obtain ⟨s, t, h1, h2, rfl⟩ := h; omega
section
variable {P : Program} {N : Nat} {ops : Array Oper} {Q : Exit → Act → World → Prop} {σ : Env} {w : World} {ty : TypeId} {pos : String} {af : Array Edge} {dst : Option Nat} {Post : Value → World → Prop}
theorem ow_ext {xs : List Operand} {ts : Array TypeId} {f : FuncId} {args : List Value} {e : Array Value → Sem Value} {v : Value} {w' : World} (hf : Ext_ P f e) (ha : evs σ xs = some args)
    (hr : (e args.toArray).run P w = .ok v w') (k : Post v w') : OW P N ops Q ⟨dst, .call ⟨.value (.func f), xs.toArray, ts⟩, ty, pos, af, none⟩ σ w Post := by
  intro a hat
  rw [if_pos (by simp [Region.wanted])]
  unfold Oper.wp
  have hargs : xs.toArray.map a.eval = args.toArray := by
    apply Array.toList_inj.1
    rw [Array.toList_map]
    exact evs_map hat ha
  obtain ⟨fn, h1, h2, h3, h4, h5⟩ := hf
  have hc := run_callFunc_extern h1 h2 h3 h4 h5 args.toArray w
  rw [hr] at hc
  have hrun : (execOp a.eval ⟨dst, .call ⟨.value (.func f), xs.toArray, ts⟩, ty, pos, af, none⟩).run P w = .ok (.value v) w' := by
    simp only [execOp, resolve, hargs, Deferred.ofValue, Act.eval, invoke, Sem.run_bind, Sem.run_pure, Result.andThen_ok]
    rw [Array.empty_append]
    exact hc
  rw [hrun]
  exact ⟨v, rfl, k⟩
theorem ow_fneg {x : Operand} {T : TypeId} {m : Nat} (hx : ev σ x = some (.float .f64 m)) (k : Post (.float .f64 (m ^^^ 9223372036854775808)) w) : OW P N ops Q ⟨dst, .unOp .neg T x, ty, pos, af, none⟩ σ w Post :=
  ow_val (fun ρ ha => by simp [execOp, ha hx, Op.unary, Op.negFloat, go_sem]; rfl) k
def fop (op : BinOp) (a b : Nat) : Option Nat := match op with
  | .add => Ieee.double.add a b
  | .sub => Ieee.double.sub a b
  | .mul => Ieee.double.mul a b
  | .quo => Ieee.double.div a b
  | _ => none
theorem nan_cut (x y t : Nat) : isNan64 (Question.cut (.nanBits .f64 x y) t) := ⟨t % 2, (t / 2) % 4503599627370495, Nat.mod_lt _ (by decide), Nat.mod_lt _ (by decide), rfl⟩
theorem ow_float {op : BinOp} {T U : TypeId} {x y : Operand} {m n : Nat} (ho : op = .add ∨ op = .sub ∨ op = .mul ∨ op = .quo) (hx : ev σ x = some (.float .f64 m)) (hy : ev σ y = some (.float .f64 n))
    (k : ∀ r w', FRes (fop op m n) r w w' → Post (.float .f64 r) w') : OW P N ops Q ⟨dst, .binOp op T x y U, ty, pos, af, none⟩ σ w Post := by
  have key : ∃ r w', FRes (fop op m n) r w w' ∧ ∀ ρ : Operand → Value, (∀ {x v}, ev σ x = some v → ρ x = v) → (execOp ρ ⟨dst, .binOp op T x y U, ty, pos, af, none⟩).run P w = .ok (.value (.float .f64 r)) w' := by
    cases hz : fop op m n with
    | some r =>
      refine ⟨r, w, .inl ⟨rfl, rfl⟩, fun ρ ha => ?_⟩
      rcases ho with rfl | rfl | rfl | rfl <;> simp only [fop] at hz <;> simp [execOp, ha hx, ha hy, binOp, eqGuard, Op.floatArith, FloatKind.format, hz, go_sem]
    | none =>
      refine ⟨_, w.drew, .inr ⟨rfl, nan_cut m n (w.tape w.drawn (.nanBits .f64 m n)), rfl⟩, fun ρ ha => ?_⟩
      rcases ho with rfl | rfl | rfl | rfl <;> simp only [fop] at hz <;> simp [execOp, ha hx, ha hy, binOp, eqGuard, Op.floatArith, FloatKind.format, hz, choose, go_sem] <;> rfl
  obtain ⟨r, w', h1, h2⟩ := key
  exact ow_val h2 (k r w' h1)
/-- How two numbers stand. -/
def ford (a b : Nat) : Option Ordering := Ieee.double.order a b
theorem ow_feql {T U : TypeId} {x y : Operand} {m n : Nat} (hx : ev σ x = some (.float .f64 m)) (hy : ev σ y = some (.float .f64 n)) (k : Post (.bool (ford m n == some .eq)) w) : OW P N ops Q ⟨dst, .binOp .eql T x y U, ty, pos, af, none⟩ σ w Post :=
  ow_val (fun ρ ha => by simp [execOp, ha hx, ha hy, binOp, eqGuard, Op.floatCmp, FloatKind.format, ford, go_sem]) k
theorem ow_fneq {T U : TypeId} {x y : Operand} {m n : Nat} (hx : ev σ x = some (.float .f64 m)) (hy : ev σ y = some (.float .f64 n)) (k : Post (.bool (ford m n != some .eq)) w) : OW P N ops Q ⟨dst, .binOp .neq T x y U, ty, pos, af, none⟩ σ w Post :=
  ow_val (fun ρ ha => by simp [execOp, ha hx, ha hy, binOp, eqGuard, Op.floatCmp, FloatKind.format, ford, go_sem]) k
theorem ow_flss {T U : TypeId} {x y : Operand} {m n : Nat} (hx : ev σ x = some (.float .f64 m)) (hy : ev σ y = some (.float .f64 n)) (k : Post (.bool (ford m n == some .lt)) w) : OW P N ops Q ⟨dst, .binOp .lss T x y U, ty, pos, af, none⟩ σ w Post :=
  ow_val (fun ρ ha => by simp [execOp, ha hx, ha hy, binOp, eqGuard, Op.floatCmp, FloatKind.format, ford, go_sem]) k
theorem ow_fgtr {T U : TypeId} {x y : Operand} {m n : Nat} (hx : ev σ x = some (.float .f64 m)) (hy : ev σ y = some (.float .f64 n)) (k : Post (.bool (ford m n == some .gt)) w) : OW P N ops Q ⟨dst, .binOp .gtr T x y U, ty, pos, af, none⟩ σ w Post :=
  ow_val (fun ρ ha => by simp [execOp, ha hx, ha hy, binOp, eqGuard, Op.floatCmp, FloatKind.format, ford, go_sem]) k
/-- A slice of no elements with room for so many, each one cell. -/
theorem ow_make0 {T e : TypeId} {x y : Operand} {z : Value} {b n base : Nat} {k1 k2 : IntKind} {m2 : Int} (hd : P.underlying T = some (.slice e)) (hi : InfoIs P e z 1 b) (hz : z.cells = #[z]) (hx : ev σ x = some (.int k1 0)) (hy : ev σ y = some (.int k2 m2)) (e2 : m2 = (n : Int)) (hb : b * n ≤ 140737488355328) (hn : n ≤ 9223372036854775807)
    (hbase : base ≤ w.heap.size) (hm : n ≤ maxLen)
    (k : ∀ g w', World.ownsRow w' base e 1 (.slice (some ⟨g, 0, none⟩) 0 n) 0 [] → Ext No w w' → w.heap.size ≤ g → Post (.slice (some ⟨g, 0, none⟩) 0 n) w') : OW P N ops Q ⟨dst, .makeSlice T x y, ty, pos, af, none⟩ σ w Post :=
  ow_val (v := .slice (some ⟨w.heap.size, 0, none⟩) 0 n) (w' := w.alloc (.cells (madeCells #[z] n) e)) (fun ρ ha => by
    subst e2
    obtain ⟨i, hi1, hi2⟩ := Option.map_eq_some_iff.1 hi
    simp only [Prod.mk.injEq] at hi2
    obtain ⟨q1, q2, q3⟩ := hi2
    have hb' : (i.bytes : Int) * (n : Int) ≤ 281474976710656 := by
      have h : ((i.bytes * n : Nat) : Int) ≤ 281474976710656 := by rw [q3]; omega
      rwa [Int.natCast_mul] at h
    have h := run_make (P := P) w T e i z hd hi1 q1 k1 k2 0 n (by omega) (by omega) hb' (by omega)
    simp only [Int.toNat_natCast, q2, Nat.mul_one, hz] at h
    simp only [execOp, ha hx, ha hy, Sem.run_bind, Sem.run_pure]
    simp only [Int.toNat_zero] at h
    rw [h]
    rfl) (by
      refine k w.heap.size (w.alloc (.cells (madeCells #[z] n) e)) ⟨rfl, Or.inr ⟨w.heap.size, n, madeCells #[z] n, rfl, hbase, ?_, Nat.zero_le _, hm, ?_, ?_⟩⟩ ((Ext.refl _ _).alloc _) (Nat.le_refl _)
      · exact Blk.new w e (madeCells #[z] n)
      · simp [madeCells]
      · rw [Nat.zero_mul, List.take_zero])
end
end Go.Proofs.YteggjfmcpodepaaDoor

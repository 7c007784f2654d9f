/- Texts of this claim. -/
import Derived.Test.YtmjbnhjgebjhlaaDoorK7
import Derived.Laws.Externs
import Derived.Laws.FloatArith
namespace Go.Proofs.YtmjbnhjgebjhlaaDoor
open Go.RowKit
def Ext_ (P : Program) (f : FuncId) (e : Array Value → Sem Value) : Prop := ∃ fn, P.funcs[f]? = some fn ∧ (fn.name == "runtime.NumGoroutine") = false ∧ fn.body.isNone = true ∧ Extern.findNext fn = none ∧ Extern.find fn = some e
def isNan64 (r : Nat) : Prop := ∃ s t, s < 2 ∧ t < 4503599627370495 ∧ r = s * 9223372036854775808 + 9218868437227405312 + 1 + t
def FRes (z : Option Nat) (r : Nat) (w w' : World) : Prop := (z = some r ∧ w' = w) ∨ (z = none ∧ isNan64 r ∧ w' = w.drew)
theorem FRes.ext {z : Option Nat} {r : Nat} {w w' : World} (h : FRes z r w w') : Ext No w w' := by
 rcases h with ⟨_, rfl⟩ | ⟨_, _, rfl⟩
 · exact Ext.refl _ _
 · exact ⟨rfl, rfl, rfl, Nat.le_refl _, fun _ _ _ => rfl⟩
theorem isNan64.lt {r : Nat} (h : isNan64 r) : r < 18446744073709551616 := by obtain ⟨s, t, h1, h2, rfl⟩ := h; omega
section
variable {P : Program} {N : Nat} {ops : Array Oper} {Q : Exit → Act → World → Prop} {σ : Env} {w : World} {ty : TypeId} {pos : String} {af : Array Edge} {dst : Option Nat} {Post : Value → World → Prop}
theorem ow_ext {xs : List Operand} {ts : Array TypeId} {f : FuncId} {args : List Value} {e : Array Value → Sem Value} {v : Value} {w' : World} (hf : Ext_ P f e) (ha : evs σ xs = some args)
 (hr : (e args.toArray).run P w = .ok v w') (k : Post v w') : OW P N ops Q ⟨dst, .call ⟨.value (.func f), xs.toArray, ts⟩, ty, pos, af, none⟩ σ w Post := by
 intro a hat;rw [if_pos (by simp [Region.wanted])];unfold Oper.wp;have hargs : xs.toArray.map a.eval = args.toArray := by
  apply Array.toList_inj.1
  rw [Array.toList_map];exact evs_map hat ha
 obtain ⟨fn, h1, h2, h3, h4, h5⟩ := hf;have hc := run_callFunc_extern h1 h2 h3 h4 h5 args.toArray w;rw [hr] at hc;have hrun : (execOp a.eval ⟨dst, .call ⟨.value (.func f), xs.toArray, ts⟩, ty, pos, af, none⟩).run P w = .ok (.value v) w' := by
  simp only [execOp, resolve, hargs, Deferred.ofValue, Act.eval, invoke, Sem.run_bind, Sem.run_pure, Result.andThen_ok]
  rw [Array.empty_append];exact hc
 rw [hrun];exact ⟨v, rfl, k⟩
theorem ow_fneg {x : Operand} {T : TypeId} {m : Nat} (hx : ev σ x = some (.float .f64 m)) (k : Post (.float .f64 (m ^^^ 9223372036854775808)) w) : OW P N ops Q ⟨dst, .unOp .neg T x, ty, pos, af, none⟩ σ w Post :=
 qb (fun ρ ha => by simp [execOp, ha hx, Op.unary, Op.negFloat, go_sem]; rfl) k
def fop (op : BinOp) (a b : Nat) : Option Nat := match op with
 | .add => Ieee.double.add a b
 | .sub => Ieee.double.sub a b
 | .mul => Ieee.double.mul a b
 | .quo => Ieee.double.div a b
 | _ => none
theorem nan_cut (x y t : Nat) : isNan64 (Question.cut (.nanBits .f64 x y) t) := ⟨t % 2, (t / 2) % 4503599627370495, Nat.mod_lt _ (by decide), Nat.mod_lt _ (by decide), rfl⟩
theorem ow_float {op : BinOp} {T U : TypeId} {x y : Operand} {m n : Nat} (ho : op = .add ∨ op = .sub ∨ op = .mul ∨ op = .quo) (hx : ev σ x = some (.float .f64 m)) (hy : ev σ y = some (.float .f64 n))
 (k : ∀ r w', FRes (fop op m n) r w w' → Post (.float .f64 r) w') : OW P N ops Q ⟨dst, .binOp op T x y U, ty, pos, af, none⟩ σ w Post := by
 have key : ∃ r w', FRes (fop op m n) r w w' ∧ ∀ ρ : Operand → Value, (∀ {x v}, ev σ x = some v → ρ x = v) → (execOp ρ ⟨dst, .binOp op T x y U, ty, pos, af, none⟩).run P w = .ok (.value (.float .f64 r)) w' := by
  cases hz : fop op m n with
  | some r =>
   refine ⟨r, w, .inl ⟨rfl, rfl⟩, fun ρ ha => ?_⟩;rcases ho with rfl | rfl | rfl | rfl <;> simp only [fop] at hz <;> simp [execOp, ha hx, ha hy, binOp, eqGuard, Op.floatArith, FloatKind.format, hz, go_sem]
  | none =>
   refine ⟨_, w.drew, .inr ⟨rfl, nan_cut m n (w.tape w.drawn (.nanBits .f64 m n)), rfl⟩, fun ρ ha => ?_⟩;rcases ho with rfl | rfl | rfl | rfl <;> simp only [fop] at hz <;> simp [execOp, ha hx, ha hy, binOp, eqGuard, Op.floatArith, FloatKind.format, hz, choose, go_sem] <;> rfl
 obtain ⟨r, w', h1, h2⟩ := key;exact qb h2 (k r w' h1)
def xu (a b : Nat) : Option Ordering := Ieee.double.order a b
theorem ow_feql {T U : TypeId} {x y : Operand} {m n : Nat} (hx : ev σ x = some (.float .f64 m)) (hy : ev σ y = some (.float .f64 n)) (k : Post (.bool (xu m n == some .eq)) w) : OW P N ops Q ⟨dst, .binOp .eql T x y U, ty, pos, af, none⟩ σ w Post :=
 qb (fun ρ ha => by simp [execOp, ha hx, ha hy, binOp, eqGuard, Op.floatCmp, FloatKind.format, xu, go_sem]) k
theorem ow_fneq {T U : TypeId} {x y : Operand} {m n : Nat} (hx : ev σ x = some (.float .f64 m)) (hy : ev σ y = some (.float .f64 n)) (k : Post (.bool (xu m n != some .eq)) w) : OW P N ops Q ⟨dst, .binOp .neq T x y U, ty, pos, af, none⟩ σ w Post :=
 qb (fun ρ ha => by simp [execOp, ha hx, ha hy, binOp, eqGuard, Op.floatCmp, FloatKind.format, xu, go_sem]) k
theorem ow_flss {T U : TypeId} {x y : Operand} {m n : Nat} (hx : ev σ x = some (.float .f64 m)) (hy : ev σ y = some (.float .f64 n)) (k : Post (.bool (xu m n == some .lt)) w) : OW P N ops Q ⟨dst, .binOp .lss T x y U, ty, pos, af, none⟩ σ w Post :=
 qb (fun ρ ha => by simp [execOp, ha hx, ha hy, binOp, eqGuard, Op.floatCmp, FloatKind.format, xu, go_sem]) k
theorem ow_fgtr {T U : TypeId} {x y : Operand} {m n : Nat} (hx : ev σ x = some (.float .f64 m)) (hy : ev σ y = some (.float .f64 n)) (k : Post (.bool (xu m n == some .gt)) w) : OW P N ops Q ⟨dst, .binOp .gtr T x y U, ty, pos, af, none⟩ σ w Post :=
 qb (fun ρ ha => by simp [execOp, ha hx, ha hy, binOp, eqGuard, Op.floatCmp, FloatKind.format, xu, go_sem]) k
theorem ow_make0 {T e : TypeId} {x y : Operand} {z : Value} {b n base : Nat} {k1 k2 : IntKind} {m2 : Int} (hd : P.underlying T = some (.slice e)) (hi : zmx P e z 1 b) (hz : z.cells = #[z]) (hx : ev σ x = some (.int k1 0)) (hy : ev σ y = some (.int k2 m2)) (e2 : m2 = (n : Int)) (hb : b * n ≤ 140737488355328) (hn : n ≤ 9223372036854775807)
 (hbase : base ≤ w.heap.size) (hm : n ≤ maxLen)
 (k : ∀ g w', World.ownsRow w' base e 1 (.slice (some ⟨g, 0, none⟩) 0 n) 0 [] → Ext No w w' → w.heap.size ≤ g → Post (.slice (some ⟨g, 0, none⟩) 0 n) w') : OW P N ops Q ⟨dst, .makeSlice T x y, ty, pos, af, none⟩ σ w Post :=
 qb (v := .slice (some ⟨w.heap.size, 0, none⟩) 0 n) (w' := w.alloc (.cells (madeCells #[z] n) e)) (fun ρ ha => by
  subst e2;obtain ⟨i, hi1, hi2⟩ := Option.map_eq_some_iff.1 hi;simp only [Prod.mk.injEq] at hi2
  obtain ⟨q1, q2, q3⟩ := hi2;have hb' : (i.bytes : Int) * (n : Int) ≤ 281474976710656 := by
   have h : ((i.bytes * n : Nat) : Int) ≤ 281474976710656 := by rw [q3]; omega
   rwa [Int.natCast_mul] at h
  have h := run_make (P := P) w T e i z hd hi1 q1 k1 k2 0 n (by omega) (by omega) hb' (by omega);simp only [Int.toNat_natCast, q2, Nat.mul_one, hz] at h
  simp only [execOp, ha hx, ha hy, Sem.run_bind, Sem.run_pure]
  simp only [Int.toNat_zero] at h
  rw [h];rfl) (by
   refine k w.heap.size (w.alloc (.cells (madeCells #[z] n) e)) ⟨rfl, Or.inr ⟨w.heap.size, n, madeCells #[z] n, rfl, hbase, ?_, Nat.zero_le _, hm, ?_, ?_⟩⟩ ((Ext.refl _ _).alloc _) (Nat.le_refl _)
   · exact Blk.new w e (madeCells #[z] n)
   · simp [madeCells]
   · rw [Nat.zero_mul, List.take_zero])
end
end Go.Proofs.YtmjbnhjgebjhlaaDoor
namespace Go.Proofs.YtmjbnhjgebjhlaaDoor
open Ieee
set_option maxRecDepth 100000
def rg (b : Nat) : Nat := b % 9223372036854775808
def ng (b : Nat) : Bool := b / 9223372036854775808 % 2 == 1
def mg (r : Nat) : Nat := if r < 4503599627370496 then r else 4503599627370496 + r % 4503599627370496
def ex (r : Nat) : Nat := if r < 4503599627370496 then 0 else r / 4503599627370496 - 1
def vl (r : Nat) : Nat := mg r * 2 ^ ex r
theorem c1 : double.signWeight = 9223372036854775808 := by decide +kernel
theorem c2 : double.binade = 4503599627370496 := by decide +kernel
theorem c3 : double.infRung = 9218868437227405312 := by decide +kernel
theorem c4 : double.leastPlace = -1074 := by decide +kernel
theorem gh {b : Nat} (h : rg b < 9218868437227405312) : double.read b = .number (ng b) (mg (rg b)) (-1074 + (ex (rg b) : Int)) := by
 unfold Format.read;simp only [c1, c2, c3, c4]
 show (if rg b < 4503599627370496 then _ else if rg b < 9218868437227405312 then _ else _) = _
 by_cases h1 : rg b < 4503599627370496
 · rw [if_pos h1, mg, ex, if_pos h1, if_pos h1]; rfl
 · rw [if_neg h1, if_pos h, mg, ex, if_neg h1, if_neg h1]; rfl
theorem xp {b : Nat} (h : rg b = 9218868437227405312) : double.read b = .infinity (ng b) := by
 unfold Format.read;simp only [c1, c2, c3, c4]
 show (if rg b < 4503599627370496 then _ else if rg b < 9218868437227405312 then _ else if rg b = 9218868437227405312 then _ else _) = _
 rw [if_neg (by rw [h]; decide), if_neg (by rw [h]; decide), if_pos h]; rfl
theorem read_nan {b : Nat} (h : 9218868437227405312 < rg b) : double.read b = .nan (ng b) (rg b - 9218868437227405312) := by
 unfold Format.read;simp only [c1, c2, c3, c4]
 show (if rg b < 4503599627370496 then _ else if rg b < 9218868437227405312 then _ else if rg b = 9218868437227405312 then _ else _) = _
 have h0 : 4503599627370496 < 9218868437227405312 := by decide
 rw [if_neg (by omega), if_neg (by omega), if_neg (by omega)]; rfl
def isN (b : Nat) : Bool := decide (9218868437227405312 < rg b)
theorem vl_lt {r s : Nat} (h : r < s) : vl r < vl s := by
 have key : ∀ r, vl r < vl (r + 1) := by
  intro r;unfold vl mg ex;by_cases h1 : r + 1 < 4503599627370496
  · rw [if_pos h1, if_pos h1, if_pos (by omega), if_pos (by omega)]; omega
  · by_cases h2 : r < 4503599627370496
    · have h3 : r + 1 = 4503599627370496 := by omega
      rw [if_pos h2, if_pos h2, h3, if_neg (by omega), if_neg (by omega)];simp
      omega
    · rw [if_neg h1, if_neg h1, if_neg h2, if_neg h2];by_cases h3 : (r + 1) % 4503599627370496 = 0
      · have e1 : (r + 1) / 4503599627370496 = r / 4503599627370496 + 1 := by omega
        have e2 : r % 4503599627370496 = 4503599627370496 - 1 := by omega
        obtain ⟨k, hk⟩ : ∃ k, r / 4503599627370496 = k + 1 := ⟨r / 4503599627370496 - 1, by omega⟩;rw [h3, e1, e2, hk, show k + 1 + 1 - 1 = k + 1 by omega, show k + 1 - 1 = k by omega, Nat.pow_succ, ← Nat.mul_assoc, Nat.mul_right_comm];have h0 : 0 < 2 ^ k := Nat.pow_pos (by decide);exact Nat.mul_lt_mul_of_pos_right (by omega) h0
      · have e1 : (r + 1) / 4503599627370496 = r / 4503599627370496 := by omega
        have e2 : (r + 1) % 4503599627370496 = r % 4503599627370496 + 1 := by omega
        rw [e1, e2];exact Nat.mul_lt_mul_of_pos_right (by omega) (Nat.pow_pos (by decide))
 obtain ⟨d, rfl⟩ : ∃ d, s = r + 1 + d := ⟨s - r - 1, by omega⟩;clear h;induction d with
 | zero => exact key r
 | succ d ih => exact Nat.lt_trans ih (key _)
theorem yik : vl 0 = 0 := by decide
theorem vl_inj {r s : Nat} (h : vl r = vl s) : r = s := by
 rcases Nat.lt_trichotomy r s with h1 | h1 | h1
 · have := vl_lt h1; omega
 · exact h1
 · have := vl_lt h1; omega
def pc (b : Nat) : Int := if ng b then -(rg b : Int) else (rg b : Int)
def sv (b : Nat) : Int := if ng b then -(vl (rg b) : Int) else (vl (rg b) : Int)
theorem sv_pc (a b : Nat) : (sv a < sv b ↔ pc a < pc b) ∧ (sv a = sv b ↔ pc a = pc b) := by
 have h1 := @vl_lt (rg a) (rg b);have h2 := @vl_lt (rg b) (rg a);have h3 := @vl_inj (rg a) (rg b);have h4 : vl (rg a) = 0 → rg a = 0 := fun h => vl_inj (by rw [h, yik]);have h5 : vl (rg b) = 0 → rg b = 0 := fun h => vl_inj (by rw [h, yik]);have h6 : rg a = 0 → vl (rg a) = 0 := fun h => by rw [h, yik]
 have h7 : rg b = 0 → vl (rg b) = 0 := fun h => by rw [h, yik]
 have h8 : rg a = rg b → vl (rg a) = vl (rg b) := fun h => by rw [h]
 unfold sv pc;generalize vl (rg a) = x at *
 generalize vl (rg b) = y at *
 cases ng a <;> cases ng b <;> simp only [Bool.false_eq_true, if_true, if_false] <;> constructor <;> constructor <;> intro h <;> omega
def cmp3 (x y : Int) : Ordering := if x < y then .lt else if x = y then .eq else .gt
theorem cmp3_eq (x y : Int) : compare x y = cmp3 x y := rfl
theorem cmp3_scale {x y : Int} {c : Nat} (hc : 0 < c) : cmp3 (x * c) (y * c) = cmp3 x y := by
 unfold cmp3;have h : (0 : Int) < c := by omega
 have e1 : x * (c : Int) < y * (c : Int) ↔ x < y := ⟨fun k => Int.lt_of_mul_lt_mul_right k (by omega), fun k => Int.mul_lt_mul_of_pos_right k h⟩;have e2 : x * (c : Int) = y * (c : Int) ↔ x = y := ⟨fun k => Int.eq_of_mul_eq_mul_right (by omega) k, fun k => by rw [k]⟩;simp only [e1, e2]
theorem cmp3_sv (a b : Nat) : cmp3 (sv a) (sv b) = cmp3 (pc a) (pc b) := by
 obtain ⟨h1, h2⟩ := sv_pc a b;unfold cmp3;simp only [h1, h2]
theorem zvx (s : Bool) (m k l : Nat) : signed s m k * ((2 ^ l : Nat) : Int) = if s then -((m * 2 ^ (k + l) : Nat) : Int) else ((m * 2 ^ (k + l) : Nat) : Int) := by
 unfold signed;rw [Nat.shiftLeft_eq, Nat.pow_add, ← Nat.mul_assoc];cases s
 · simp
 · simp [Int.neg_mul]
theorem ford_fin {a b : Nat} (ha : rg a < 9218868437227405312) (hb : rg b < 9218868437227405312) : xu a b = some (cmp3 (pc a) (pc b)) := by
 rw [xu, Format.order, gh ha, gh hb];simp only [Datum.order]
 rw [cmp3_eq, ← cmp3_sv];obtain ⟨c, hc⟩ : ∃ c, c = min (ex (rg a)) (ex (rg b)) := ⟨_, rfl⟩;have e1 : ((-1074 + (ex (rg a) : Int)) - min (-1074 + (ex (rg a) : Int)) (-1074 + (ex (rg b) : Int))).toNat = ex (rg a) - c := by omega
 have e2 : ((-1074 + (ex (rg b) : Int)) - min (-1074 + (ex (rg a) : Int)) (-1074 + (ex (rg b) : Int))).toNat = ex (rg b) - c := by omega
 rw [e1, e2, ← cmp3_scale (c := 2 ^ c) (Nat.pow_pos (by decide)), zvx, zvx, show ex (rg a) - c + c = ex (rg a) by omega, show ex (rg b) - c + c = ex (rg b) by omega];unfold sv vl;rfl
theorem cmp3_lt {x y : Int} (h : x < y) : cmp3 x y = .lt := if_pos h
theorem cmp3_gt {x y : Int} (h : y < x) : cmp3 x y = .gt := by rw [cmp3, if_neg (by omega), if_neg (by omega)]
theorem yeq (x : Int) : cmp3 x x = .eq := by rw [cmp3, if_neg (by omega), if_pos rfl]
theorem pc_abs (b : Nat) : (ng b = true → pc b = -(rg b : Int)) ∧ (ng b = false → pc b = (rg b : Int)) := by
 unfold pc;cases ng b <;> simp
theorem rg_lt (b : Nat) : rg b < 9223372036854775808 := Nat.mod_lt _ (by decide)
theorem ford_val {a b : Nat} (ha : isN a = false) (hb : isN b = false) :   xu a b = some (cmp3 (pc a) (pc b)) := by
  have ha' : ¬ 9218868437227405312 < rg a := of_decide_eq_false ha
  have hb' : ¬ 9218868437227405312 < rg b := of_decide_eq_false hb
  by_cases h1 : rg a < 9218868437227405312
  · by_cases h2 : rg b < 9218868437227405312
    · exact ford_fin h1 h2
    · have h3 : rg b = 9218868437227405312 := by omega
      obtain ⟨p1, p2⟩ := pc_abs a
      obtain ⟨p3, p4⟩ := pc_abs b
      rw [  xu, Format.order,       gh h1,       xp h3]
      simp only [Datum.order]
      cases hb2 : ng b
      · have h5 := p4 hb2
        rw [cmp3_lt (by rw [h5, h3]; cases ha2 : ng a; · rw [p2 ha2]; omega
                        · rw [p1 ha2]; omega)]
        rfl
      · have h5 := p3 hb2
        rw [cmp3_gt (by rw [h5, h3]; cases ha2 : ng a; · rw [p2 ha2]; omega
                        · rw [p1 ha2]; omega)]
        rfl
  · have h3 : rg a = 9218868437227405312 := by omega
    obtain ⟨p1, p2⟩ := pc_abs a
    obtain ⟨p3, p4⟩ := pc_abs b
    by_cases h2 : rg b < 9218868437227405312
    · rw [  xu, Format.order,       xp h3,       gh h2]
      simp only [Datum.order]
      cases ha2 : ng a
      · have h5 := p2 ha2
        rw [cmp3_gt (by rw [h5, h3]; cases hb2 : ng b; · rw [p4 hb2]; omega
                        · rw [p3 hb2]; omega)]
        rfl
      · have h5 := p1 ha2
        rw [cmp3_lt (by rw [h5, h3]; cases hb2 : ng b; · rw [p4 hb2]; omega
                        · rw [p3 hb2]; omega)]
        rfl
    · have h4 : rg b = 9218868437227405312 := by omega
      rw [  xu, Format.order,       xp h3,       xp h4]
      simp only [Datum.order]
      cases ha2 : ng a <;> cases hb2 : ng b
      · rw [p2 ha2, p4 hb2, h3, h4,       yeq]; rfl
      · rw [p2 ha2, p3 hb2, h3, h4, cmp3_gt (by omega)]; rfl
      · rw [p1 ha2, p4 hb2, h3, h4, cmp3_lt (by omega)]; rfl
      · rw [p1 ha2, p3 hb2, h3, h4,       yeq]; rfl
theorem ford_nan {a b : Nat} (h : isN a = true ∨ isN b = true) : xu a b = none := by
 rw [xu, Format.order];rcases h with h | h
 · rw [read_nan (of_decide_eq_true h)]; rfl
 · rw [read_nan (of_decide_eq_true h)];cases double.read a <;> rfl
/-! ### sums and products -/
theorem zux (n : Bool) (r : Nat) (h : r < 9223372036854775808) : rg (double.word n r) = r ∧ ng (double.word n r) = n ∧ double.word n r < 18446744073709551616 := by
 unfold Format.word rg ng;rw [c1];cases n
 · simp only [Bool.false_eq_true, if_false]
   refine ⟨Nat.mod_eq_of_lt h, ?_, by omega⟩;rw [Nat.div_eq_of_lt h]; rfl
 · simp only [if_true]
   refine ⟨by omega, ?_, by omega⟩;rw [show (9223372036854775808 + r) / 9223372036854775808 = 1 by omega]; rfl
theorem zdq {d : Datum} (h : d.isNaN = false) : isN (double.write d) = false ∧ double.write d < 18446744073709551616 := by
 have h0 : 9218868437227405312 < 9223372036854775808 := by decide
 have key : ∀ n r, r ≤ 9218868437227405312 → isN (double.word n r) = false ∧ double.word n r < 18446744073709551616 := fun n r hr => by
  obtain ⟨h1, _, h3⟩ := zux n r (by omega);exact ⟨decide_eq_false (by rw [h1]; omega), h3⟩
 cases d with
 | number n m p =>
  show isN (double.nearest n m p) = false ∧ double.nearest n m p < 18446744073709551616
  unfold Format.nearest;split
  · exact key _ _ (Nat.zero_le _)
  · simp only []
    exact key _ _ (Nat.le_trans (Nat.min_le_right _ _) (by rw [c3]; exact Nat.le_refl _))
 | infinity n => exact key _ _ (by rw [c3]; exact Nat.le_refl _)
 | nan n f => cases h
theorem sum_num {x y z : Datum} (h : x.sum y = some z) : z.isNaN = false := by
 cases x <;> cases y <;> simp only [Datum.sum] at h
 all_goals first | cases h; rfl | (split at h <;> cases h; rfl) | cases h
theorem product_num {x y z : Datum} (h : x.product y = some z) : z.isNaN = false := by
 cases x <;> cases y <;> simp only [Datum.product] at h
 all_goals first | cases h; rfl | (split at h <;> cases h; rfl) | cases h
theorem quotient_num {k : Nat} {x y z : Datum} (h : x.quotient k y = some z) : z.isNaN = false := by
 cases x <;> cases y <;> simp only [Datum.quotient] at h
 all_goals first | cases h; rfl | (split at h <;> first | cases h; rfl | (split at h <;> cases h; rfl) | cases h) | cases h
theorem zxv {op : BinOp} {a b r : Nat} (h : fop op a b = some r) : isN r = false ∧ r < 18446744073709551616 := by
 unfold fop at h;cases op <;> simp only [reduceCtorEq] at h
 · obtain ⟨z, h1, rfl⟩ := Option.map_eq_some_iff.1 h; exact zdq (sum_num h1)
 · obtain ⟨z, h1, rfl⟩ := Option.map_eq_some_iff.1 h; exact zdq (sum_num h1)
 · obtain ⟨z, h1, rfl⟩ := Option.map_eq_some_iff.1 h; exact zdq (product_num h1)
 · obtain ⟨z, h1, rfl⟩ := Option.map_eq_some_iff.1 h; exact zdq (quotient_num h1)
theorem nan_isN {r : Nat} (h : isNan64 r) : isN r = true := by
 obtain ⟨s, t, h1, h2, rfl⟩ := h;apply decide_eq_true
 unfold rg;omega
def zbq (b : Nat) : Nat := b ^^^ 9223372036854775808
theorem negate_low {b : Nat} (h : b < 9223372036854775808) : zbq b = 9223372036854775808 + b := by
 unfold zbq;have e : (9223372036854775808 : Nat) = 2 ^ 63 := by decide
 rw [e] at h ⊢;apply Nat.eq_of_testBit_eq
 intro i;rw [Nat.testBit_xor, Nat.testBit_two_pow];rcases Nat.lt_trichotomy i 63 with h1 | h1 | h1
 · rw [Nat.testBit_two_pow_add_gt h1, decide_eq_false (by omega), Bool.xor_false]
 · subst h1;rw [Nat.testBit_two_pow_add_eq, decide_eq_true rfl, Bool.xor_true]
 · have h2 : 2 ^ 63 + b < 2 ^ i := by
    have h3 : 2 ^ 64 ≤ 2 ^ i := Nat.pow_le_pow_right (by decide) h1;have h4 : (2 : Nat) ^ 64 = 2 ^ 63 + 2 ^ 63 := by decide
    omega
   rw [Nat.testBit_lt_two_pow h2, Nat.testBit_lt_two_pow (by omega), decide_eq_false (by omega)];rfl
theorem negate_high {b : Nat} (h : b < 9223372036854775808) : zbq (9223372036854775808 + b) = b := by
 rw [← negate_low h];unfold zbq;rw [Nat.xor_assoc, Nat.xor_self, Nat.xor_zero]
theorem negate_parts {b : Nat} (h : b < 18446744073709551616) : rg (zbq b) = rg b ∧ ng (zbq b) = !ng b ∧ zbq b < 18446744073709551616 := by
 have key : ∀ c, c < 9223372036854775808 → rg (9223372036854775808 + c) = c ∧ ng (9223372036854775808 + c) = true ∧ rg c = c ∧ ng c = false := fun c hc => by
  unfold rg ng;refine ⟨by omega, ?_, by omega, ?_⟩
  · rw [show (9223372036854775808 + c) / 9223372036854775808 = 1 by omega]; rfl
  · rw [Nat.div_eq_of_lt hc]; rfl
 rcases Nat.lt_or_ge b 9223372036854775808 with h1 | h1
 · obtain ⟨k1, k2, k3, k4⟩ := key b h1;rw [negate_low h1, k1, k2, k3, k4];exact ⟨rfl, rfl, by omega⟩
 · obtain ⟨c, rfl⟩ : ∃ c, b = 9223372036854775808 + c := ⟨b - 9223372036854775808, by omega⟩;obtain ⟨k1, k2, k3, k4⟩ := key c (by omega);rw [negate_high (by omega), k1, k2, k3, k4];exact ⟨rfl, rfl, by omega⟩
theorem sub_self {a : Nat} (hn : isN a = false) : fop .sub a a = if rg a = 9218868437227405312 then none else some 0 := by
 have hn' : ¬ 9218868437227405312 < rg a := of_decide_eq_false hn;by_cases h3 : rg a < 9218868437227405312
 · rw [if_neg (by omega)];simp only [fop, Format.sub, gh h3, Datum.opposite, Datum.sum]
   have e : signed (ng a) (mg (rg a)) ((-1074 + (ex (rg a) : Int)) - min (-1074 + (ex (rg a) : Int)) (-1074 + (ex (rg a) : Int))).toNat + signed (!ng a) (mg (rg a)) ((-1074 + (ex (rg a) : Int)) - min (-1074 + (ex (rg a) : Int)) (-1074 + (ex (rg a) : Int))).toNat = 0 := by
    unfold signed;cases ng a <;> simp
    all_goals omega
   rw [e];cases ng a <;> rfl
 · have h4 : rg a = 9218868437227405312 := by omega
   rw [if_pos h4];simp only [fop, Format.sub, xp h4, Datum.opposite, Datum.sum]
   cases ng a <;> rfl
theorem ng_of {b : Nat} (h : b < 18446744073709551616) : ng b = decide (9223372036854775808 ≤ b) := by
 unfold ng;rcases Nat.lt_or_ge b 9223372036854775808 with h1 | h1
 · rw [Nat.div_eq_of_lt h1, decide_eq_false (by omega)]; rfl
 · rw [show b / 9223372036854775808 = 1 by omega, decide_eq_true h1]; rfl
theorem mg_pos {r : Nat} (h : r ≠ 0) : mg r ≠ 0 := by
 unfold mg;split <;> omega
def nr (r : Nat) : Nat := if r < 4503599627370496 then r.log2 * 4503599627370496 + r * 2 ^ (52 - r.log2) else r
def frF (a : Nat) : Nat := double.word (ng a) (4602678819172646912 + (mg (nr (rg a)) - 4503599627370496))
def frE (a : Nat) : Int := (ex (nr (rg a)) : Int) - 1021 - (if rg a < 4503599627370496 then 52 else 0)
def fm (a : Nat) : Nat := mg (nr (rg a))
def hashM (r : Nat) : Nat := (mg r * 2 ^ (((ex r : Int) - 1074) % 31).toNat) % 2147483647
theorem andNot_toNat {m n : Nat} (hm : m < 2 ^ 64) (j : Nat) : (BitVec.ofNat 64 m &&& ~~~BitVec.ofNat 64 n).toNat.testBit j = (m.testBit j && decide (j < 64) && !n.testBit j) := by
 rw [BitVec.toNat_and, Nat.testBit_and, BitVec.testBit_toNat, BitVec.testBit_toNat, BitVec.getLsbD_not, BitVec.getLsbD_ofNat, BitVec.getLsbD_ofNat];by_cases hj : j < 64
 · simp [hj]
 · have : m.testBit j = false := Nat.testBit_lt_two_pow (Nat.lt_of_lt_of_le hm (Nat.pow_le_pow_right (by decide) (by omega)));simp [this]
theorem andNot_sign_nat {m : Nat} (hm : m < 18446744073709551616) : (BitVec.ofNat 64 m &&& ~~~BitVec.ofNat 64 9223372036854775808).toNat = rg m := by
 apply Nat.eq_of_testBit_eq
 intro j;rw [andNot_toNat hm, show rg m = m % 2 ^ 63 from rfl, Nat.testBit_mod_two_pow, show (9223372036854775808 : Nat) = 2 ^ 63 from rfl, Nat.testBit_two_pow];by_cases h1 : j < 63
 · have h2 : ¬ 63 = j := by omega
   have h3 : j < 64 := by omega
   simp [h1, h2, h3]
 · by_cases h2 : j = 63
   · subst h2; simp
   · have h3 : ¬ j < 64 := by omega
     simp [h1, h3]
theorem or_add {a b : Nat} (k : Nat) (hb : b < 2 ^ k) (ha : a % 2 ^ k = 0) : a ||| b = a + b := by
 have e : a = 2 ^ k * (a / 2 ^ k) := by have := Nat.div_add_mod a (2 ^ k); omega
 rw [e];exact (Nat.two_pow_add_eq_or_of_lt hb _).symm
theorem and_field (m k n : Nat) : m &&& (2 ^ n * (2 ^ k - 1)) = 2 ^ n * (m / 2 ^ n % 2 ^ k) := by
 apply Nat.eq_of_testBit_eq
 intro j;rw [Nat.testBit_and, Nat.testBit_two_pow_mul, Nat.testBit_two_pow_mul, Nat.testBit_two_pow_sub_one, Nat.testBit_mod_two_pow, Nat.testBit_div_two_pow];by_cases h : n ≤ j
 · have h5 : j - n + n = j := by omega
   simp [h, h5, Bool.and_comm]
 · simp [h]
theorem and_sign_nat (m : Nat) (hm : m < 18446744073709551616) : m &&& 9223372036854775808 = if ng m then 9223372036854775808 else 0 := by
 have := and_field m 1 63;rw [show (2 : Nat) ^ 63 * (2 ^ 1 - 1) = 9223372036854775808 from rfl] at this;rw [this, ng_of hm];show 9223372036854775808 * (m / 9223372036854775808 % 2) = _
 by_cases h : 9223372036854775808 ≤ m
 · rw [if_pos (decide_eq_true h), show m / 9223372036854775808 % 2 = 1 by omega]
 · rw [if_neg (by simpa using h), show m / 9223372036854775808 % 2 = 0 by omega]
def nd (r : Nat) : Nat := if r < 4503599627370496 then 52 else 0
noncomputable def rungOf (n : Nat) : Nat := @dite Nat (∃ d, vl d = n) (Classical.propDecidable _) (fun h => h.choose) (fun _ => 0)
/-! ### how many times a number fits -/
def fitK (r y : Nat) : Nat := (ex (nr r) + nd y) - (ex (nr y) + nd r) - (if mg (nr r) < mg (nr y) then 1 else 0)
end Go.Proofs.YtmjbnhjgebjhlaaDoor

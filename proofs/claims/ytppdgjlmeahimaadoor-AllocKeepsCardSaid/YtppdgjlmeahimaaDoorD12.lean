/- Texts of this claim. -/
import Derived.Test.YtppdgjlmeahimaaDoorD11
namespace Go.Proofs.YtppdgjlmeahimaaDoor
open Go.RowKit
set_option maxRecDepth 100000
attribute [local irreducible] OW RS
theorem same_ints (w : World) (A A' : Option Addr) (c c' n n' : Nat) (xs : List Int) (h : IntsA n w A xs) (h' : IntsA n' w A' xs) : Calls Tryd.prog 17 #[.slice A xs.length c, .slice A' xs.length c'] w fun e w' => e = .returned (.bool true) ∧ Below w.heap.size w w' := by
 obtain ⟨w0, hw0⟩ : ∃ w0, w0 = w := ⟨_, rfl⟩;have hlen := h.len
 refine qw Tryd.func17 rfl Tryd.ntmps17 rfl (srx (anx rfl (zm (srx (mvx rfl (za rfl (yp Tryd.underlying28 rfl (mvx rfl (za rfl (yp Tryd.underlying28 rfl (za rfl (qs rfl rfl (rnx (qd 10 (.bool false) rfl ((by rw [bne_self_eq_false] : (.bool ((((xs.length : Nat)) : Int) != (((xs.length : Nat)) : Int)) : Value) = _)) (qz rfl (zq (zh (zm (srx (anx rfl (zv (qu (ι := Nat) (fun i => [(0, .slice A xs.length c), (1, .slice A' xs.length c'), (5, .int .i64 ((i : Nat) : Int))]) (fun i w' => i ≤ xs.length ∧ Ext No w0 w') (fun i => xs.length - i) 0 ⟨rfl, rfl, rfl, trivial⟩ (⟨Nat.zero_le _, by rw [hw0]; exact Ext.refl _ _⟩) ?_))))))))))))))))))))))
 rintro i w2 ⟨hi0, hEi⟩;refine zm (srx (mvx rfl (mvx rfl (za rfl (yp Tryd.underlying28 rfl (za rfl (yy rfl rfl (rnx (zw rfl (fun hi => ?_) (fun hi => ?_))))))))))
 ·
  have hi := of_decide_eq_true hi;have hil : i < xs.length := by omega
  obtain ⟨x, hx⟩ : ∃ x, xs[i]? = some x := ⟨_, List.getElem?_eq_getElem hil⟩;rw [hw0] at hEi;have hz := h.low (X := No) ⟨hEi, fun _ h => h.elim⟩;have hz' := h'.low (X := No) ⟨hEi, fun _ h => h.elim⟩;obtain ⟨g, o, hA, hg, hc⟩ := hz.cell hx;obtain ⟨g', o', hA', hg', hc'⟩ := hz'.cell hx;refine zq (zh (zm (zv (zm ?_))))
  refine xn (No) Mut.none_ [] [] (xx [Fx.of (.slice A xs.length c),
   Fx.of (.int .i64 ((i : Nat) : Int)),
   Fx.of (.pointer (some ⟨g, o + i, none⟩)),
   Fx.of (.int .i64 x),
   Fx.of (.slice A' xs.length c'),
   Fx.of (.int .i64 ((i : Nat) : Int)),
   Fx.of (.pointer (some ⟨g', o' + i, none⟩)),
   Fx.of (.int .i64 x),
   Fx.of (.bool false)]) gn rfl trivial (fun _ h => by cases h) ?_ ?_
  · refine ⟨?_, ?_, ?_, ?_, ?_, ?_, ?_, ?_, ?_, trivial⟩
    · intro vs X wq K;exact zl rfl ⟨Below.refl _ _, Left.of rfl⟩
    · intro vs X wq K;exact zl rfl ⟨Below.refl _ _, Left.of rfl⟩
    · intro vs X wq K;obtain ⟨_, e0, k0⟩ := K.dep 0 rfl rfl rfl;refine zf 17 (.slice A xs.length c) rfl e0 ?_;obtain ⟨_, e1, k1⟩ := K.dep 1 rfl rfl rfl;refine zf 18 (.int .i64 ((i : Nat) : Int)) rfl e1 ?_;exact zj (j := i) Tryd.underlying28 sz3 (congrArg (fun z ↦ some (Value.slice z xs.length c)) hA) rfl rfl hil ⟨Below.refl _ _, Left.of rfl⟩
    · intro vs X wq K;have LE := K.1;obtain ⟨_, e2, k2⟩ := K.dep 2 rfl rfl rfl;refine zf 19 (.pointer (some ⟨g, o + i, none⟩)) rfl e2 ?_;exact zt Tryd.underlying3 rfl rfl (oe LE (fun h ↦ h) hc) ⟨Below.refl _ _, Left.of rfl⟩
    · intro vs X wq K;exact zl rfl ⟨Below.refl _ _, Left.of rfl⟩
    · intro vs X wq K;exact zl rfl ⟨Below.refl _ _, Left.of rfl⟩
    · intro vs X wq K;obtain ⟨_, e4, k4⟩ := K.dep 4 rfl rfl rfl;refine zf 21 (.slice A' xs.length c') rfl e4 ?_;obtain ⟨_, e5, k5⟩ := K.dep 5 rfl rfl rfl;refine zf 22 (.int .i64 ((i : Nat) : Int)) rfl e5 ?_;exact zj (j := i) Tryd.underlying28 sz3 (congrArg (fun z ↦ some (Value.slice z xs.length c')) hA') rfl rfl hil ⟨Below.refl _ _, Left.of rfl⟩
    · intro vs X wq K;have LE := K.1;obtain ⟨_, e6, k6⟩ := K.dep 6 rfl rfl rfl;refine zf 23 (.pointer (some ⟨g', o' + i, none⟩)) rfl e6 ?_;exact zt Tryd.underlying3 rfl rfl (oe LE (fun h ↦ h) hc') ⟨Below.refl _ _, Left.of rfl⟩
    · intro vs X wq K;obtain ⟨_, e3, k3⟩ := K.dep 3 rfl rfl rfl;refine zf 20 (.int .i64 x) rfl e3 ?_;obtain ⟨_, e7, k7⟩ := K.dep 7 rfl rfl rfl;refine zf 24 (.int .i64 x) rfl e7 ?_;exact qs rfl rfl ⟨Below.refl _ _, Left.of ((by rw [bne_self_eq_false] : (.bool (x != x) : Value) = _))⟩
  intro vs w3 LE AO AL AF AA;have hbd : Below (w2).heap.size (w2) w3 := (((Ext.refl No (w2)).drew).trans LE).toBelow;obtain ⟨_, e8, k8⟩ := AL.2.2.2.2.2.2.2.2.1;refine vz (τ := [(0, _), (1, _), (5, _), (25, .bool false)]) ⟨rfl, rfl, rfl, congrArg some e8, trivial⟩ ?_;clear AL AF AA AO
  refine zh (qz rfl (zq (zk (zh (zp (mvx rfl (za rfl (qe rfl rfl (zy (by omega)) (avx rfl (yj ?_))))))))));exact yo (i + 1) (by show xs.length - (i + 1) < xs.length - i; omega) ⟨rfl, rfl, rfl, trivial⟩ (⟨hil, by rw [hw0]; exact hEi.trans (Ext.of_below hbd No)⟩)
 ·
  refine qn (zi (zi (zx (zh (srx (anx rfl (yc (yb (rs := [.tmp 4]) (vs := [_]) rfl ⟨rfl, trivial⟩ ?_))))))));exact ⟨rfl, by rw [hw0] at hEi; exact hEi.toBelow⟩
section
variable (w : World) (x : LIns) (B B' : Option Addr) (c c' n n' : Nat) (h : IntsA n w B x.l) (h' : IntsA n' w B' x.l)
include h h'
theorem same_ins : Calls Tryd.prog 32 #[.agg (gh x B c).toArray, .agg (gh x B' c').toArray] w fun e w' => e = .returned (.bool true) ∧ Below w.heap.size w w' := by
 refine qw Tryd.func32 rfl Tryd.ntmps32 rfl (srx (za rfl (vd rfl ?_)));rintro g2 wA B2 E1 G1;refine za rfl (vd rfl ?_);rintro g3 wB B3 E2 G2;have B2b := B2.ext E2 (fun h => h.elim);have hE := E1.trans E2
 refine anx rfl (srx (za rfl (zb Tryd.underlying41 rfl sz3 (by decide) rfl (za rfl (ze Tryd.underlying3 rfl rfl B2b rfl (za rfl (zb Tryd.underlying41 rfl sz3 (by decide) rfl (za rfl (ze Tryd.underlying3 rfl rfl B3 rfl (za rfl (qx rfl rfl (vc 9 (.bool true) rfl (by simp : (.bool (x.op == x.op) : Value) = _) (mvx rfl (onx rfl (zb Tryd.underlying41 rfl sz3 (by decide) rfl (onx rfl (ze Tryd.underlying3 rfl rfl B2b rfl (onx rfl (zb Tryd.underlying41 rfl sz3 (by decide) rfl (onx rfl (ze Tryd.underlying3 rfl rfl B3 rfl (onx rfl (qx rfl rfl (vc 15 (.bool true) rfl (by simp : (.bool (x.d == x.d) : Value) = _) (za rfl (zr rfl rfl (mvx rfl (onx rfl (zb Tryd.underlying41 rfl sz3 (by decide) rfl (onx rfl (ze Tryd.underlying3 rfl rfl B2b rfl (onx rfl (zb Tryd.underlying41 rfl sz3 (by decide) rfl (onx rfl (ze Tryd.underlying3 rfl rfl B3 rfl (onx rfl (qx rfl rfl (vc 22 (.bool true) rfl (by simp : (.bool (x.a == x.a) : Value) = _) (za rfl (zr rfl rfl (mvx rfl (onx rfl (zb Tryd.underlying41 rfl sz3 (by decide) rfl (onx rfl (ze Tryd.underlying3 rfl rfl B2b rfl (onx rfl (zb Tryd.underlying41 rfl sz3 (by decide) rfl (onx rfl (ze Tryd.underlying3 rfl rfl B3 rfl (onx rfl (qx rfl rfl (vc 29 (.bool true) rfl (by simp : (.bool (x.b == x.b) : Value) = _) (za rfl (zr rfl rfl (mvx rfl (onx rfl (zb Tryd.underlying41 rfl sz3 (by decide) rfl (onx rfl (ze Tryd.underlying3 rfl rfl B2b rfl (onx rfl (zb Tryd.underlying41 rfl sz3 (by decide) rfl (onx rfl (ze Tryd.underlying3 rfl rfl B3 rfl ?_)))))))))))))))))))))))))))))))))))))))))))))))))))))))))))))))
 refine onx rfl (qx rfl rfl (vc 36 (.bool true) rfl (by simp : (.bool (x.t == x.t) : Value) = _) (za rfl (zr rfl rfl (mvx rfl (onx rfl (zb Tryd.underlying41 rfl sz3 (by decide) rfl (onx rfl (ze Tryd.underlying3 rfl rfl B2b rfl (onx rfl (zb Tryd.underlying41 rfl sz3 (by decide) rfl (onx rfl (ze Tryd.underlying3 rfl rfl B3 rfl (onx rfl (qx rfl rfl (vc 43 (.bool true) rfl (by simp : (.bool (x.k == x.k) : Value) = _) (za rfl (zr rfl rfl (mvx rfl (onx rfl (zb Tryd.underlying41 rfl ziz (by decide) rfl (onx rfl (ze Tryd.underlying28 rfl rfl B2b rfl (onx rfl (zb Tryd.underlying41 rfl ziz (by decide) rfl (onx rfl (ze Tryd.underlying28 rfl rfl B3 rfl (onx rfl (ya en17 rfl ((same_ints _ B B' c c' n n' x.l (h.low (X := No) ⟨hE, fun _ h => h.elim⟩) (h'.low (X := No) ⟨hE, fun _ h => h.elim⟩)).mono ?_))))))))))))))))))))))))))))))
 rintro e w1 ⟨rfl, hb⟩;refine ⟨_, rfl, (za rfl (zr rfl rfl (anx rfl (yc (yb (rs := [.tmp 4]) (vs := [_]) rfl ⟨rfl, trivial⟩ ?_)))))⟩;exact ⟨rfl, (hE.trans (Ext.of_below hb No)).toBelow⟩
end
section
variable (w : World) (f : LFn) (p p' : Pl) (n n' : Nat) (hF : FnA n w p f) (hF' : FnA n' w p' f)
include hF hF'
theorem oh : Calls Tryd.prog 14 #[fnV p f, fnV p' f] w fun e w' => e = .returned (.bool true) ∧ Below w.heap.size w w' := by
 have hnl := hF.names.len;have hcl := hF.consts.len;have hil := hF.ins.len;have hrl := hF.rgs.len;refine qw Tryd.func14 rfl Tryd.ntmps14 rfl (srx (za rfl (vd rfl ?_)));rintro g2 wA B2a E1 G1;refine za rfl (vd rfl ?_);rintro g3 wB B3b E2 G2;have B2 : Blk wB g2 27 (fcC f p.an p.cn p.ac p.cc p.ai f.ins.length p.ci p.ar p.cr f.rgs.length f.regs) := B2a.ext E2 (fun h => h.elim)
 have B3 : Blk wB g3 27 (fcC f p'.an p'.cn p'.ac p'.cc p'.ai f.ins.length p'.ci p'.ar p'.cr f.rgs.length f.regs) := B3b;have hE := E1.trans E2;have hFB := hF.low (X := No) ⟨hE, fun _ h => h.elim⟩;have hFB' := hF'.low (X := No) ⟨hE, fun _ h => h.elim⟩
 refine anx rfl (zm (srx (za rfl (zb Tryd.underlying27 rfl sz9 (by decide) rfl (za rfl (ze Tryd.underlying9 rfl rfl B2 rfl (za rfl (zb Tryd.underlying27 rfl sz9 (by decide) rfl (za rfl (ze Tryd.underlying9 rfl rfl B3 rfl (za rfl (ow_neqS rfl rfl (mvx rfl (vc 14 (.bool false) rfl (by rw [beq_self_eq_true]; rfl) (onx rfl (zb Tryd.underlying27 rfl sz3 (by decide) rfl (onx rfl (ze Tryd.underlying3 rfl rfl B2 rfl (onx rfl (zb Tryd.underlying27 rfl sz3 (by decide) rfl (onx rfl (ze Tryd.underlying3 rfl rfl B3 rfl (onx rfl (qs rfl rfl (za rfl (zz rfl rfl (mvx rfl (vc 21 (.bool false) rfl ((by rw [bne_self_eq_false] : (.bool (f.params != f.params) : Value) = _)) (onx rfl (zb Tryd.underlying27 rfl sz3 (by decide) rfl (onx rfl (ze Tryd.underlying3 rfl rfl B2 rfl (onx rfl (zb Tryd.underlying27 rfl sz3 (by decide) rfl (onx rfl (ze Tryd.underlying3 rfl rfl B3 rfl (onx rfl (qs rfl rfl (za rfl (zz rfl rfl (mvx rfl (vc 28 (.bool false) rfl ((by rw [bne_self_eq_false] : (.bool (f.regs != f.regs) : Value) = _)) (onx rfl (zb Tryd.underlying27 rfl sz3 (by decide) rfl (onx rfl (ze Tryd.underlying3 rfl rfl B2 rfl (onx rfl (zb Tryd.underlying27 rfl sz3 (by decide) rfl (onx rfl (ze Tryd.underlying3 rfl rfl B3 rfl (onx rfl (qs rfl rfl (za rfl (zz rfl rfl (mvx rfl (vc 35 (.bool false) rfl ((by rw [bne_self_eq_false] : (.bool (f.frees != f.frees) : Value) = _)) (onx rfl (zb Tryd.underlying27 rfl sz4 (by decide) rfl (onx rfl (ze Tryd.underlying4 rfl rfl B2 rfl (onx rfl (zb Tryd.underlying27 rfl sz4 (by decide) rfl ?_))))))))))))))))))))))))))))))))))))))))))))))))))))))))))))))
 refine onx rfl (ze Tryd.underlying4 rfl rfl B3 rfl (onx rfl (ow_neqB Tryd.underlying4 rfl rfl (za rfl (zz rfl rfl (mvx rfl (vc 42 (.bool false) rfl ((by rw [bne_self_eq_false] : (.bool (f.gen != f.gen) : Value) = _)) (onx rfl (zb Tryd.underlying27 rfl sz3 (by decide) rfl (onx rfl (ze Tryd.underlying3 rfl rfl B2 rfl (onx rfl (zb Tryd.underlying27 rfl sz3 (by decide) rfl (onx rfl (ze Tryd.underlying3 rfl rfl B3 rfl (onx rfl (qs rfl rfl (za rfl (zz rfl rfl (rnx (qd 48 (.bool false) rfl ((by rw [bne_self_eq_false] : (.bool (f.bound != f.bound) : Value) = _)) (qz rfl (zq (zh (zm (srx (za rfl (zb Tryd.underlying27 rfl sz22 (by decide) rfl (za rfl (ze Tryd.underlying22 rfl rfl B2 rfl (za rfl (yp Tryd.underlying22 rfl (za rfl (zb Tryd.underlying27 rfl sz22 (by decide) rfl (za rfl (ze Tryd.underlying22 rfl rfl B3 rfl (za rfl (yp Tryd.underlying22 rfl (za rfl (qs rfl rfl (mvx rfl (vc 56 (.bool false) rfl ((by rw [bne_self_eq_false] : (.bool ((((f.names.length : Nat)) : Int) != (((f.names.length : Nat)) : Int)) : Value) = _)) (onx rfl (zb Tryd.underlying27 rfl sz23 (by decide) rfl (onx rfl (ze Tryd.underlying23 rfl rfl B2 rfl (onx rfl (yp Tryd.underlying23 rfl (onx rfl (zb Tryd.underlying27 rfl sz23 (by decide) rfl (onx rfl (ze Tryd.underlying23 rfl rfl B3 rfl (onx rfl (yp Tryd.underlying23 rfl (onx rfl (qs rfl rfl (za rfl (zz rfl rfl (mvx rfl (vc 65 (.bool false) rfl ((by rw [bne_self_eq_false] : (.bool ((((f.consts.length : Nat)) : Int) != (((f.consts.length : Nat)) : Int)) : Value) = _)) (onx rfl (zb Tryd.underlying27 rfl ju (by decide) rfl ?_))))))))))))))))))))))))))))))))))))))))))))))))))))))))))))))
 refine onx rfl (ze Tryd.underlying24 rfl rfl B2 rfl (onx rfl (yp Tryd.underlying24 rfl (onx rfl (zb Tryd.underlying27 rfl ju (by decide) rfl (onx rfl (ze Tryd.underlying24 rfl rfl B3 rfl (onx rfl (yp Tryd.underlying24 rfl (onx rfl (qs rfl rfl (za rfl (zz rfl rfl (mvx rfl (vc 74 (.bool false) rfl ((by rw [bne_self_eq_false] : (.bool ((((f.ins.length : Nat)) : Int) != (((f.ins.length : Nat)) : Int)) : Value) = _)) (onx rfl (zb Tryd.underlying27 rfl xj (by decide) rfl (onx rfl (ze Tryd.underlying25 rfl rfl B2 rfl (onx rfl (yp Tryd.underlying25 rfl (onx rfl (zb Tryd.underlying27 rfl xj (by decide) rfl (onx rfl (ze Tryd.underlying25 rfl rfl B3 rfl (onx rfl (yp Tryd.underlying25 rfl (onx rfl (qs rfl rfl (za rfl (zz rfl rfl (rnx (qd 82 (.bool false) rfl ((by rw [bne_self_eq_false] : (.bool ((((f.rgs.length : Nat)) : Int) != (((f.rgs.length : Nat)) : Int)) : Value) = _)) (qz rfl (zq (zh (zm (srx (anx rfl (zv (qu (ι := Nat) (fun i1 => [(2, .pointer (some ⟨g2, 0, none⟩)), (3, .pointer (some ⟨g3, 0, none⟩)), (5, .int .i64 ((i1 : Nat) : Int))]) (fun i1 w' => i1 ≤ f.names.length ∧ Ext No wB w') (fun i1 => f.names.length - i1) 0 ⟨rfl, rfl, rfl, trivial⟩ (⟨Nat.zero_le _, Ext.refl _ _⟩) ?_)))))))))))))))))))))))))))))))))))))))))
 rintro i1 w2 ⟨hi01, hE1⟩;have B2_1 := B2.ext hE1 (fun h => h.elim);have B3_1 := B3.ext hE1 (fun h => h.elim);refine zm (srx (mvx rfl (za rfl (zb Tryd.underlying27 rfl sz22 (by decide) rfl (za rfl (ze Tryd.underlying22 rfl rfl B2_1 rfl (za rfl (yp Tryd.underlying22 rfl (za rfl (yy rfl rfl (rnx (zw rfl (fun hi1 => ?_) (fun hi1 => ?_)))))))))))))
 ·
  have hi := of_decide_eq_true hi1;have hlt : i1 < f.names.length := by omega
  obtain ⟨x, hx⟩ : ∃ x, f.names[i1]? = some x := ⟨_, List.getElem?_eq_getElem hlt⟩;have hz := hFB.low (X := No) ⟨hE1, fun _ h => h.elim⟩;have hz' := hFB'.low (X := No) ⟨hE1, fun _ h => h.elim⟩;obtain ⟨g, o, hA, hg, hc⟩ := hz.names.row.at hx;obtain ⟨g', o', hA', hg', hc'⟩ := hz'.names.row.at hx;refine zq (zh (zm (zv (zm ?_))))
  refine xn (No) Mut.none_ [] [] (xx [Fx.of (.pointer (some ⟨g2, 6, none⟩)),
   Fx.of (.slice p.an f.names.length p.cn),
   Fx.of (.int .i64 ((i1 : Nat) : Int)),
   Fx.of (.pointer (some ⟨g, o + i1, none⟩)),
   Fx.of (.string x),
   Fx.of (.pointer (some ⟨g3, 6, none⟩)),
   Fx.of (.slice p'.an f.names.length p'.cn),
   Fx.of (.int .i64 ((i1 : Nat) : Int)),
   Fx.of (.pointer (some ⟨g', o' + i1, none⟩)),
   Fx.of (.string x),
   Fx.of (.bool false)]) gn rfl trivial (fun _ h => by cases h) ?_ ?_
  · refine ⟨?_, ?_, ?_, ?_, ?_, ?_, ?_, ?_, ?_, ?_, ?_, trivial⟩
    · intro vs X wq K;exact zb Tryd.underlying27 rfl sz22 (by decide) rfl ⟨Below.refl _ _, Left.of rfl⟩
    · intro vs X wq K;have LE := K.1;obtain ⟨_, e0, k0⟩ := K.dep 0 rfl rfl rfl;refine zf 90 (.pointer (some ⟨g2, 6, none⟩)) rfl e0 ?_;exact ze Tryd.underlying22 rfl rfl (ve LE B2_1) rfl ⟨Below.refl _ _, Left.of rfl⟩
    · intro vs X wq K;exact zl rfl ⟨Below.refl _ _, Left.of rfl⟩
    · intro vs X wq K;obtain ⟨_, e1, k1⟩ := K.dep 1 rfl rfl rfl;refine zf 91 (.slice p.an f.names.length p.cn) rfl e1 ?_;obtain ⟨_, e2, k2⟩ := K.dep 2 rfl rfl rfl;refine zf 92 (.int .i64 ((i1 : Nat) : Int)) rfl e2 ?_;exact zj (j := i1) Tryd.underlying22 sz9 (congrArg (fun z ↦ some (Value.slice z f.names.length p.cn)) hA) rfl rfl hlt ⟨Below.refl _ _, Left.of rfl⟩
    · intro vs X wq K;have LE := K.1;obtain ⟨_, e3, k3⟩ := K.dep 3 rfl rfl rfl;refine zf 93 (.pointer (some ⟨g, o + i1, none⟩)) rfl e3 ?_;exact zt Tryd.underlying9 rfl rfl (oe LE (fun h ↦ h) (by have h9 := hc; rw [Nat.mul_one] at h9; exact h9)) ⟨Below.refl _ _, Left.of rfl⟩
    · intro vs X wq K;exact zb Tryd.underlying27 rfl sz22 (by decide) rfl ⟨Below.refl _ _, Left.of rfl⟩
    · intro vs X wq K;have LE := K.1;obtain ⟨_, e5, k5⟩ := K.dep 5 rfl rfl rfl;refine zf 95 (.pointer (some ⟨g3, 6, none⟩)) rfl e5 ?_;exact ze Tryd.underlying22 rfl rfl (ve LE B3_1) rfl ⟨Below.refl _ _, Left.of rfl⟩
    · intro vs X wq K;exact zl rfl ⟨Below.refl _ _, Left.of rfl⟩
    · intro vs X wq K;obtain ⟨_, e6, k6⟩ := K.dep 6 rfl rfl rfl;refine zf 96 (.slice p'.an f.names.length p'.cn) rfl e6 ?_;obtain ⟨_, e7, k7⟩ := K.dep 7 rfl rfl rfl;refine zf 97 (.int .i64 ((i1 : Nat) : Int)) rfl e7 ?_;exact zj (j := i1) Tryd.underlying22 sz9 (congrArg (fun z ↦ some (Value.slice z f.names.length p'.cn)) hA') rfl rfl hlt ⟨Below.refl _ _, Left.of rfl⟩
    · intro vs X wq K;have LE := K.1;obtain ⟨_, e8, k8⟩ := K.dep 8 rfl rfl rfl;refine zf 98 (.pointer (some ⟨g', o' + i1, none⟩)) rfl e8 ?_;exact zt Tryd.underlying9 rfl rfl (oe LE (fun h ↦ h) (by have h9 := hc'; rw [Nat.mul_one] at h9; exact h9)) ⟨Below.refl _ _, Left.of rfl⟩
    · intro vs X wq K;obtain ⟨_, e4, k4⟩ := K.dep 4 rfl rfl rfl;refine zf 94 (.string x) rfl e4 ?_;obtain ⟨_, e9, k9⟩ := K.dep 9 rfl rfl rfl;refine zf 99 (.string x) rfl e9 ?_;exact ow_neqS rfl rfl ⟨Below.refl _ _, Left.of (by rw [beq_self_eq_true]; rfl)⟩
  intro vs w3 LE AO AL AF AA;have hbd : Below (w2).heap.size (w2) w3 := (((Ext.refl No (w2)).drew).trans LE).toBelow;obtain ⟨_, e10, k10⟩ := AL.2.2.2.2.2.2.2.2.2.2.1;refine vz (τ := [(2, _), (3, _), (5, _), (100, .bool false)]) ⟨rfl, rfl, rfl, congrArg some e10, trivial⟩ ?_;clear AL AF AA AO
  refine zh (qz rfl (zq (zk (zh (zp (mvx rfl (za rfl (qe rfl rfl (zy (by omega)) (avx rfl (yj ?_))))))))));exact yo (i1 + 1) (by show f.names.length - (i1 + 1) < f.names.length - i1; omega) ⟨rfl, rfl, rfl, trivial⟩ (⟨hlt, hE1.trans (Ext.of_below hbd No)⟩)
 ·
  refine qn (zi (zi (zx (zh (zm (srx (anx rfl (zv (qu (ι := Nat) (fun i2 => [(2, .pointer (some ⟨g2, 0, none⟩)), (3, .pointer (some ⟨g3, 0, none⟩)), (6, .int .i64 ((i2 : Nat) : Int))]) (fun i2 w' => i2 ≤ f.consts.length ∧ Ext No wB w') (fun i2 => f.consts.length - i2) 0 ⟨rfl, rfl, rfl, trivial⟩ (⟨Nat.zero_le _, hE1⟩) ?_)))))))))
  rintro i2 w5 ⟨hi02, hE2⟩;have B2_2 := B2.ext hE2 (fun h => h.elim);have B3_2 := B3.ext hE2 (fun h => h.elim);refine zm (srx (mvx rfl (za rfl (zb Tryd.underlying27 rfl sz23 (by decide) rfl (za rfl (ze Tryd.underlying23 rfl rfl B2_2 rfl (za rfl (yp Tryd.underlying23 rfl (za rfl (yy rfl rfl (rnx (zw rfl (fun hi2 => ?_) (fun hi2 => ?_)))))))))))))
  ·
   have hi := of_decide_eq_true hi2;have hlt : i2 < f.consts.length := by omega
   obtain ⟨x, hx⟩ : ∃ x, f.consts[i2]? = some x := ⟨_, List.getElem?_eq_getElem hlt⟩;have hz := hFB.low (X := No) ⟨hE2, fun _ h => h.elim⟩;have hz' := hFB'.low (X := No) ⟨hE2, fun _ h => h.elim⟩;obtain ⟨g, o, hA, hg, hc⟩ := hz.consts.row.at hx;obtain ⟨g', o', hA', hg', hc'⟩ := hz'.consts.row.at hx;refine zq (zh (zm (zv (zm ?_))))
   refine xn (No) Mut.none_ [] [] (xx [Fx.of (.pointer (some ⟨g2, 7, none⟩)),
    Fx.of (.slice p.ac f.consts.length p.cc),
    Fx.of (.int .i64 ((i2 : Nat) : Int)),
    Fx.of (.pointer (some ⟨g, o + i2 * 2, none⟩)),
    Fx.of (.agg #[.int .i64 x.1, .string x.2]),
    Fx.of (.pointer (some ⟨g3, 7, none⟩)),
    Fx.of (.slice p'.ac f.consts.length p'.cc),
    Fx.of (.int .i64 ((i2 : Nat) : Int)),
    Fx.of (.pointer (some ⟨g', o' + i2 * 2, none⟩)),
    Fx.of (.agg #[.int .i64 x.1, .string x.2]),
    Fx.of (.bool false)]) gn rfl trivial (fun _ h => by cases h) ?_ ?_
   · refine ⟨?_, ?_, ?_, ?_, ?_, ?_, ?_, ?_, ?_, ?_, ?_, trivial⟩
     · intro vs X wq K;exact zb Tryd.underlying27 rfl sz23 (by decide) rfl ⟨Below.refl _ _, Left.of rfl⟩
     · intro vs X wq K;have LE := K.1;obtain ⟨_, e0, k0⟩ := K.dep 0 rfl rfl rfl;refine zf 108 (.pointer (some ⟨g2, 7, none⟩)) rfl e0 ?_;exact ze Tryd.underlying23 rfl rfl (ve LE B2_2) rfl ⟨Below.refl _ _, Left.of rfl⟩
     · intro vs X wq K;exact zl rfl ⟨Below.refl _ _, Left.of rfl⟩
     · intro vs X wq K;obtain ⟨_, e1, k1⟩ := K.dep 1 rfl rfl rfl;refine zf 109 (.slice p.ac f.consts.length p.cc) rfl e1 ?_;obtain ⟨_, e2, k2⟩ := K.dep 2 rfl rfl rfl;refine zf 110 (.int .i64 ((i2 : Nat) : Int)) rfl e2 ?_;exact yh (j := i2) Tryd.underlying23 sz37 (congrArg (fun z ↦ some (Value.slice z f.consts.length p.cc)) hA) rfl rfl hlt ⟨Below.refl _ _, Left.of rfl⟩
     · intro vs X wq K;have LE := K.1;obtain ⟨_, e3, k3⟩ := K.dep 3 rfl rfl rfl;refine zf 111 (.pointer (some ⟨g, o + i2 * 2, none⟩)) rfl e3 ?_;exact vt (cs := #[.int .i64 x.1, .string x.2]) Tryd.underlying37 rfl sz37 rfl rfl (fun j v hj ↦ oe LE (fun h ↦ h) (hc j v (by simpa using hj))) ⟨Below.refl _ _, Left.of rfl⟩
     · intro vs X wq K;exact zb Tryd.underlying27 rfl sz23 (by decide) rfl ⟨Below.refl _ _, Left.of rfl⟩
     · intro vs X wq K;have LE := K.1;obtain ⟨_, e5, k5⟩ := K.dep 5 rfl rfl rfl;refine zf 113 (.pointer (some ⟨g3, 7, none⟩)) rfl e5 ?_;exact ze Tryd.underlying23 rfl rfl (ve LE B3_2) rfl ⟨Below.refl _ _, Left.of rfl⟩
     · intro vs X wq K;exact zl rfl ⟨Below.refl _ _, Left.of rfl⟩
     · intro vs X wq K;obtain ⟨_, e6, k6⟩ := K.dep 6 rfl rfl rfl;refine zf 114 (.slice p'.ac f.consts.length p'.cc) rfl e6 ?_;obtain ⟨_, e7, k7⟩ := K.dep 7 rfl rfl rfl;refine zf 115 (.int .i64 ((i2 : Nat) : Int)) rfl e7 ?_;exact yh (j := i2) Tryd.underlying23 sz37 (congrArg (fun z ↦ some (Value.slice z f.consts.length p'.cc)) hA') rfl rfl hlt ⟨Below.refl _ _, Left.of rfl⟩
     · intro vs X wq K;have LE := K.1;obtain ⟨_, e8, k8⟩ := K.dep 8 rfl rfl rfl;refine zf 116 (.pointer (some ⟨g', o' + i2 * 2, none⟩)) rfl e8 ?_;exact vt (cs := #[.int .i64 x.1, .string x.2]) Tryd.underlying37 rfl sz37 rfl rfl (fun j v hj ↦ oe LE (fun h ↦ h) (hc' j v (by simpa using hj))) ⟨Below.refl _ _, Left.of rfl⟩
     · intro vs X wq K;obtain ⟨_, e4, k4⟩ := K.dep 4 rfl rfl rfl;refine zf 112 (.agg #[.int .i64 x.1, .string x.2]) rfl e4 ?_;obtain ⟨_, e9, k9⟩ := K.dep 9 rfl rfl rfl;refine zf 117 (.agg #[.int .i64 x.1, .string x.2]) rfl e9 ?_;exact ow_neqR (con_plain x.1 x.2) rfl rfl ⟨Below.refl _ _, Left.of rfl⟩
   intro vs w6 LE AO AL AF AA;have hbd : Below (w5).heap.size (w5) w6 := (((Ext.refl No (w5)).drew).trans LE).toBelow;obtain ⟨_, e10, k10⟩ := AL.2.2.2.2.2.2.2.2.2.2.1;refine vz (τ := [(2, _), (3, _), (6, _), (118, .bool false)]) ⟨rfl, rfl, rfl, congrArg some e10, trivial⟩ ?_;clear AL AF AA AO
   refine zh (qz rfl (zq (zk (zh (zp (mvx rfl (za rfl (qe rfl rfl (zy (by omega)) (avx rfl (yj ?_))))))))));exact yo (i2 + 1) (by show f.consts.length - (i2 + 1) < f.consts.length - i2; omega) ⟨rfl, rfl, rfl, trivial⟩ (⟨hlt, hE2.trans (Ext.of_below hbd No)⟩)
  ·
   refine qn (zi (zi (zx (zh (zm (srx (anx rfl (zv (qu (ι := Nat) (fun i3 => [(2, .pointer (some ⟨g2, 0, none⟩)), (3, .pointer (some ⟨g3, 0, none⟩)), (7, .int .i64 ((i3 : Nat) : Int))]) (fun i3 w' => i3 ≤ f.rgs.length ∧ Ext No wB w') (fun i3 => f.rgs.length - i3) 0 ⟨rfl, rfl, rfl, trivial⟩ (⟨Nat.zero_le _, hE2⟩) ?_)))))))))
   rintro i3 w8 ⟨hi03, hE3⟩;have B2_3 := B2.ext hE3 (fun h => h.elim);have B3_3 := B3.ext hE3 (fun h => h.elim);refine zm (srx (mvx rfl (za rfl (zb Tryd.underlying27 rfl xj (by decide) rfl (za rfl (ze Tryd.underlying25 rfl rfl B2_3 rfl (za rfl (yp Tryd.underlying25 rfl (za rfl (yy rfl rfl (rnx (zw rfl (fun hi3 => ?_) (fun hi3 => ?_)))))))))))))
   ·
    have hi := of_decide_eq_true hi3;have hlt : i3 < f.rgs.length := by omega
    obtain ⟨x, hx⟩ : ∃ x, f.rgs[i3]? = some x := ⟨_, List.getElem?_eq_getElem hlt⟩;have hz := hFB.low (X := No) ⟨hE3, fun _ h => h.elim⟩;have hz' := hFB'.low (X := No) ⟨hE3, fun _ h => h.elim⟩;obtain ⟨g, o, hA, hg, hc⟩ := hz.rgs.row.at hx;obtain ⟨g', o', hA', hg', hc'⟩ := hz'.rgs.row.at hx;refine zq (zh (zm (zv (zm ?_))))
    refine xn (No) Mut.none_ [] [] (xx [Fx.of (.pointer (some ⟨g2, 9, none⟩)),
     Fx.of (.slice p.ar f.rgs.length p.cr),
     Fx.of (.int .i64 ((i3 : Nat) : Int)),
     Fx.of (.pointer (some ⟨g, o + i3 * 4, none⟩)),
     Fx.of (.agg #[.int .i64 x.fr, .int .i64 x.to, .int .i64 x.tg, .int .i64 x.d]),
     Fx.of (.pointer (some ⟨g3, 9, none⟩)),
     Fx.of (.slice p'.ar f.rgs.length p'.cr),
     Fx.of (.int .i64 ((i3 : Nat) : Int)),
     Fx.of (.pointer (some ⟨g', o' + i3 * 4, none⟩)),
     Fx.of (.agg #[.int .i64 x.fr, .int .i64 x.to, .int .i64 x.tg, .int .i64 x.d]),
     Fx.of (.bool false)]) gn rfl trivial (fun _ h => by cases h) ?_ ?_
    · refine ⟨?_, ?_, ?_, ?_, ?_, ?_, ?_, ?_, ?_, ?_, ?_, trivial⟩
      · intro vs X wq K;exact zb Tryd.underlying27 rfl xj (by decide) rfl ⟨Below.refl _ _, Left.of rfl⟩
      · intro vs X wq K;have LE := K.1;obtain ⟨_, e0, k0⟩ := K.dep 0 rfl rfl rfl;refine zf 126 (.pointer (some ⟨g2, 9, none⟩)) rfl e0 ?_;exact ze Tryd.underlying25 rfl rfl (ve LE B2_3) rfl ⟨Below.refl _ _, Left.of rfl⟩
      · intro vs X wq K;exact zl rfl ⟨Below.refl _ _, Left.of rfl⟩
      · intro vs X wq K;obtain ⟨_, e1, k1⟩ := K.dep 1 rfl rfl rfl;refine zf 127 (.slice p.ar f.rgs.length p.cr) rfl e1 ?_;obtain ⟨_, e2, k2⟩ := K.dep 2 rfl rfl rfl;refine zf 128 (.int .i64 ((i3 : Nat) : Int)) rfl e2 ?_;exact yh (j := i3) Tryd.underlying25 xi (congrArg (fun z ↦ some (Value.slice z f.rgs.length p.cr)) hA) rfl rfl hlt ⟨Below.refl _ _, Left.of rfl⟩
      · intro vs X wq K;have LE := K.1;obtain ⟨_, e3, k3⟩ := K.dep 3 rfl rfl rfl;refine zf 129 (.pointer (some ⟨g, o + i3 * 4, none⟩)) rfl e3 ?_;exact vt (cs := (regV x).toArray) Tryd.underlying50 rfl xi rfl rfl (fun j v hj ↦ oe LE (fun h ↦ h) (hc j v (by simpa using hj))) ⟨Below.refl _ _, Left.of rfl⟩
      · intro vs X wq K;exact zb Tryd.underlying27 rfl xj (by decide) rfl ⟨Below.refl _ _, Left.of rfl⟩
      · intro vs X wq K;have LE := K.1;obtain ⟨_, e5, k5⟩ := K.dep 5 rfl rfl rfl;refine zf 131 (.pointer (some ⟨g3, 9, none⟩)) rfl e5 ?_;exact ze Tryd.underlying25 rfl rfl (ve LE B3_3) rfl ⟨Below.refl _ _, Left.of rfl⟩
      · intro vs X wq K;exact zl rfl ⟨Below.refl _ _, Left.of rfl⟩
      · intro vs X wq K;obtain ⟨_, e6, k6⟩ := K.dep 6 rfl rfl rfl;refine zf 132 (.slice p'.ar f.rgs.length p'.cr) rfl e6 ?_;obtain ⟨_, e7, k7⟩ := K.dep 7 rfl rfl rfl;refine zf 133 (.int .i64 ((i3 : Nat) : Int)) rfl e7 ?_;exact yh (j := i3) Tryd.underlying25 xi (congrArg (fun z ↦ some (Value.slice z f.rgs.length p'.cr)) hA') rfl rfl hlt ⟨Below.refl _ _, Left.of rfl⟩
      · intro vs X wq K;have LE := K.1;obtain ⟨_, e8, k8⟩ := K.dep 8 rfl rfl rfl;refine zf 134 (.pointer (some ⟨g', o' + i3 * 4, none⟩)) rfl e8 ?_;exact vt (cs := (regV x).toArray) Tryd.underlying50 rfl xi rfl rfl (fun j v hj ↦ oe LE (fun h ↦ h) (hc' j v (by simpa using hj))) ⟨Below.refl _ _, Left.of rfl⟩
      · intro vs X wq K;obtain ⟨_, e4, k4⟩ := K.dep 4 rfl rfl rfl;refine zf 130 (.agg #[.int .i64 x.fr, .int .i64 x.to, .int .i64 x.tg, .int .i64 x.d]) rfl e4 ?_;obtain ⟨_, e9, k9⟩ := K.dep 9 rfl rfl rfl;refine zf 135 (.agg #[.int .i64 x.fr, .int .i64 x.to, .int .i64 x.tg, .int .i64 x.d]) rfl e9 ?_;exact ow_neqR (reg_plain x.fr x.to x.tg x.d) rfl rfl ⟨Below.refl _ _, Left.of rfl⟩
    intro vs w9 LE AO AL AF AA;have hbd : Below (w8).heap.size (w8) w9 := (((Ext.refl No (w8)).drew).trans LE).toBelow;obtain ⟨_, e10, k10⟩ := AL.2.2.2.2.2.2.2.2.2.2.1;refine vz (τ := [(2, _), (3, _), (7, _), (136, .bool false)]) ⟨rfl, rfl, rfl, congrArg some e10, trivial⟩ ?_;clear AL AF AA AO
    refine zh (qz rfl (zq (zk (zh (zp (mvx rfl (za rfl (qe rfl rfl (zy (by omega)) (avx rfl (yj ?_))))))))));exact yo (i3 + 1) (by show f.rgs.length - (i3 + 1) < f.rgs.length - i3; omega) ⟨rfl, rfl, rfl, trivial⟩ (⟨hlt, hE3.trans (Ext.of_below hbd No)⟩)
   ·
    refine qn (zi (zi (zx (zh (zm (srx (anx rfl (zv (qu (ι := Nat) (fun i4 => [(2, .pointer (some ⟨g2, 0, none⟩)), (3, .pointer (some ⟨g3, 0, none⟩)), (8, .int .i64 ((i4 : Nat) : Int))]) (fun i4 w' => i4 ≤ f.ins.length ∧ Ext No wB w') (fun i4 => f.ins.length - i4) 0 ⟨rfl, rfl, rfl, trivial⟩ (⟨Nat.zero_le _, hE3⟩) ?_)))))))))
    rintro i4 w11 ⟨hi04, hE4⟩;have B2_4 := B2.ext hE4 (fun h => h.elim);have B3_4 := B3.ext hE4 (fun h => h.elim);refine zm (srx (mvx rfl (za rfl (zb Tryd.underlying27 rfl ju (by decide) rfl (za rfl (ze Tryd.underlying24 rfl rfl B2_4 rfl (za rfl (yp Tryd.underlying24 rfl (za rfl (yy rfl rfl (rnx (zw rfl (fun hi4 => ?_) (fun hi4 => ?_)))))))))))))
    ·
     have hi := of_decide_eq_true hi4;have hlt : i4 < f.ins.length := by omega
     obtain ⟨x, hx⟩ : ∃ x, f.ins[i4]? = some x := ⟨_, List.getElem?_eq_getElem hlt⟩;have hz := hFB.low (X := No) ⟨hE4, fun _ h => h.elim⟩;have hz' := hFB'.low (X := No) ⟨hE4, fun _ h => h.elim⟩;obtain ⟨g, o, hA, hg, hc⟩ := hz.ins.row.at hx;obtain ⟨g', o', hA', hg', hc'⟩ := hz'.ins.row.at hx;obtain ⟨_, C1, d1, _, hl1, hd1⟩ := hc;obtain ⟨_, C2, d2, _, hl2, hd2⟩ := hc'
     refine zq (zh (zm (zv (zm ?_))));refine xn (No) Mut.none_ [] [] (xx [Fx.of (.pointer (some ⟨g2, 8, none⟩)),
      Fx.of (.slice p.ai f.ins.length p.ci),
      Fx.of (.int .i64 ((i4 : Nat) : Int)),
      Fx.of (.pointer (some ⟨g, o + i4 * 7, none⟩)),
      Fx.of (.agg #[.int .i64 x.op, .int .i64 x.d, .int .i64 x.a, .int .i64 x.b, .int .i64 x.t, .int .i64 x.k, .slice C1 x.l.length d1]),
      Fx.of (.pointer (some ⟨g3, 8, none⟩)),
      Fx.of (.slice p'.ai f.ins.length p'.ci),
      Fx.of (.int .i64 ((i4 : Nat) : Int)),
      Fx.of (.pointer (some ⟨g', o' + i4 * 7, none⟩)),
      Fx.of (.agg #[.int .i64 x.op, .int .i64 x.d, .int .i64 x.a, .int .i64 x.b, .int .i64 x.t, .int .i64 x.k, .slice C2 x.l.length d2]),
      Fx.of (.bool true),
      Fx.of (.bool false)]) gn rfl trivial (fun _ h => by cases h) ?_ ?_
     · refine ⟨?_, ?_, ?_, ?_, ?_, ?_, ?_, ?_, ?_, ?_, ?_, ?_, trivial⟩
       · intro vs X wq K;exact zb Tryd.underlying27 rfl ju (by decide) rfl ⟨Below.refl _ _, Left.of rfl⟩
       · intro vs X wq K;have LE := K.1;obtain ⟨_, e0, k0⟩ := K.dep 0 rfl rfl rfl;refine zf 144 (.pointer (some ⟨g2, 8, none⟩)) rfl e0 ?_;exact ze Tryd.underlying24 rfl rfl (ve LE B2_4) rfl ⟨Below.refl _ _, Left.of rfl⟩
       · intro vs X wq K;exact zl rfl ⟨Below.refl _ _, Left.of rfl⟩
       · intro vs X wq K;obtain ⟨_, e1, k1⟩ := K.dep 1 rfl rfl rfl;refine zf 145 (.slice p.ai f.ins.length p.ci) rfl e1 ?_;obtain ⟨_, e2, k2⟩ := K.dep 2 rfl rfl rfl;refine zf 146 (.int .i64 ((i4 : Nat) : Int)) rfl e2 ?_;exact yh (j := i4) Tryd.underlying24 vv (congrArg (fun z ↦ some (Value.slice z f.ins.length p.ci)) hA) rfl rfl hlt ⟨Below.refl _ _, Left.of rfl⟩
       · intro vs X wq K;have LE := K.1;obtain ⟨_, e3, k3⟩ := K.dep 3 rfl rfl rfl;refine zf 147 (.pointer (some ⟨g, o + i4 * 7, none⟩)) rfl e3 ?_;exact vt (cs := (gh x C1 d1).toArray) Tryd.underlying41 rfl vv rfl rfl (fun j v hj ↦ oe LE (fun h ↦ h) (hd1 j v (by simpa using hj))) ⟨Below.refl _ _, Left.of rfl⟩
       · intro vs X wq K;exact zb Tryd.underlying27 rfl ju (by decide) rfl ⟨Below.refl _ _, Left.of rfl⟩
       · intro vs X wq K;have LE := K.1;obtain ⟨_, e5, k5⟩ := K.dep 5 rfl rfl rfl;refine zf 149 (.pointer (some ⟨g3, 8, none⟩)) rfl e5 ?_;exact ze Tryd.underlying24 rfl rfl (ve LE B3_4) rfl ⟨Below.refl _ _, Left.of rfl⟩
       · intro vs X wq K;exact zl rfl ⟨Below.refl _ _, Left.of rfl⟩
       · intro vs X wq K;obtain ⟨_, e6, k6⟩ := K.dep 6 rfl rfl rfl;refine zf 150 (.slice p'.ai f.ins.length p'.ci) rfl e6 ?_;obtain ⟨_, e7, k7⟩ := K.dep 7 rfl rfl rfl;refine zf 151 (.int .i64 ((i4 : Nat) : Int)) rfl e7 ?_;exact yh (j := i4) Tryd.underlying24 vv (congrArg (fun z ↦ some (Value.slice z f.ins.length p'.ci)) hA') rfl rfl hlt ⟨Below.refl _ _, Left.of rfl⟩
       · intro vs X wq K;have LE := K.1;obtain ⟨_, e8, k8⟩ := K.dep 8 rfl rfl rfl;refine zf 152 (.pointer (some ⟨g', o' + i4 * 7, none⟩)) rfl e8 ?_;exact vt (cs := (gh x C2 d2).toArray) Tryd.underlying41 rfl vv rfl rfl (fun j v hj ↦ oe LE (fun h ↦ h) (hd2 j v (by simpa using hj))) ⟨Below.refl _ _, Left.of rfl⟩
       · intro vs X wq K;have LE := K.1;obtain ⟨_, e4, k4⟩ := K.dep 4 rfl rfl rfl;refine zf 148 (.agg #[.int .i64 x.op, .int .i64 x.d, .int .i64 x.a, .int .i64 x.b, .int .i64 x.t, .int .i64 x.k, .slice C1 x.l.length d1]) rfl e4 ?_;obtain ⟨_, e9, k9⟩ := K.dep 9 rfl rfl rfl
         refine zf 153 (.agg #[.int .i64 x.op, .int .i64 x.d, .int .i64 x.a, .int .i64 x.b, .int .i64 x.t, .int .i64 x.k, .slice C2 x.l.length d2]) rfl e9 (ya en32 rfl ((same_ins _ x C1 C2 d1 d2 _ _ (hl1.low (X := No) ⟨(Ext.refl No _).drew.trans LE, fun _ h => h.elim⟩) (hl2.low (X := No) ⟨(Ext.refl No _).drew.trans LE, fun _ h => h.elim⟩)).mono ?_));rintro e w2 ⟨rfl, hb⟩
         exact ⟨_, rfl, hb, Left.of rfl⟩
       · intro vs X wq K;obtain ⟨_, e10, k10⟩ := K.dep 10 rfl rfl rfl;refine zf 154 (.bool true) rfl e10 ?_;exact ke rfl ⟨Below.refl _ _, Left.of rfl⟩
     intro vs w12 LE AO AL AF AA;have hbd : Below (w11).heap.size (w11) w12 := (((Ext.refl No (w11)).drew).trans LE).toBelow;obtain ⟨_, e11, k11⟩ := AL.2.2.2.2.2.2.2.2.2.2.2.1;refine vz (τ := [(2, _), (3, _), (8, _), (155, .bool false)]) ⟨rfl, rfl, rfl, congrArg some e11, trivial⟩ ?_;clear AL AF AA AO
     refine zh (qz rfl (zq (zk (zh (zp (mvx rfl (za rfl (qe rfl rfl (zy (by omega)) (avx rfl (yj ?_))))))))));exact yo (i4 + 1) (by show f.ins.length - (i4 + 1) < f.ins.length - i4; omega) ⟨rfl, rfl, rfl, trivial⟩ (⟨hlt, hE4.trans (Ext.of_below hbd No)⟩)
    ·
     refine qn (zi (zi (zx (zh (srx (anx rfl (yc (yb (rs := [.tmp 4]) (vs := [_]) rfl ⟨rfl, trivial⟩ ?_))))))));exact ⟨rfl, (hE.trans hE4).toBelow⟩
end
end Go.Proofs.YtppdgjlmeahimaaDoor
namespace Go.Proofs.YtppdgjlmeahimaaDoor
open Go.RowKit
set_option maxRecDepth 100000
def OkR (lo hi : Nat) (w : World) (e : TypeId) (s : Nat) (A : Option Addr) (n : Nat) : Prop := 0 < n → ∃ g cur, A = some ⟨g, 0, none⟩ ∧ Blk w g e cur ∧ n * s ≤ cur.size ∧ lo ≤ g ∧ g < hi
theorem owns_blkM {w : World} {lo s n c : Nat} {e : TypeId} {A : Option Addr} {xs : List Value} (h : w.ownsRow lo e s (.slice A n c) n xs) (h0 : 0 < n) : ∃ g cur, A = some ⟨g, 0, none⟩ ∧ Blk w g e cur ∧ n * s ≤ cur.size ∧ lo ≤ g ∧ cur.toList.take (n * s) = xs := by
 rcases h.2 with ⟨_, rfl⟩ | ⟨g, cap, cur, hv, hg, hh, hn, hm, hsz, ht⟩
 · omega
 · cases hv
   refine ⟨g, cur, rfl, hh, ?_, hg, ht⟩;have h1 := congrArg List.length ht;rw [List.length_take, h.1, Array.length_toList] at h1;omega
section
variable {lo hi : Nat} {w w' : World} {X : Nat → Prop}
theorem OkR.of {s n c : Nat} {e : TypeId} {A : Option Addr} {xs : List Value} (h : w.ownsRow lo e s (.slice A n c) n xs) (hs : w.heap.size ≤ hi) : OkR lo hi w e s A n := fun h0 => by
 obtain ⟨g, cur, hA, hb, h1, h2, _⟩ := owns_blkM h h0;exact ⟨g, cur, hA, hb, h1, h2, by have := hb.lt; omega⟩
theorem OkR.ext {e : TypeId} {s n : Nat} {A : Option Addr} (h : OkR lo hi w e s A n) (k : Ext X w w') (hX : ∀ q, lo ≤ q → q < hi → ¬ X q) : OkR lo hi w' e s A n := fun h0 => by
 obtain ⟨g, cur, hA, hb, h1, h2, h3⟩ := h h0;exact ⟨g, cur, hA, hb.ext k (hX g h2 h3), h1, h2, h3⟩
theorem blk_same {g : Nat} {e e' : TypeId} {cs cs' : Array Value} (h : Blk w g e cs) (h' : Blk w g e' cs') : e = e' ∧ cs = cs' := by
 unfold Blk at h h';rw [h] at h';injection h' with h'
 injection h' with h1 h2
 exact ⟨h2, h1⟩
theorem OkR.put {e e' : TypeId} {s n g' : Nat} {A : Option Addr} {cs cs' : Array Value} (h : OkR lo hi w e s A n) (hb : Blk w g' e' cs) (hb' : Blk w' g' e' cs') (hs : cs'.size = cs.size) (k : Ext (Mut [some g']) w w') : OkR lo hi w' e s A n := fun h0 => by
 obtain ⟨g, cur, hA, hg, h1, h2, h3⟩ := h h0;by_cases e1 : g = g'
 · subst e1;obtain ⟨rfl, rfl⟩ := blk_same hg hb;exact ⟨g, cs', hA, hb', by omega, h2, h3⟩
 · exact ⟨g, cur, hA, hg.ext k (fun hm => e1 (qb hm)), h1, h2, h3⟩
def InsJ (lo hi : Nat) (w : World) (A : Option Addr) (is : List IB) (i : Nat) : Prop := 0 < is.length → ∃ g cur, A = some ⟨g, 0, none⟩ ∧ Blk w g 41 cur ∧ is.length * 7 ≤ cur.size ∧ lo ≤ g ∧ g < hi ∧ ∀ j x, i ≤ j → is[j]? = some x → ∀ t v, (gh x.1 x.2.1 x.2.2)[t]? = some v → cur[j * 7 + t]? = some v
theorem InsJ.of {A : Option Addr} {c : Nat} {is : List IB} (h : InsO lo w A c is) (hs : w.heap.size ≤ hi) : InsJ lo hi w A is 0 := fun h0 => by
 obtain ⟨g, cur, hA, hb, h1, h2, ht⟩ := owns_blkM h.i h0;refine ⟨g, cur, hA, hb, h1, h2, by have := hb.lt; omega, fun j x _ hx t v hv => ?_⟩;have h3 := insCs_at hx hv;rw [← ht, List.getElem?_take] at h3;split at h3
 · rw [← Array.getElem?_toList]; exact h3
 · cases h3
theorem InsJ.ext {A : Option Addr} {is : List IB} {i : Nat} (h : InsJ lo hi w A is i) (k : Ext X w w') (hX : ∀ q, lo ≤ q → q < hi → ¬ X q) : InsJ lo hi w' A is i := fun h0 => by
 obtain ⟨g, cur, hA, hb, h1, h2, h3, h4⟩ := h h0;exact ⟨g, cur, hA, hb.ext k (hX g h2 h3), h1, h2, h3, h4⟩
theorem InsJ.other {A : Option Addr} {is : List IB} {i g' : Nat} {e' : TypeId} {cs : Array Value} (h : InsJ lo hi w A is i) (hb : Blk w g' e' cs) (hne : 41 ≠ e') (k : Ext (Mut [some g']) w w') : InsJ lo hi w' A is i := fun h0 => by
 obtain ⟨g, cur, hA, hg, h1, h2, h3, h4⟩ := h h0;exact ⟨g, cur, hA, hg.ext k (fun hm => hg.ne_ hb hne (qb hm)), h1, h2, h3, h4⟩
theorem InsJ.put {A : Option Addr} {is : List IB} {i g : Nat} {cur : Array Value} {vs : List Value} (h : InsJ lo hi w A is i) (hA : A = some ⟨g, 0, none⟩) (hb : Blk w g 41 cur) (hl : vs.length = 7) (hb' : Blk w' g 41 (vn cur (0 + i * 7) vs)) : InsJ lo hi w' A is (i + 1) := fun h0 => by
 obtain ⟨g2, cur2, hA2, hg, h1, h2, h3, h4⟩ := h h0;rw [hA] at hA2;cases hA2
 obtain ⟨_, rfl⟩ := blk_same hg hb;refine ⟨g, _, hA, hb', by rw [vy]; exact h1, h2, h3, fun j x hj hx t v hv => ?_⟩;rw [zbx, if_neg (by rw [hl]; omega)];exact h4 j x (by omega) hx t v hv
structure KG (lo hi : Nat) (w : World) (q : QP) (f : LFn) (i : Nat) : Prop where
 names : OkR lo hi w 9 1 q.an f.names.length
 consts : OkR lo hi w 37 2 q.ac f.consts.length
 rgs : OkR lo hi w 50 4 q.ar f.rgs.length
 l : ∀ x ∈ q.is, OkR lo hi w 3 1 x.2.1 x.1.l.length
 ins : InsJ lo hi w q.ai q.is i
variable {q : QP} {f : LFn} {i : Nat}
theorem KG.of (h : FnO lo w q f) (hs : w.heap.size ≤ hi) : KG lo hi w q f 0 := ⟨.of h.names hs, .of h.consts hs, .of h.rgs hs, fun x hx => .of (h.ins.l x hx) hs, .of h.ins hs⟩
theorem KG.ext (h : KG lo hi w q f i) (k : Ext X w w') (hX : ∀ q, lo ≤ q → q < hi → ¬ X q) : KG lo hi w' q f i := ⟨h.names.ext k hX, h.consts.ext k hX, h.rgs.ext k hX, fun x hx => (h.l x hx).ext k hX, h.ins.ext k hX⟩
theorem KG.other {g' : Nat} {e' : TypeId} {cs cs' : Array Value} (h : KG lo hi w q f i) (hb : Blk w g' e' cs) (hne : 41 ≠ e') (hb' : Blk w' g' e' cs') (hs : cs'.size = cs.size) (k : Ext (Mut [some g']) w w') : KG lo hi w' q f i :=
 ⟨h.names.put hb hb' hs k, h.consts.put hb hb' hs k, h.rgs.put hb hb' hs k, fun x hx => (h.l x hx).put hb hb' hs k, h.ins.other hb hne k⟩
theorem KG.put {g : Nat} {cur : Array Value} {vs : List Value} (h : KG lo hi w q f i) (hA : q.ai = some ⟨g, 0, none⟩) (hb : Blk w g 41 cur) (hl : vs.length = 7) (hb' : Blk w' g 41 (vn cur (0 + i * 7) vs)) (k : Ext (Mut [some g]) w w') : KG lo hi w' q f (i + 1) :=
 ⟨h.names.put hb hb' (vy _ _ _) k, h.consts.put hb hb' (vy _ _ _) k, h.rgs.put hb hb' (vy _ _ _) k, fun x hx => (h.l x hx).put hb hb' (vy _ _ _) k, h.ins.put hA hb hl hb'⟩
theorem ints_of_owns {c : Nat} {A : Option Addr} {xs : List Int} (h : w.ownsRow lo 3 1 (.slice A xs.length c) xs.length (yq xs)) (hl : 8 * xs.length ≤ 140737488355000) (hi : ∀ x ∈ xs, I64 x) : IntsA w.heap.size w A xs :=
 ⟨hl, hi, fun h0 => by
  obtain ⟨g, hA, _, hg, hc⟩ := jk h (List.length_pos_iff.2 h0);refine ⟨g, 0, hA, hg, fun j x hx => ?_⟩;rw [Nat.zero_add, Nat.mul_one];refine hc j _ ?_;unfold yq;rw [List.getElem?_map, hx]; rfl⟩
end
end Go.Proofs.YtppdgjlmeahimaaDoor
namespace Go.Proofs.YtppdgjlmeahimaaDoor
open Go.RowKit
set_option maxRecDepth 100000
attribute [local irreducible] OW RS
theorem Ext.late {a b : Nat} {w1 w2 w3 : World} (h : Ext (fun q => a ≤ q) w1 w2) (k : Ext (fun q => b ≤ q) w2 w3) (hab : a ≤ b) : Ext (fun q => a ≤ q) w1 w3 := h.step k fun q hq => Or.inl (show a ≤ q by have hq : b ≤ q := hq; omega)
theorem Ext.noL (a : Nat) {w1 w2 : World} (h : Ext No w1 w2) : Ext (fun q => a ≤ q) w1 w2 := h.mono fun _ h _ => h.elim
theorem apply_yes {w : World} {p : Pl} {f G : LFn} {n0 : Nat} (hF : FnA n0 w p f) {A : Option Addr} (c : Nat) {n1 : Nat} {m : List Int} (hm : IntsA n1 w A m) {n : Int} (hn : I64 n) (hn1 : n1 ≤ w.heap.size) (hD : DbT w) (hR :     jg f m n) (hG : G =    zex f m n) :
 Calls Tryd.prog 13 #[fnV p f, .slice A m.length c, .int .i64 n] w fun e w' => ∃ q, e = .returned (.tuple #[fnV q.pl G, .int .i64 0]) ∧ FnO w.heap.size w' q G ∧ Below w.heap.size w w' :=
 (apply_any w p f n0 hF A c n1 m hm n hn hn1 hD).mono fun e w' ⟨hb, _, h⟩ => by
  obtain ⟨q, he, hO⟩ := h hR;rw [hG];exact ⟨q, he, hO, hb⟩
theorem DbT.low {X : Nat → Prop} {w w' : World} (hD : DbT w) (h : Ext X w w') (hX : ∀ q, X q → w.heap.size ≤ q) : DbT w' := fun j y hj => Low.cell (n := w.heap.size) (X := X) ⟨h, hX⟩ (World.block_lt_of_cell? w _ (hD j y hj)) (hD j y hj)
section
variable (w : World) (p : Pl) (f : LFn) (n0 : Nat) (hF : FnA n0 w p f) (hD : DbT w)
include hF hD
theorem keeps_law : Calls Tryd.prog 7 #[fnV p f] w fun e w' => e = .returned (.bool true) ∧ Below w.heap.size w w' := by
 have hn0 := hF.size;have hnf := hF.nums;refine qw Tryd.func7 rfl Tryd.ntmps7 rfl (srx (za rfl (vd rfl ?_)));rintro g1 wA B1 E1 G1;have hF1 := hF.low (X := No) ⟨E1, fun _ h => h.elim⟩;have hD1 : DbT wA := hD.low E1 (fun _ h => h.elim);refine anx rfl (zm (srx (za rfl (ya en8 rfl ((known_any _ hD1).mono ?_)))));rintro e w1 ⟨rfl, hb⟩;refine ⟨_, rfl, ?_⟩
 have E2 := Ext.of_below hb No;have B2 : Blk w1 g1 27 (fcC f p.an p.cn p.ac p.cc p.ai f.ins.length p.ci p.ar p.cr f.rgs.length f.regs) := B1.ext E2 (fun h => h.elim);have hF2 := hF1.low (X := No) ⟨E2, fun _ h => h.elim⟩;obtain ⟨w2, hw2⟩ : ∃ w2, w2 = w1 := ⟨_, rfl⟩;subst hw2
 refine za rfl (ke rfl (rnx (qz rfl (zq (zh (srx (za rfl (yf Tryd.underlying27 rfl vq rfl B2 rfl (za rfl (ya en16 rfl ((copy_any _ p f n0 hF2).mono ?_)))))))))));rintro e w2 ⟨q0, rfl, hO3, hb⟩;refine ⟨_, rfl, ?_⟩;have E3 := Ext.of_below hb No;obtain ⟨w3, hw3⟩ : ∃ w3, w3 = w2 := ⟨_, rfl⟩;subst hw3;refine za rfl (qa zr27 ?_)
 rintro g3 w4 B30 E40 G4;refine yx (qy vq rfl rfl B30 rfl rfl rfl ?_);rintro wP B31 E41;have B3 : Blk wP g3 27 (fcC f q0.an q0.cn q0.ac q0.cc q0.ai f.ins.length q0.ci q0.ar q0.cr f.rgs.length f.regs) := B31;have E4 : Ext (fun q => w3.heap.size ≤ q) w3 wP := (E40.noL w3.heap.size).step E41 fun q hq => Or.inl (show w3.heap.size ≤ q by have := qb hq; omega);have hg3 := B3.lt
 have hs2 := E2.size;have hs1 := E1.size;have hs3 := E3.size;have hs4 := E4.size;have B1P := (B2.ext E3 (fun h => h.elim)).ext E4 (fun h => by have := B2.lt; have h : w3.heap.size ≤ g1 := h; omega);have hEP : Ext (fun q => w.heap.size ≤ q) w wP := ((E1.trans (E2.trans E3)).noL w.heap.size).late E4 (by omega)
 have hFP : FnA n0 wP p f := hF.low (X := fun q => w.heap.size ≤ q) ⟨hEP, fun q hq => by have hq : w.heap.size ≤ q := hq; omega⟩;have hDP : DbT wP := hD.low hEP (fun _ h => h);have hOP : FnO w2.heap.size wP q0 f := hO3.ext E4 (fun b hb hx => by have := hO3.bl hb; have hx : w3.heap.size ≤ b := hx; omega);have hg1P := B1P.lt
 have hB1 : ∀ {z}, Ext (fun q => wP.heap.size ≤ q) wP z → Blk z g1 27 (fcC f p.an p.cn p.ac p.cc p.ai f.ins.length p.ci p.ar p.cr f.rgs.length f.regs) := fun k => B1P.ext k (fun h => by have h : wP.heap.size ≤ g1 := h; omega)
 have hB3 : ∀ {z}, Ext (fun q => wP.heap.size ≤ q) wP z → Blk z g3 27 (fcC f q0.an q0.cn q0.ac q0.cc q0.ai f.ins.length q0.ci q0.ar q0.cr f.rgs.length f.regs) := fun k => B3.ext k (fun h => by have h : wP.heap.size ≤ g3 := h; omega)
 have hFz : ∀ {z}, Ext (fun q => wP.heap.size ≤ q) wP z → FnA n0 z p f := fun k => hFP.low (X := fun q => wP.heap.size ≤ q) ⟨k, fun q hq => by have hq : wP.heap.size ≤ q := hq; have := hEP.size; omega⟩;have hDz : ∀ {z}, Ext (fun q => wP.heap.size ≤ q) wP z → DbT z := fun k => hDP.low k (fun _ h => h)
 have hOz : ∀ {z}, Ext (fun q => wP.heap.size ≤ q) wP z → FnO w2.heap.size z q0 f := fun k => hOP.ext k (fun b hb hx => by have := hOP.bl hb; have hx : wP.heap.size ≤ b := hx; omega);have hbelow : ∀ {z}, Ext (fun q => wP.heap.size ≤ q) wP z → Below w.heap.size w z := fun k => (hEP.late k hEP.size).below (fun _ h => h)
 refine rnx (srx (za rfl (yf Tryd.underlying27 rfl vq rfl B1P rfl ?_)));by_cases hs : qp f = true
 ·
  refine za rfl (ya en11 rfl ((assign_yes hs hFP hDP).mono ?_));rintro e w3 ⟨gm, ms, n, rfl, hbm, hi64, hn64, hR, hb⟩;refine ⟨_, rfl, ?_⟩;have E6 := Ext.of_below hb No;have hms := hi64.1;obtain ⟨w6, hw6⟩ : ∃ w6, w6 = w3 := ⟨_, rfl⟩;subst hw6;obtain ⟨G, hG⟩ : ∃ G, G = zex f ms n := ⟨_, rfl⟩;have hGI : FnI G := hG ▸ place_nums hR hnf hn64
  refine mvx rfl (za rfl (qj rfl rfl (za rfl (qj rfl rfl (za rfl (qj rfl rfl (avx rfl (avx rfl (anx rfl (zm (srx (mvx rfl (za rfl (qs rfl rfl (rnx (qz rfl (zq (zh (srx (za rfl (oq Tryd.underlying28 sz3 zr3 ?_)))))))))))))))))))));rintro gB w7 B7 hb Gq;have E7 := Ext.of_below hb No;have hbm7 := hbm.ext E7 (fun h => h.elim)
  have hm7 : IntsA w7.heap.size w7 (some ⟨gm, 0, none⟩) ms := zek hbm7 hbm7.lt hms hi64.2;refine mvx rfl (za rfl (kx (base := w6.heap.size) Tryd.underlying28 inf3 rfl (by decide) rfl rfl B7 Gq E7.size (hm7.reads (Nat.le_refl _)) kf (by unfold maxLen; omega) (by omega) ?_));rintro Ap cp w8 hb Op Nq;have E8 := Ext.of_below hb No
  have hm8 := hm7.low (X := No) ⟨E8, fun _ h => h.elim⟩;have hp8 : IntsA w8.heap.size w8 Ap ms := ints_of_owns Op hms hi64.2;have hE8 : Ext (fun q => wP.heap.size ≤ q) wP w8 := (E6.trans (E7.trans E8)).noL _;have hs6 := E6.size;have hs7 := E7.size;have hs8 := E8.size
  refine anx rfl (srx (za rfl (yf Tryd.underlying27 rfl vq rfl (hB1 hE8) rfl (mvx rfl (mvx rfl (za rfl (ya en13 rfl ((apply_yes (hFz hE8) ms.length hm8 hn64 (by omega) (hDz hE8) hR hG).mono ?_))))))));rintro e w4 ⟨qg, rfl, hO9, hb⟩;refine ⟨_, rfl, ?_⟩;have E9 := Ext.of_below hb No;obtain ⟨w9, hw9⟩ : ∃ w9, w9 = w4 := ⟨_, rfl⟩;subst hw9;have hs9 := E9.size
  refine mvx rfl (za rfl (qj rfl rfl (za rfl (qj rfl rfl (za rfl (qa zr27 ?_))))));rintro g8 w9a B80 E100 G8;refine yx (qy vq rfl rfl B80 rfl rfl rfl ?_);rintro w10 B81 E101;have B8 : Blk w10 g8 27 (fcC G qg.an qg.cn qg.ac qg.cc qg.ai G.ins.length qg.ci qg.ar qg.cr G.rgs.length G.regs) := B81
  have E10 : Ext (fun q => w9.heap.size ≤ q) w9 w10 := (E100.noL w9.heap.size).step E101 fun q hq => Or.inl (show w9.heap.size ≤ q by have := qb hq; omega);have hg8 := B8.lt;have hs10 := E10.size;have hE10 := (hE8.trans (E9.noL wP.heap.size)).late E10 (by omega)
  have hmX : ∀ {z}, Ext (fun q => w8.heap.size ≤ q) w8 z → IntsA w7.heap.size z (some ⟨gm, 0, none⟩) ms := fun k => hm8.low (X := fun q => w8.heap.size ≤ q) ⟨k, fun q hq => by have hq : w8.heap.size ≤ q := hq; omega⟩;have hpX : ∀ {z}, Ext (fun q => w8.heap.size ≤ q) w8 z → IntsA w8.heap.size z Ap ms := fun k => hp8.low (X := fun q => w8.heap.size ≤ q) ⟨k, fun q hq => hq⟩
  have hOg : ∀ {z}, Ext (fun q => w9.heap.size ≤ q) w9 z → FnO w8.heap.size z qg G := fun k => hO9.ext k (fun b hb hx => by have := hO9.bl hb; have hx : w9.heap.size ≤ b := hx; omega)
  have hB8 : ∀ {z}, Ext (fun q => w10.heap.size ≤ q) w10 z → Blk z g8 27 (fcC G qg.an qg.cn qg.ac qg.cc qg.ai G.ins.length qg.ci qg.ar qg.cr G.rgs.length G.regs) := fun k => B8.ext k (fun h => by have h : w10.heap.size ≤ g8 := h; omega);have h8_10 : Ext (fun q => w8.heap.size ≤ q) w8 w10 := (E9.noL w8.heap.size).late E10 hs9;have hm10 := hmX h8_10
  refine anx rfl (srx (za rfl (yf Tryd.underlying27 rfl vq rfl (hB1 hE10) rfl (mvx rfl (mvx rfl (za rfl (ya en13 rfl ((apply_yes (hFz hE10) ms.length hm10 hn64 (by omega) (hDz hE10) hR hG).mono ?_))))))));rintro e w5 ⟨qh, rfl, hO11, hb⟩;refine ⟨_, rfl, ?_⟩;have E11 := Ext.of_below hb No;obtain ⟨w11, hw11⟩ : ∃ w11, w11 = w5 := ⟨_, rfl⟩;subst hw11;have hs11 := E11.size
  refine mvx rfl (za rfl (qj rfl rfl (za rfl (qj rfl rfl (za rfl (qa zr27 ?_))))));rintro g9 w11a B90 E120 G9;refine yx (qy vq rfl rfl B90 rfl rfl rfl ?_);rintro w12 B91 E121;have B9 : Blk w12 g9 27 (fcC G qh.an qh.cn qh.ac qh.cc qh.ai G.ins.length qh.ci qh.ar qh.cr G.rgs.length G.regs) := B91
  have E12 : Ext (fun q => w11.heap.size ≤ q) w11 w12 := (E120.noL w11.heap.size).step E121 fun q hq => Or.inl (show w11.heap.size ≤ q by have := qb hq; omega);have hg9 := B9.lt;have hs12 := E12.size;have h10_12 : Ext (fun q => w10.heap.size ≤ q) w10 w12 := (E11.noL w10.heap.size).late E12 hs11;have hE12 := hE10.late h10_12 (by omega);have h8_12 := h8_10.late h10_12 (by omega)
  have hOh : ∀ {z}, Ext (fun q => w11.heap.size ≤ q) w11 z → FnO w10.heap.size z qh G := fun k => hO11.ext k (fun b hb hx => by have := hO11.bl hb; have hx : w11.heap.size ≤ b := hx; omega)
  have hB9 : ∀ {z}, Ext (fun q => w12.heap.size ≤ q) w12 z → Blk z g9 27 (fcC G qh.an qh.cn qh.ac qh.cc qh.ai G.ins.length qh.ci qh.ar qh.cr G.rgs.length G.regs) := fun k => B9.ext k (fun h => by have h : w12.heap.size ≤ g9 := h; omega)
  refine anx rfl (zm (srx (mvx rfl (za rfl (qs rfl rfl (mvx rfl (onx rfl (zl rfl (onx rfl (qs rfl rfl (za rfl (zz rfl rfl (mvx rfl (onx rfl (zl rfl (onx rfl (zl rfl (onx rfl (ya en17 rfl ((same_ints _ (some ⟨gm, 0, none⟩) Ap ms.length cp _ _ ms (hmX h8_12) (hpX h8_12)).mono ?_))))))))))))))))))));rintro e w6 ⟨rfl, hb⟩;refine ⟨_, rfl, ?_⟩
  have E13 := Ext.of_below hb No;obtain ⟨w13, hw13⟩ : ∃ w13, w13 = w6 := ⟨_, rfl⟩;subst hw13;have hs13 := E13.size;have h10_13 := h10_12.trans (E13.noL w10.heap.size);have h9_13 : Ext (fun q => w9.heap.size ≤ q) w9 w13 := E10.late h10_13 hs10;have h11_13 : Ext (fun q => w11.heap.size ≤ q) w11 w13 := E12.trans (E13.noL _);have h12_13 : Ext (fun q => w12.heap.size ≤ q) w12 w13 := E13.noL _
  refine onx rfl (ke rfl (za rfl (zz rfl rfl (mvx rfl (onx rfl (yf Tryd.underlying27 rfl vq rfl (hB8 h10_13) rfl (onx rfl (yf Tryd.underlying27 rfl vq rfl (hB9 h12_13) rfl (onx rfl (ya en14 rfl ((oh _ G qg.pl qh.pl _ _ ((hOg h9_13).fn hGI) ((hOh h11_13).fn hGI)).mono ?_)))))))))));rintro e w7 ⟨rfl, hb⟩;refine ⟨_, rfl, ?_⟩;have E14 := Ext.of_below hb No
  obtain ⟨w14, hw14⟩ : ∃ w14, w14 = w7 := ⟨_, rfl⟩;subst hw14;have hs14 := E14.size;have hE14 := (hE12.trans (E13.noL wP.heap.size)).trans (E14.noL wP.heap.size)
  refine onx rfl (ke rfl (za rfl (zz rfl rfl (mvx rfl (onx rfl (yf Tryd.underlying27 rfl vq rfl (hB1 hE14) rfl (onx rfl (yf Tryd.underlying27 rfl vq rfl (hB3 hE14) rfl (onx rfl (ya en14 rfl ((oh _ f p q0.pl n0 _ (hFz hE14) ((hOz hE14).fn hnf)).mono ?_)))))))))));rintro e w8 ⟨rfl, hb⟩;refine ⟨_, rfl, ?_⟩;have E15 := Ext.of_below hb No
  obtain ⟨w15, hw15⟩ : ∃ w15, w15 = w8 := ⟨_, rfl⟩;subst hw15;have hs15 := E15.size;have h12_15 : Ext (fun q => w12.heap.size ≤ q) w12 w15 := (h12_13.trans (E14.noL _)).trans (E15.noL _);have h11_15 : Ext (fun q => w11.heap.size ≤ q) w11 w15 := (h11_13.trans (E14.noL _)).trans (E15.noL _)
  refine onx rfl (ke rfl (za rfl (zz rfl rfl (rnx (qz rfl (zq (zh (srx (za rfl (yf Tryd.underlying27 rfl vq rfl (hB9 h12_15) rfl (za rfl (ya en16 rfl ((copy_any _ qh.pl G _ ((hOh h11_15).fn hGI)).mono ?_)))))))))))));rintro e w9 ⟨qc, rfl, hO16, hb⟩;refine ⟨_, rfl, ?_⟩;have E16 := Ext.of_below hb No;obtain ⟨w16, hw16⟩ : ∃ w16, w16 = w9 := ⟨_, rfl⟩
  subst hw16;have hs16 := E16.size;refine za rfl (qa zr27 ?_);rintro g11 w16a B110 E170 G11;refine yx (qy vq rfl rfl B110 rfl rfl rfl ?_);rintro wD B111 E171;have B11 : Blk wD g11 27 (fcC G qc.an qc.cn qc.ac qc.cc qc.ai G.ins.length qc.ci qc.ar qc.cr G.rgs.length G.regs) := B111
  have E17 : Ext (fun q => w16.heap.size ≤ q) w16 wD := (E170.noL w16.heap.size).step E171 fun q hq => Or.inl (show w16.heap.size ≤ q by have := qb hq; omega);have hg11 := B11.lt;have hs17 := E17.size;have h12_D : Ext (fun q => w12.heap.size ≤ q) w12 wD := (h12_15.trans (E16.noL _)).late E17 (by omega)
  have h11_D : Ext (fun q => w11.heap.size ≤ q) w11 wD := (h11_15.trans (E16.noL _)).late E17 (by omega);have h10_D : Ext (fun q => w10.heap.size ≤ q) w10 wD := h10_12.late h12_D (by omega);have h9_D : Ext (fun q => w9.heap.size ≤ q) w9 wD := E10.late h10_D (by omega);have hED : Ext (fun q => wP.heap.size ≤ q) wP wD := hE12.late h12_D (by omega)
  have hOc : FnO w15.heap.size wD qc G := hO16.ext E17 (fun b hb hx => by have := hO16.bl hb; have hx : w16.heap.size ≤ b := hx; omega);have hOhD := hOh h11_D;have B8D := hB8 h10_D;have B9D := hB9 h12_D;obtain ⟨lo, hlo⟩ : ∃ lo, lo = w8.heap.size := ⟨_, rfl⟩;obtain ⟨hi, hhi⟩ : ∃ hi, hi = w9.heap.size := ⟨_, rfl⟩;have KD : KG lo hi wD qg G 0 := by
   rw [hlo, hhi];exact (KG.of hO9 (Nat.le_refl _)).ext h9_D (fun q _ h hx => by have hx : w9.heap.size ≤ q := hx; omega)
  have hisl : qg.is.length = G.ins.length := by rw [← hO9.ise, List.length_map]
  have hB8L : ∀ {z}, Ext (fun q => lo ≤ q ∧ q < hi) wD z → Blk z g8 27 (fcC G qg.an qg.cn qg.ac qg.cc qg.ai G.ins.length qg.ci qg.ar qg.cr G.rgs.length G.regs) := fun k => B8D.ext k (fun h => by have h : lo ≤ g8 ∧ g8 < hi := h; omega);have hGil := hGI.il;have hGnl := hGI.nl;have hGcl := hGI.cl;have hGrl := hGI.rl
  refine rnx (zm (srx (anx rfl (zv (qu (ι := Nat) (fun i => [(1, .pointer (some ⟨g1, 0, none⟩)), (3, .pointer (some ⟨g3, 0, none⟩)), (8, .pointer (some ⟨g8, 0, none⟩)), (9, .pointer (some ⟨g9, 0, none⟩)), (11, .pointer (some ⟨g11, 0, none⟩)), (12, .int .i64 ((i : Nat) : Int))]) (fun i w' => i ≤ G.ins.length ∧ Ext (fun q => lo ≤ q ∧ q < hi) wD w' ∧ KG lo hi w' qg G i) (fun i => G.ins.length - i) 0 ⟨rfl, rfl, rfl, rfl, rfl, rfl, trivial⟩ (⟨Nat.zero_le _, Ext.refl _ _, KD⟩) ?_)))))
  rintro i w11 ⟨hi0, hEi, Ki⟩;refine zm (srx (mvx rfl (za rfl (zb Tryd.underlying27 rfl ju (by decide) rfl (za rfl (ze Tryd.underlying24 rfl rfl (hB8L hEi) rfl (za rfl (yp Tryd.underlying24 rfl (za rfl (yy rfl rfl (rnx (zw rfl (fun hc => ?_) (fun hc => ?_)))))))))))))
  ·
   have hc := of_decide_eq_true hc;have hlt : i < G.ins.length := by omega
   obtain ⟨x, hx⟩ : ∃ x, qg.is[i]? = some x := ⟨_, List.getElem?_eq_getElem (by omega)⟩;have hxm := List.mem_of_getElem? hx;have hxl : 8 * x.1.l.length ≤ 140737488351232 := (hGI.ii x.1 (by rw [← hO9.ise]; exact List.mem_map_of_mem hxm)).2.1
   refine zq (zh (zm (zv (zm (srx (anx rfl (zv (qu (ι := Nat) (fun k => [(1, .pointer (some ⟨g1, 0, none⟩)), (3, .pointer (some ⟨g3, 0, none⟩)), (8, .pointer (some ⟨g8, 0, none⟩)), (9, .pointer (some ⟨g9, 0, none⟩)), (11, .pointer (some ⟨g11, 0, none⟩)), (12, .int .i64 ((i : Nat) : Int)), (13, .int .i64 ((k : Nat) : Int))]) (fun k w' => k ≤ x.1.l.length ∧ Ext (fun q => lo ≤ q ∧ q < hi) wD w' ∧ KG lo hi w' qg G i) (fun k => x.1.l.length - k) 0 ⟨rfl, rfl, rfl, rfl, rfl, rfl, rfl, trivial⟩ (⟨Nat.zero_le _, hEi, Ki⟩) ?_))))))))
   rintro k w13 ⟨hk0, hEk, Kk⟩;obtain ⟨gI, cur, hA, hBI, hsz, hloI, hhiI, hcur⟩ := Kk.ins (by omega);have hcL := hcur i x (Nat.le_refl _) hx 6 (.slice x.2.1 x.1.l.length x.2.2) rfl
   refine zm (srx (mvx rfl (za rfl (zb Tryd.underlying27 rfl ju (by decide) rfl (za rfl (ze Tryd.underlying24 rfl rfl (hB8L hEk) rfl (mvx rfl (za rfl (yh (j := i) Tryd.underlying24 vv (congrArg (fun z ↦ some (Value.slice z G.ins.length qg.ci)) hA) rfl rfl hlt (za rfl (zb Tryd.underlying41 rfl ziz (by decide) rfl (za rfl (ze Tryd.underlying28 rfl rfl hBI (by rw [Nat.zero_add]; exact hcL) (za rfl (yp Tryd.underlying28 rfl (za rfl (yy rfl rfl (rnx (zw rfl (fun hk => ?_) (fun hk => ?_))))))))))))))))))))
   ·
    have hk := of_decide_eq_true hk;have hkl : k < x.1.l.length := by omega
    obtain ⟨gL, cuL, hAL, hBL, hszL, hloL, hhiL⟩ := Kk.l x hxm (by omega)
    refine zq (zh (zm (zv (zp (za rfl (zb Tryd.underlying27 rfl ju (by decide) rfl (za rfl (ze Tryd.underlying24 rfl rfl (hB8L hEk) rfl (mvx rfl (za rfl (yh (j := i) Tryd.underlying24 vv (congrArg (fun z ↦ some (Value.slice z G.ins.length qg.ci)) hA) rfl rfl hlt (za rfl (zb Tryd.underlying41 rfl ziz (by decide) rfl (za rfl (ze Tryd.underlying28 rfl rfl hBI (by rw [Nat.zero_add]; exact hcL) (mvx rfl (za rfl (zj (j := k) Tryd.underlying28 sz3 (congrArg (fun z ↦ some (Value.slice z x.1.l.length x.2.2)) hAL) rfl rfl hkl (yx (yr (cs' := cuL.setIfInBounds (0 + k) (.int .i64 (-1))) sz3 rfl rfl hBL rfl rfl (by omega) rfl ?_))))))))))))))))))))
    rintro wS bS ES;refine yj (zk (zh (zp (mvx rfl (za rfl (qe rfl rfl (zy (by omega)) (avx rfl (yj ?_))))))))
    exact yo (k + 1) (by show x.1.l.length - (k + 1) < x.1.l.length - k; omega) ⟨rfl, rfl, rfl, rfl, rfl, rfl, rfl, trivial⟩ (⟨hkl, hEk.step ES (fun q hq => Or.inl (show lo ≤ q ∧ q < hi by have := qb hq; omega)), Kk.other hBL (by decide) bS (Array.size_setIfInBounds ..) ES⟩)
   ·
    refine qn (zi (zi (zx (zh (zp (za rfl (zb Tryd.underlying27 rfl ju (by decide) rfl (za rfl (ze Tryd.underlying24 rfl rfl (hB8L hEk) rfl (mvx rfl (za rfl (jn (cs := #[.int .i64 (-1), .int .i64 0, .int .i64 0, .int .i64 0, .int .i64 0, .int .i64 0, .slice none 0 0]) pl41 zix rfl rfl (za rfl (yh (j := i) Tryd.underlying24 vv (congrArg (fun z ↦ some (Value.slice z G.ins.length qg.ci)) hA) rfl rfl hlt (yx (va vv rfl rfl hBI rfl rfl (by omega) ?_))))))))))))))))
    rintro wS bS ES;refine yj (zk (zh (zp (mvx rfl (za rfl (qe rfl rfl (zy (by omega)) (avx rfl (yj ?_))))))));exact yo (i + 1) (by show G.ins.length - (i + 1) < G.ins.length - i; omega) ⟨rfl, rfl, rfl, rfl, rfl, rfl, trivial⟩ (⟨hlt, hEk.step ES (fun q hq => Or.inl (show lo ≤ q ∧ q < hi by have := qb hq; omega)), Kk.put hA hBI rfl bS ES⟩)
  ·
   refine qn (zi (zi (zx (zh (zm (srx (anx rfl (zv (qu (ι := Nat) (fun j1 => [(1, .pointer (some ⟨g1, 0, none⟩)), (3, .pointer (some ⟨g3, 0, none⟩)), (8, .pointer (some ⟨g8, 0, none⟩)), (9, .pointer (some ⟨g9, 0, none⟩)), (11, .pointer (some ⟨g11, 0, none⟩)), (14, .int .i64 ((j1 : Nat) : Int))]) (fun j1 w' => j1 ≤ G.names.length ∧ Ext (fun q => lo ≤ q ∧ q < hi) wD w' ∧ KG lo hi w' qg G i) (fun j1 => G.names.length - j1) 0 ⟨rfl, rfl, rfl, rfl, rfl, rfl, trivial⟩ (⟨Nat.zero_le _, hEi, Ki⟩) ?_)))))))))
   rintro j1 w15 ⟨hj1, hE1, K1⟩;refine zm (srx (mvx rfl (za rfl (zb Tryd.underlying27 rfl sz22 (by decide) rfl (za rfl (ze Tryd.underlying22 rfl rfl (hB8L hE1) rfl (za rfl (yp Tryd.underlying22 rfl (za rfl (yy rfl rfl (rnx (zw rfl (fun hc1 => ?_) (fun hc1 => ?_)))))))))))))
   ·
    have hc := of_decide_eq_true hc1;have hlt : j1 < G.names.length := by omega
    obtain ⟨gI, cur, hA, hBI, hsz, hloI, hhiI⟩ := K1.names (by omega)
    refine zq (zh (zm (zv (zp (za rfl (zb Tryd.underlying27 rfl sz22 (by decide) rfl (za rfl (ze Tryd.underlying22 rfl rfl (hB8L hE1) rfl (mvx rfl (za rfl (zj (j := j1) Tryd.underlying22 sz9 (congrArg (fun z ↦ some (Value.slice z G.names.length qg.cn)) hA) rfl rfl hlt (yx (yr (cs' := cur.setIfInBounds (0 + j1) (.string ⟨#[63]⟩)) sz9 rfl rfl hBI rfl rfl (by omega) rfl ?_)))))))))))))
    rintro wS bS ES;refine yj (zk (zh (zp (mvx rfl (za rfl (qe rfl rfl (zy (by omega)) (avx rfl (yj ?_))))))))
    exact yo (j1 + 1) (by show G.names.length - (j1 + 1) < G.names.length - j1; omega) ⟨rfl, rfl, rfl, rfl, rfl, rfl, trivial⟩ (⟨hlt, hE1.step ES (fun q hq => Or.inl (show lo ≤ q ∧ q < hi by have := qb hq; omega)), K1.other hBI (by decide) bS (Array.size_setIfInBounds ..) ES⟩)
   ·
    refine qn (zi (zi (zx (zh (zm (srx (anx rfl (zv (qu (ι := Nat) (fun j2 => [(1, .pointer (some ⟨g1, 0, none⟩)), (3, .pointer (some ⟨g3, 0, none⟩)), (8, .pointer (some ⟨g8, 0, none⟩)), (9, .pointer (some ⟨g9, 0, none⟩)), (11, .pointer (some ⟨g11, 0, none⟩)), (15, .int .i64 ((j2 : Nat) : Int))]) (fun j2 w' => j2 ≤ G.consts.length ∧ Ext (fun q => lo ≤ q ∧ q < hi) wD w' ∧ KG lo hi w' qg G i) (fun j2 => G.consts.length - j2) 0 ⟨rfl, rfl, rfl, rfl, rfl, rfl, trivial⟩ (⟨Nat.zero_le _, hE1, K1⟩) ?_)))))))))
    rintro j2 w17 ⟨hj2, hE2, K2⟩;refine zm (srx (mvx rfl (za rfl (zb Tryd.underlying27 rfl sz23 (by decide) rfl (za rfl (ze Tryd.underlying23 rfl rfl (hB8L hE2) rfl (za rfl (yp Tryd.underlying23 rfl (za rfl (yy rfl rfl (rnx (zw rfl (fun hc2 => ?_) (fun hc2 => ?_)))))))))))))
    ·
     have hc := of_decide_eq_true hc2;have hlt : j2 < G.consts.length := by omega
     obtain ⟨gI, cur, hA, hBI, hsz, hloI, hhiI⟩ := K2.consts (by omega)
     refine zq (zh (zm (zv (zp (za rfl (zb Tryd.underlying27 rfl sz23 (by decide) rfl (za rfl (ze Tryd.underlying23 rfl rfl (hB8L hE2) rfl (mvx rfl (za rfl (jn (cs := #[.int .i64 0, .string ⟨#[]⟩]) pl37 zr37 rfl rfl (za rfl (yh (j := j2) Tryd.underlying23 sz37 (congrArg (fun z ↦ some (Value.slice z G.consts.length qg.cc)) hA) rfl rfl hlt (yx (va sz37 rfl rfl hBI rfl rfl (by omega) ?_)))))))))))))))
     rintro wS bS ES;refine yj (zk (zh (zp (mvx rfl (za rfl (qe rfl rfl (zy (by omega)) (avx rfl (yj ?_))))))))
     exact yo (j2 + 1) (by show G.consts.length - (j2 + 1) < G.consts.length - j2; omega) ⟨rfl, rfl, rfl, rfl, rfl, rfl, trivial⟩ (⟨hlt, hE2.step ES (fun q hq => Or.inl (show lo ≤ q ∧ q < hi by have := qb hq; omega)), K2.other hBI (by decide) bS (vy _ _ _) ES⟩)
    ·
     refine qn (zi (zi (zx (zh (zm (srx (anx rfl (zv (qu (ι := Nat) (fun j3 => [(1, .pointer (some ⟨g1, 0, none⟩)), (3, .pointer (some ⟨g3, 0, none⟩)), (8, .pointer (some ⟨g8, 0, none⟩)), (9, .pointer (some ⟨g9, 0, none⟩)), (11, .pointer (some ⟨g11, 0, none⟩)), (16, .int .i64 ((j3 : Nat) : Int))]) (fun j3 w' => j3 ≤ G.rgs.length ∧ Ext (fun q => lo ≤ q ∧ q < hi) wD w' ∧ KG lo hi w' qg G i) (fun j3 => G.rgs.length - j3) 0 ⟨rfl, rfl, rfl, rfl, rfl, rfl, trivial⟩ (⟨Nat.zero_le _, hE2, K2⟩) ?_)))))))))
     rintro j3 w19 ⟨hj3, hE3, K3⟩;refine zm (srx (mvx rfl (za rfl (zb Tryd.underlying27 rfl xj (by decide) rfl (za rfl (ze Tryd.underlying25 rfl rfl (hB8L hE3) rfl (za rfl (yp Tryd.underlying25 rfl (za rfl (yy rfl rfl (rnx (zw rfl (fun hc3 => ?_) (fun hc3 => ?_)))))))))))))
     ·
      have hc := of_decide_eq_true hc3;have hlt : j3 < G.rgs.length := by omega
      obtain ⟨gI, cur, hA, hBI, hsz, hloI, hhiI⟩ := K3.rgs (by omega)
      refine zq (zh (zm (zv (zp (za rfl (zb Tryd.underlying27 rfl xj (by decide) rfl (za rfl (ze Tryd.underlying25 rfl rfl (hB8L hE3) rfl (mvx rfl (za rfl (jn (cs := #[.int .i64 (-1), .int .i64 0, .int .i64 0, .int .i64 0]) pl50 zr50 rfl rfl (za rfl (yh (j := j3) Tryd.underlying25 xi (congrArg (fun z ↦ some (Value.slice z G.rgs.length qg.cr)) hA) rfl rfl hlt (yx (va xi rfl rfl hBI rfl rfl (by omega) ?_)))))))))))))))
      rintro wS bS ES;refine yj (zk (zh (zp (mvx rfl (za rfl (qe rfl rfl (zy (by omega)) (avx rfl (yj ?_))))))))
      exact yo (j3 + 1) (by show G.rgs.length - (j3 + 1) < G.rgs.length - j3; omega) ⟨rfl, rfl, rfl, rfl, rfl, rfl, trivial⟩ (⟨hlt, hE3.step ES (fun q hq => Or.inl (show lo ≤ q ∧ q < hi by have := qb hq; omega)), K3.other hBI (by decide) bS (vy _ _ _) ES⟩)
     ·
      obtain ⟨wZ, hwZ⟩ : ∃ wZ, wZ = w19 := ⟨_, rfl⟩;subst hwZ;have hEZ : Ext (fun q => wP.heap.size ≤ q) wP wZ := hED.step hE3 (fun q hq => Or.inl (show wP.heap.size ≤ q by have hq : lo ≤ q ∧ q < hi := hq; omega));have hOhZ := hOhD.ext hE3 (fun b hb hx => by have := hOhD.bl hb; have hx : lo ≤ b ∧ b < hi := hx; omega)
      have hOcZ := hOc.ext hE3 (fun b hb hx => by have := hOc.bl hb; have hx : lo ≤ b ∧ b < hi := hx; omega);have B9Z := B9D.ext hE3 (fun h => by have h : lo ≤ g9 ∧ g9 < hi := h; omega);have B11Z := B11.ext hE3 (fun h => by have h : lo ≤ g11 ∧ g11 < hi := h; omega)
      refine qn (zi (zi (zx (zh (srx (za rfl (yf Tryd.underlying27 rfl vq rfl B9Z rfl (za rfl (yf Tryd.underlying27 rfl vq rfl B11Z rfl (za rfl (ya en14 rfl ((oh _ G qh.pl qc.pl _ _ (hOhZ.fn hGI) (hOcZ.fn hGI)).mono ?_))))))))))));rintro e w20 ⟨rfl, hb⟩;refine ⟨_, rfl, ?_⟩;have EY := Ext.of_below hb No
      have hEY := hEZ.trans (EY.noL _);refine mvx rfl (onx rfl (yf Tryd.underlying27 rfl vq rfl (hB1 hEY) rfl (onx rfl (yf Tryd.underlying27 rfl vq rfl (hB3 hEY) rfl (onx rfl (ya en14 rfl ((oh _ f p q0.pl n0 _ (hFz hEY) ((hOz hEY).fn hnf)).mono ?_)))))));rintro e w21 ⟨rfl, hb⟩
      refine ⟨_, rfl, (za rfl (zr rfl rfl (anx rfl (yc (yb (rs := [.tmp 2]) (vs := [_]) rfl ⟨rfl, trivial⟩ ?_)))))⟩;exact ⟨rfl, hbelow (hEY.trans ((Ext.of_below hb No).noL _))⟩
 ·
  have hs : qp f = false := by simpa using hs
  refine za rfl (ya en11 rfl ((assign_no hs hFP hDP).mono ?_));rintro e w22 ⟨rfl, hb⟩;refine ⟨_, rfl, ?_⟩;have hE6 : Ext (fun q => wP.heap.size ≤ q) wP w22 := (Ext.of_below hb No).noL _
  refine mvx rfl (za rfl (qj rfl rfl (za rfl (qj rfl rfl (za rfl (qj rfl rfl (avx rfl (avx rfl (anx rfl (zm (srx (mvx rfl (za rfl (qs rfl rfl (rnx (qq rfl (srx (za rfl (yf Tryd.underlying27 rfl vq rfl (hB1 hE6) rfl (za rfl (yf Tryd.underlying27 rfl vq rfl (hB3 hE6) rfl (za rfl (ya en14 rfl ((oh _ f p q0.pl n0 _ (hFz hE6) ((hOz hE6).fn hnf)).mono ?_))))))))))))))))))))))))
  rintro e w23 ⟨rfl, hb⟩;refine ⟨_, rfl, (anx rfl (yc (zd (yb (rs := [.tmp 2]) (vs := [_]) rfl ⟨rfl, trivial⟩ ?_))))⟩;exact ⟨rfl, hbelow (hE6.trans ((Ext.of_below hb No).noL _))⟩
end
end Go.Proofs.YtppdgjlmeahimaaDoor

/- Texts of this claim. -/
import Derived.Test.YtaleikoeklemmaaGreatDoorA17
namespace Go.Proofs.YtaleikoeklemmaaGreatDoor
open Go.RowKit
set_option maxRecDepth 100000
attribute [local irreducible] OW RS
theorem ybv {f : FuncId} {args : Array Value} {w : World} {a b : Bool} (e : a = b) (h : Calls Tryz.prog f args w fun e w' => e = .returned (.bool a) ∧ Below w.heap.size w w') : Calls Tryz.prog f args w fun e w' => e = .returned (.bool b) ∧ Below w.heap.size w w' := by
 subst e;exact h
theorem yd {w : World} {g : Nat} {t : TypeId} {cs : Array Value} (h : Blk w g t cs) : ∀ (j : Nat) (v : Value), cs[j]? = some v → w.cell? ⟨g, 0 + j, none⟩ = some v := fun j v hj => by rw [Nat.zero_add]; exact (h.cell j).trans hj
theorem ycq (w : World) (ua : PV) (A1 B1 : Option Addr) (c1 d1 : Nat) (hx : Nums w A1 ua.xs) (hl : ua.xs.length ≤ 9223372036854775807) (r : Bool) (hr : PV.good ua = r) : Calls Tryz.prog 15 #[.agg #[.int .i64 ua.k, .bool ua.yes, .bool ua.neg, .slice A1 ua.xs.length c1, .int .u64 ((ua.bits : Nat) : Int), .string ua.s, .slice B1 ua.ni d1]] w fun e w' => e = .returned (.bool r) ∧ Below w.heap.size w w' := by
 subst hr;exact rpgood_any w ua.k ua.yes ua.neg A1 B1 ua.xs c1 ua.bits ua.ni d1 ua.s hx hl
section
variable (w : World) (ua ub : PV) (A1 B1 A2 B2 : Option Addr) (c1 d1 c2 d2 : Nat) (hx : Nums w A1 ua.xs) (hl : ua.xs.length ≤ 9223372036854775807) (ha : ua.bits < 18446744073709551616) (hy : Nums w A2 ub.xs) (hl' : ub.xs.length ≤ 9223372036854775807) (hb0 : ub.bits < 18446744073709551616)
include hx hl
theorem pt0 (g1 : ua.good = false) : Calls Tryz.prog 14 #[.agg #[.int .i64 ua.k, .bool ua.yes, .bool ua.neg, .slice A1 ua.xs.length c1, .int .u64 ((ua.bits : Nat) : Int), .string ua.s, .slice B1 ua.ni d1]] w fun e w' => e = .returned (.bool (vo ua)) ∧ Below w.heap.size w w' := by
 refine zr Tryz.func14 rfl Tryz.ntmps14 rfl ?_;have HF : Per (No) w (fun _ => True) := Per.true_;have LW := erx (No) w;have XLW := grx (No) w;have E := erx (No) w;replace HF := HF.on E;replace LW := LW.step E XLW;replace E := erx (No) w;replace HF := HF.and (Per.nums0 hx);refine srx (za rfl (zx rfl ?_));intro gb1 w2 Bb1 Eb1 Gb1;have Gb1 : _ ≤ gb1 := Nat.le_trans E.size Gb1
 have GLb1 := Nat.le_trans LW.size Gb1;replace E := E.trans Eb1.no;replace HF := HF.cons (zi Gb1);replace E := E.cons (some gb1);replace XLW := Mut.grow XLW (fun k e => Or.inr (Nat.le_trans LW.size ((zi Gb1) k e)));replace HF := HF.on E;replace LW := LW.step E XLW;have SB : ∀ q9, No q9 → Mut [(some gb1)] q9 := (Mut.skip Mut.nil_);replace HF := HF.less SB
 replace XLW := fun k h => XLW k (SB k h);clear SB;replace E := erx (No) w2;replace HF := HF.and (Per.blkN Bb1 NotIn.nil);refine anx rfl (zj (srx (za rfl (zo Tryz.underlying28 rfl yk rfl (HF.on E).here.2 rfl (za rfl (zd jg rfl ((yu _ ua A1 B1 c1 d1 (HF.on E).here.1.2 hl false g1).mono ?_)))))));rintro e w3 ⟨rfl, hb⟩;refine ⟨_, rfl, ?_⟩;replace E := blx E hb
 refine za rfl (yf rfl (rnx (yc rfl (srx (anx rfl (zm (zg (zl (rs := [.tmp 2]) (vs := [_]) rfl ⟨rfl, trivial⟩ ?_))))))));exact ⟨by unfold vo; rw [g1]; rfl, (LW.step E XLW).toBelow⟩
theorem pt1 (g1 : ua.good = true) (h1 : ua.k = 1) : Calls Tryz.prog 14 #[.agg #[.int .i64 ua.k, .bool ua.yes, .bool ua.neg, .slice A1 ua.xs.length c1, .int .u64 ((ua.bits : Nat) : Int), .string ua.s, .slice B1 ua.ni d1]] w fun e w' => e = .returned (.bool (vo ua)) ∧ Below w.heap.size w w' := by
 refine zr Tryz.func14 rfl Tryz.ntmps14 rfl ?_;have HF : Per (No) w (fun _ => True) := Per.true_;have LW := erx (No) w;have XLW := grx (No) w;have E := erx (No) w;replace HF := HF.on E;replace LW := LW.step E XLW;replace E := erx (No) w;replace HF := HF.and (Per.nums0 hx);refine srx (za rfl (zx rfl ?_));intro gb1 w2 Bb1 Eb1 Gb1;have Gb1 : _ ≤ gb1 := Nat.le_trans E.size Gb1
 have GLb1 := Nat.le_trans LW.size Gb1;replace E := E.trans Eb1.no;replace HF := HF.cons (zi Gb1);replace E := E.cons (some gb1);replace XLW := Mut.grow XLW (fun k e => Or.inr (Nat.le_trans LW.size ((zi Gb1) k e)));replace HF := HF.on E;replace LW := LW.step E XLW;have SB : ∀ q9, No q9 → Mut [(some gb1)] q9 := (Mut.skip Mut.nil_);replace HF := HF.less SB
 replace XLW := fun k h => XLW k (SB k h);clear SB;replace E := erx (No) w2;replace HF := HF.and (Per.blkN Bb1 NotIn.nil);refine anx rfl (zj (srx (za rfl (zo Tryz.underlying28 rfl yk rfl (HF.on E).here.2 rfl (za rfl (zd jg rfl ((yu _ ua A1 B1 c1 d1 (HF.on E).here.1.2 hl true g1).mono ?_)))))));rintro e w3 ⟨rfl, hb⟩;refine ⟨_, rfl, ?_⟩;replace E := blx E hb
 refine za rfl (yf rfl (rnx (zp rfl (zq (zk (zj (srx (za rfl (zb Tryz.underlying28 rfl sz3 (by decide) rfl (za rfl (zf Tryz.underlying3 rfl rfl (HF.on E).here.2 rfl (rnx (yi (srx (za rfl (ya rfl rfl (anx rfl (zu 8 (.bool true) rfl ((by simp [h1] : (.bool (ua.k == 1) : Value) = _)) (yc rfl (srx (za rfl (zb Tryz.underlying28 rfl sz4 (by decide) rfl (za rfl (zf Tryz.underlying4 rfl rfl (HF.on E).here.2 rfl (anx rfl (zm (zv (zg (zl (rs := [.tmp 2]) (vs := [_]) rfl ⟨rfl, trivial⟩ ?_)))))))))))))))))))))))))))))
 exact ⟨by unfold vo; rw [g1, if_pos rfl, if_pos h1]; rfl, (LW.step E XLW).toBelow⟩
theorem pt2 (g1 : ua.good = true) (h1 : ¬ ua.k = 1) (h2 : ua.k = 2) : Calls Tryz.prog 14 #[.agg #[.int .i64 ua.k, .bool ua.yes, .bool ua.neg, .slice A1 ua.xs.length c1, .int .u64 ((ua.bits : Nat) : Int), .string ua.s, .slice B1 ua.ni d1]] w fun e w' => e = .returned (.bool (vo ua)) ∧ Below w.heap.size w w' := by
 refine zr Tryz.func14 rfl Tryz.ntmps14 rfl ?_;have HF : Per (No) w (fun _ => True) := Per.true_;have LW := erx (No) w;have XLW := grx (No) w;have E := erx (No) w;replace HF := HF.on E;replace LW := LW.step E XLW;replace E := erx (No) w;replace HF := HF.and (Per.nums0 hx);refine srx (za rfl (zx rfl ?_));intro gb1 w2 Bb1 Eb1 Gb1;have Gb1 : _ ≤ gb1 := Nat.le_trans E.size Gb1
 have GLb1 := Nat.le_trans LW.size Gb1;replace E := E.trans Eb1.no;replace HF := HF.cons (zi Gb1);replace E := E.cons (some gb1);replace XLW := Mut.grow XLW (fun k e => Or.inr (Nat.le_trans LW.size ((zi Gb1) k e)));replace HF := HF.on E;replace LW := LW.step E XLW;have SB : ∀ q9, No q9 → Mut [(some gb1)] q9 := (Mut.skip Mut.nil_);replace HF := HF.less SB
 replace XLW := fun k h => XLW k (SB k h);clear SB;replace E := erx (No) w2;replace HF := HF.and (Per.blkN Bb1 NotIn.nil);refine anx rfl (zj (srx (za rfl (zo Tryz.underlying28 rfl yk rfl (HF.on E).here.2 rfl (za rfl (zd jg rfl ((yu _ ua A1 B1 c1 d1 (HF.on E).here.1.2 hl true g1).mono ?_)))))));rintro e w3 ⟨rfl, hb⟩;refine ⟨_, rfl, ?_⟩;replace E := blx E hb
 refine za rfl (yf rfl (rnx (zp rfl (zq (zk (zj (srx (za rfl (zb Tryz.underlying28 rfl sz3 (by decide) rfl (za rfl (zf Tryz.underlying3 rfl rfl (HF.on E).here.2 rfl (rnx (yi (srx (za rfl (ya rfl rfl (anx rfl (zu 8 (.bool false) rfl ((by simp [h1] : (.bool (ua.k == 1) : Value) = _)) (zp rfl (srx (za rfl (ya rfl rfl (anx rfl (zu 12 (.bool true) rfl ((by simp [h2] : (.bool (ua.k == 2) : Value) = _)) (yc rfl (srx (za rfl (zb Tryz.underlying28 rfl yy (by decide) rfl (za rfl (zb Tryz.underlying24 rfl zfk (by decide) rfl (za rfl (zf Tryz.underlying22 rfl rfl (HF.on E).here.2 rfl (za rfl (vq Tryz.underlying22 rfl (za rfl (gg rfl rfl (anx rfl ?_)))))))))))))))))))))))))))))))))))))
 refine zm (zv (zg (zl (rs := [.tmp 2]) (vs := [_]) rfl ⟨rfl, trivial⟩ ?_)));exact ⟨by unfold vo; rw [g1, if_pos rfl, if_neg h1, if_pos h2]; rfl, (LW.step E XLW).toBelow⟩
theorem pt3 (g1 : ua.good = true) (h1 : ¬ ua.k = 1) (h2 : ¬ ua.k = 2) (h3 : ua.k = 3) : Calls Tryz.prog 14 #[.agg #[.int .i64 ua.k, .bool ua.yes, .bool ua.neg, .slice A1 ua.xs.length c1, .int .u64 ((ua.bits : Nat) : Int), .string ua.s, .slice B1 ua.ni d1]] w fun e w' => e = .returned (.bool (vo ua)) ∧ Below w.heap.size w w' := by
 refine zr Tryz.func14 rfl Tryz.ntmps14 rfl ?_;have HF : Per (No) w (fun _ => True) := Per.true_;have LW := erx (No) w;have XLW := grx (No) w;have E := erx (No) w;replace HF := HF.on E;replace LW := LW.step E XLW;replace E := erx (No) w;replace HF := HF.and (Per.nums0 hx);refine srx (za rfl (zx rfl ?_));intro gb1 w2 Bb1 Eb1 Gb1;have Gb1 : _ ≤ gb1 := Nat.le_trans E.size Gb1
 have GLb1 := Nat.le_trans LW.size Gb1;replace E := E.trans Eb1.no;replace HF := HF.cons (zi Gb1);replace E := E.cons (some gb1);replace XLW := Mut.grow XLW (fun k e => Or.inr (Nat.le_trans LW.size ((zi Gb1) k e)));replace HF := HF.on E;replace LW := LW.step E XLW;have SB : ∀ q9, No q9 → Mut [(some gb1)] q9 := (Mut.skip Mut.nil_);replace HF := HF.less SB
 replace XLW := fun k h => XLW k (SB k h);clear SB;replace E := erx (No) w2;replace HF := HF.and (Per.blkN Bb1 NotIn.nil);refine anx rfl (zj (srx (za rfl (zo Tryz.underlying28 rfl yk rfl (HF.on E).here.2 rfl (za rfl (zd jg rfl ((yu _ ua A1 B1 c1 d1 (HF.on E).here.1.2 hl true g1).mono ?_)))))));rintro e w3 ⟨rfl, hb⟩;refine ⟨_, rfl, ?_⟩;replace E := blx E hb
 refine za rfl (yf rfl (rnx (zp rfl (zq (zk (zj (srx (za rfl (zb Tryz.underlying28 rfl sz3 (by decide) rfl (za rfl (zf Tryz.underlying3 rfl rfl (HF.on E).here.2 rfl (rnx (yi (srx (za rfl (ya rfl rfl (anx rfl (zu 8 (.bool false) rfl ((by simp [h1] : (.bool (ua.k == 1) : Value) = _)) (zp rfl (srx (za rfl (ya rfl rfl (anx rfl (zu 12 (.bool false) rfl ((by simp [h2] : (.bool (ua.k == 2) : Value) = _)) (zp rfl (srx (za rfl (ya rfl rfl (anx rfl (zu 19 (.bool true) rfl ((by simp [h3] : (.bool (ua.k == 3) : Value) = _)) (yc rfl (srx ?_))))))))))))))))))))))))))))))))
 refine za rfl (zb Tryz.underlying28 rfl xa (by decide) rfl (za rfl (zf Tryz.underlying25 rfl rfl (HF.on E).here.2 rfl (za rfl (zck rfl rfl (by decide) rfl (za rfl (qc rfl rfl (anx rfl (zm (zv (zg (zl (rs := [.tmp 2]) (vs := [_]) rfl ⟨rfl, trivial⟩ ?_))))))))))))
 exact ⟨by unfold vo; rw [g1, if_pos rfl, if_neg h1, if_neg h2, if_pos h3]; rfl, (LW.step E XLW).toBelow⟩
theorem pt4 (g1 : ua.good = true) (h1 : ¬ ua.k = 1) (h2 : ¬ ua.k = 2) (h3 : ¬ ua.k = 3) : Calls Tryz.prog 14 #[.agg #[.int .i64 ua.k, .bool ua.yes, .bool ua.neg, .slice A1 ua.xs.length c1, .int .u64 ((ua.bits : Nat) : Int), .string ua.s, .slice B1 ua.ni d1]] w fun e w' => e = .returned (.bool (vo ua)) ∧ Below w.heap.size w w' := by
 refine zr Tryz.func14 rfl Tryz.ntmps14 rfl ?_;have HF : Per (No) w (fun _ => True) := Per.true_;have LW := erx (No) w;have XLW := grx (No) w;have E := erx (No) w;replace HF := HF.on E;replace LW := LW.step E XLW;replace E := erx (No) w;replace HF := HF.and (Per.nums0 hx);refine srx (za rfl (zx rfl ?_));intro gb1 w2 Bb1 Eb1 Gb1;have Gb1 : _ ≤ gb1 := Nat.le_trans E.size Gb1
 have GLb1 := Nat.le_trans LW.size Gb1;replace E := E.trans Eb1.no;replace HF := HF.cons (zi Gb1);replace E := E.cons (some gb1);replace XLW := Mut.grow XLW (fun k e => Or.inr (Nat.le_trans LW.size ((zi Gb1) k e)));replace HF := HF.on E;replace LW := LW.step E XLW;have SB : ∀ q9, No q9 → Mut [(some gb1)] q9 := (Mut.skip Mut.nil_);replace HF := HF.less SB
 replace XLW := fun k h => XLW k (SB k h);clear SB;replace E := erx (No) w2;replace HF := HF.and (Per.blkN Bb1 NotIn.nil);refine anx rfl (zj (srx (za rfl (zo Tryz.underlying28 rfl yk rfl (HF.on E).here.2 rfl (za rfl (zd jg rfl ((yu _ ua A1 B1 c1 d1 (HF.on E).here.1.2 hl true g1).mono ?_)))))));rintro e w3 ⟨rfl, hb⟩;refine ⟨_, rfl, ?_⟩;replace E := blx E hb
 refine za rfl (yf rfl (rnx (zp rfl (zq (zk (zj (srx (za rfl (zb Tryz.underlying28 rfl sz3 (by decide) rfl (za rfl (zf Tryz.underlying3 rfl rfl (HF.on E).here.2 rfl (rnx (yi (srx (za rfl (ya rfl rfl (anx rfl (zu 8 (.bool false) rfl ((by simp [h1] : (.bool (ua.k == 1) : Value) = _)) (zp rfl (srx (za rfl (ya rfl rfl (anx rfl (zu 12 (.bool false) rfl ((by simp [h2] : (.bool (ua.k == 2) : Value) = _)) (zp rfl (srx (za rfl (ya rfl rfl (anx rfl (zu 19 (.bool false) rfl ((by simp [h3] : (.bool (ua.k == 3) : Value) = _)) (zp rfl (zq (zw ?_)))))))))))))))))))))))))))))))))
 refine zk (srx (za rfl (zb Tryz.underlying28 rfl sz9 (by decide) rfl (za rfl (zf Tryz.underlying9 rfl rfl (HF.on E).here.2 rfl (za rfl (zkq rfl rfl (anx rfl (zm (zl (rs := [.tmp 2]) (vs := [_]) rfl ⟨rfl, trivial⟩ ?_))))))))));exact ⟨by unfold vo; rw [g1, if_pos rfl, if_neg h1, if_neg h2, if_neg h3]; rfl, (LW.step E XLW).toBelow⟩
theorem pl_truth : Calls Tryz.prog 14 #[.agg #[.int .i64 ua.k, .bool ua.yes, .bool ua.neg, .slice A1 ua.xs.length c1, .int .u64 ((ua.bits : Nat) : Int), .string ua.s, .slice B1 ua.ni d1]] w fun e w' => e = .returned (.bool (vo ua)) ∧ Below w.heap.size w w' := by
 cases g1 : ua.good
 · exact pt0 w ua A1 B1 c1 d1 hx hl g1
 by_cases h1 : ua.k = 1
 · exact pt1 w ua A1 B1 c1 d1 hx hl g1 h1
 by_cases h2 : ua.k = 2
 · exact pt2 w ua A1 B1 c1 d1 hx hl g1 h1 h2
 by_cases h3 : ua.k = 3
 · exact pt3 w ua A1 B1 c1 d1 hx hl g1 h1 h2 h3
 · exact pt4 w ua A1 B1 c1 d1 hx hl g1 h1 h2 h3
include ha hy hl' hb0
theorem ag_true (he : eqV ua ub = true) : Calls Tryz.prog 4 #[.agg #[.int .i64 ua.k, .bool ua.yes, .bool ua.neg, .slice A1 ua.xs.length c1, .int .u64 ((ua.bits : Nat) : Int), .string ua.s, .slice B1 ua.ni d1], .agg #[.int .i64 ub.k, .bool ub.yes, .bool ub.neg, .slice A2 ub.xs.length c2, .int .u64 ((ub.bits : Nat) : Int), .string ub.s, .slice B2 ub.ni d2]] w fun e w' => e = .returned (.bool true) ∧ Below w.heap.size w w' := by
 have hag := agree_eq ha hb0 he;obtain ⟨ov1, ov2⟩ := ordV_anti ua ub;have hin := ordV_in ub ua;refine zr Tryz.func4 rfl Tryz.ntmps4 rfl (srx (za rfl (zx rfl ?_)));rintro gA wA BX E1 G1;refine za rfl (zx rfl ?_);rintro gB wB BZ E2 G2;have BX0 := BX.ext E2 (fun h => h.elim);have T0 := E1.trans E2
 refine anx rfl (zj (srx (za rfl (zd en5 rfl ((pl_known _).mono ?_)))));rintro e w1 ⟨rfl, hb⟩;refine ⟨_, rfl, ?_⟩;have F1 := Ext.of_below hb No;have T1 := T0.trans F1;have BX1 := BX0.ext F1 (fun h => h.elim);have BZ1 := BZ.ext F1 (fun h => h.elim)
 refine za rfl (yf rfl (rnx (zp rfl (zq (zk (srx (za rfl (yh (cs := #[.int .i64 ua.k, .bool ua.yes, .bool ua.neg, .slice A1 ua.xs.length c1, .int .u64 ((ua.bits : Nat) : Int), .string ua.s, .slice B1 ua.ni d1]) Tryz.underlying28 rfl yk rfl rfl (yd (BX1)) (za rfl (yh (cs := #[.int .i64 ub.k, .bool ub.yes, .bool ub.neg, .slice A2 ub.xs.length c2, .int .u64 ((ub.bits : Nat) : Int), .string ub.s, .slice B2 ub.ni d2]) Tryz.underlying28 rfl yk rfl rfl (yd (BZ1)) (za rfl (zd en6 rfl ((zkx _ ua ub A1 B1 A2 B2 c1 d1 c2 d2 (Per.nums0 hx _ (T1)) hl ha (Per.nums0 hy _ (T1)) hl' hb0).mono ?_)))))))))))))
 rintro e w2 ⟨rfl, hb⟩;refine ⟨_, rfl, ?_⟩;have F2 := Ext.of_below hb No;have T2 := T1.trans F2;have BX2 := BX1.ext F2 (fun h => h.elim);have BZ2 := BZ1.ext F2 (fun h => h.elim)
 refine mvx rfl (za rfl (zn rfl rfl (za rfl (zn rfl rfl (za rfl (zn rfl rfl (avx rfl (avx rfl (anx rfl (srx (za rfl (yh (cs := #[.int .i64 ub.k, .bool ub.yes, .bool ub.neg, .slice A2 ub.xs.length c2, .int .u64 ((ub.bits : Nat) : Int), .string ub.s, .slice B2 ub.ni d2]) Tryz.underlying28 rfl yk rfl rfl (yd (BZ2)) (za rfl (yh (cs := #[.int .i64 ua.k, .bool ua.yes, .bool ua.neg, .slice A1 ua.xs.length c1, .int .u64 ((ua.bits : Nat) : Int), .string ua.s, .slice B1 ua.ni d1]) Tryz.underlying28 rfl yk rfl rfl (yd (BX2)) (za rfl (zd en6 rfl ((zkx _ ub ua A2 B2 A1 B1 c2 d2 c1 d1 (Per.nums0 hy _ (T2)) hl' hb0 (Per.nums0 hx _ (T2)) hl ha).mono ?_)))))))))))))))))
 rintro e w3 ⟨rfl, hb⟩;refine ⟨_, rfl, ?_⟩;have F3 := Ext.of_below hb No;have T3 := T2.trans F3;have BX3 := BX2.ext F3 (fun h => h.elim);have BZ3 := BZ2.ext F3 (fun h => h.elim);obtain ⟨w3, hw3⟩ : ∃ z, z = w3 := ⟨_, rfl⟩;subst hw3;refine mvx rfl (za rfl (zn rfl rfl (za rfl (zn rfl rfl (za rfl (zn rfl rfl (avx rfl (avx rfl (anx rfl (zj (zj ?_)))))))))))
 refine jb (No) Mut.none_ [] [] (zmq [Fx.of (.int .i64 (qh ua ub).1),
  Fx.of (.int .i64 (qh ub ua).1),
  Fx.of (.int .i64 (0 - (qh ub ua).1)),
  Fx.of (.bool false),
  Fx.of (.bool false),
  Fx.of (.bool (qh ua ub).2.1),
  Fx.of (.bool (qh ub ua).2.1),
  Fx.of (.bool false),
  Fx.of (.bool false),
  Fx.of (.bool false),
  Fx.of (.int .i64 (qh ua ub).2.2),
  Fx.of (.int .i64 (qh ub ua).2.2),
  Fx.of (.bool false),
  Fx.of (.bool false),
  Fx.of (.bool false),
  Fx.of (.agg #[.int .i64 ua.k, .bool ua.yes, .bool ua.neg, .slice A1 ua.xs.length c1, .int .u64 ((ua.bits : Nat) : Int), .string ua.s, .slice B1 ua.ni d1]),
  Fx.of (.agg #[.int .i64 ub.k, .bool ub.yes, .bool ub.neg, .slice A2 ub.xs.length c2, .int .u64 ((ub.bits : Nat) : Int), .string ub.s, .slice B2 ub.ni d2]),
  Fx.of (.bool (eqV ua ub)),
  Fx.of (.agg #[.int .i64 ub.k, .bool ub.yes, .bool ub.neg, .slice A2 ub.xs.length c2, .int .u64 ((ub.bits : Nat) : Int), .string ub.s, .slice B2 ub.ni d2]),
  Fx.of (.agg #[.int .i64 ua.k, .bool ua.yes, .bool ua.neg, .slice A1 ua.xs.length c1, .int .u64 ((ua.bits : Nat) : Int), .string ua.s, .slice B1 ua.ni d1]),
  Fx.of (.bool (eqV ub ua)),
  Fx.of (.bool false),
  Fx.of (.bool false),
  Fx.of (.bool false),
  Fx.of (.agg #[.int .i64 ua.k, .bool ua.yes, .bool ua.neg, .slice A1 ua.xs.length c1, .int .u64 ((ua.bits : Nat) : Int), .string ua.s, .slice B1 ua.ni d1]),
  Fx.of (.agg #[.int .i64 ub.k, .bool ub.yes, .bool ub.neg, .slice A2 ub.xs.length c2, .int .u64 ((ub.bits : Nat) : Int), .string ub.s, .slice B2 ub.ni d2]),
  Fx.of (.bool (vd ua ub)),
  Fx.of (.agg #[.int .i64 ub.k, .bool ub.yes, .bool ub.neg, .slice A2 ub.xs.length c2, .int .u64 ((ub.bits : Nat) : Int), .string ub.s, .slice B2 ub.ni d2]),
  Fx.of (.agg #[.int .i64 ua.k, .bool ua.yes, .bool ua.neg, .slice A1 ua.xs.length c1, .int .u64 ((ua.bits : Nat) : Int), .string ua.s, .slice B1 ua.ni d1]),
  Fx.of (.bool (vd ub ua)),
  Fx.of (.bool false),
  Fx.of (.bool false)]) mixed rfl trivial (fun _ h => by cases h) ?_ ?_
 · refine ⟨?_, ?_, ?_, ?_, ?_, ?_, ?_, ?_, ?_, ?_, ?_, ?_, ?_, ?_, ?_, ?_, ?_, ?_, ?_, ?_, ?_, ?_, ?_, ?_, ?_, ?_, ?_, ?_, ?_, ?_, ?_, ?_, trivial⟩
   · intro vs X wq K;exact zy rfl ⟨Below.refl _ _, Left.of rfl⟩
   · intro vs X wq K;exact zy rfl ⟨Below.refl _ _, Left.of rfl⟩
   · intro vs X wq K;obtain ⟨_, e1, k1⟩ := K.dep 1 rfl rfl rfl;refine ze 29 (.int .i64 (qh ub ua).1) rfl e1 ?_;exact zwv rfl (yg (by omega)) ⟨Below.refl _ _, Left.of rfl⟩
   · intro vs X wq K;obtain ⟨_, e0, k0⟩ := K.dep 0 rfl rfl rfl;refine ze 28 (.int .i64 (qh ua ub).1) rfl e0 ?_;obtain ⟨_, e2, k2⟩ := K.dep 2 rfl rfl rfl;refine ze 30 (.int .i64 (0 - (qh ub ua).1)) rfl e2 ?_;exact qc rfl rfl ⟨Below.refl _ _, Left.of ((by rw [ov1]; simp : (.bool ((qh ua ub).1 != (0 - (qh ub ua).1)) : Value) = _))⟩
   · intro vs X wq K;obtain ⟨_, e3, k3⟩ := K.dep 3 rfl rfl rfl;refine ze 31 (.bool false) rfl e3 ?_;exact zy rfl ⟨Below.refl _ _, Left.of rfl⟩
   · intro vs X wq K;obtain ⟨_, e4, k4⟩ := K.dep 4 rfl rfl rfl;refine ze 32 (.bool false) rfl e4 ?_;exact yt rfl (zy rfl ⟨Below.refl _ _, Left.of rfl⟩)
   · intro vs X wq K;obtain ⟨_, e4, k4⟩ := K.dep 4 rfl rfl rfl;refine ze 32 (.bool false) rfl e4 ?_;exact yt rfl (zy rfl ⟨Below.refl _ _, Left.of rfl⟩)
   · intro vs X wq K;obtain ⟨_, e5, k5⟩ := K.dep 5 rfl rfl rfl;refine ze 33 (.bool (qh ua ub).2.1) rfl e5 ?_;obtain ⟨_, e6, k6⟩ := K.dep 6 rfl rfl rfl;refine ze 34 (.bool (qh ub ua).2.1) rfl e6 ?_;obtain ⟨_, e4, k4⟩ := K.dep 4 rfl rfl rfl;refine ze 32 (.bool false) rfl e4 ?_
     exact yt rfl (ob Tryz.underlying4 rfl rfl ⟨Below.refl _ _, Left.of ((by rw [ov2]; simp : (.bool ((qh ua ub).2.1 != (qh ub ua).2.1) : Value) = _))⟩)
   · intro vs X wq K;obtain ⟨_, e4, k4⟩ := K.dep 4 rfl rfl rfl;refine ze 32 (.bool false) rfl e4 ?_;obtain ⟨_, e7, k7⟩ := K.dep 7 rfl rfl rfl;refine ze 35 (.bool false) rfl e7 ?_;exact zh rfl rfl ⟨Below.refl _ _, Left.of rfl⟩
   · intro vs X wq K;obtain ⟨_, e8, k8⟩ := K.dep 8 rfl rfl rfl;refine ze 36 (.bool false) rfl e8 ?_;exact zy rfl ⟨Below.refl _ _, Left.of rfl⟩
   · intro vs X wq K;obtain ⟨_, e9, k9⟩ := K.dep 9 rfl rfl rfl;refine ze 37 (.bool false) rfl e9 ?_;exact yt rfl (zy rfl ⟨Below.refl _ _, Left.of rfl⟩)
   · intro vs X wq K;obtain ⟨_, e9, k9⟩ := K.dep 9 rfl rfl rfl;refine ze 37 (.bool false) rfl e9 ?_;exact yt rfl (zy rfl ⟨Below.refl _ _, Left.of rfl⟩)
   · intro vs X wq K;obtain ⟨_, e10, k10⟩ := K.dep 10 rfl rfl rfl;refine ze 38 (.int .i64 (qh ua ub).2.2) rfl e10 ?_;obtain ⟨_, e11, k11⟩ := K.dep 11 rfl rfl rfl;refine ze 39 (.int .i64 (qh ub ua).2.2) rfl e11 ?_;obtain ⟨_, e9, k9⟩ := K.dep 9 rfl rfl rfl;refine ze 37 (.bool false) rfl e9 ?_
     exact yt rfl (qc rfl rfl ⟨Below.refl _ _, Left.of ((by rw [ov2]; simp : (.bool ((qh ua ub).2.2 != (qh ub ua).2.2) : Value) = _))⟩)
   · intro vs X wq K;obtain ⟨_, e9, k9⟩ := K.dep 9 rfl rfl rfl;refine ze 37 (.bool false) rfl e9 ?_;obtain ⟨_, e12, k12⟩ := K.dep 12 rfl rfl rfl;refine ze 40 (.bool false) rfl e12 ?_;exact zh rfl rfl ⟨Below.refl _ _, Left.of rfl⟩
   · intro vs X wq K;obtain ⟨_, e13, k13⟩ := K.dep 13 rfl rfl rfl;refine ze 41 (.bool false) rfl e13 ?_;exact zy rfl ⟨Below.refl _ _, Left.of rfl⟩
   · intro vs X wq K;have LE := K.1;obtain ⟨_, e14, k14⟩ := K.dep 14 rfl rfl rfl;refine ze 42 (.bool false) rfl e14 ?_
     exact yt rfl (yh (cs := #[.int .i64 ua.k, .bool ua.yes, .bool ua.neg, .slice A1 ua.xs.length c1, .int .u64 ((ua.bits : Nat) : Int), .string ua.s, .slice B1 ua.ni d1]) Tryz.underlying28 rfl yk rfl rfl (yd (BX3.ext ((Ext.refl No _).drew.trans LE) (fun h ↦ h.elim))) ⟨Below.refl _ _, Left.of rfl⟩)
   · intro vs X wq K;have LE := K.1;obtain ⟨_, e14, k14⟩ := K.dep 14 rfl rfl rfl;refine ze 42 (.bool false) rfl e14 ?_
     exact yt rfl (yh (cs := #[.int .i64 ub.k, .bool ub.yes, .bool ub.neg, .slice A2 ub.xs.length c2, .int .u64 ((ub.bits : Nat) : Int), .string ub.s, .slice B2 ub.ni d2]) Tryz.underlying28 rfl yk rfl rfl (yd (BZ3.ext ((Ext.refl No _).drew.trans LE) (fun h ↦ h.elim))) ⟨Below.refl _ _, Left.of rfl⟩)
   · intro vs X wq K;have LE := K.1;obtain ⟨_, e15, k15⟩ := K.dep 15 rfl rfl rfl;refine ze 43 (.agg #[.int .i64 ua.k, .bool ua.yes, .bool ua.neg, .slice A1 ua.xs.length c1, .int .u64 ((ua.bits : Nat) : Int), .string ua.s, .slice B1 ua.ni d1]) rfl e15 ?_;obtain ⟨_, e16, k16⟩ := K.dep 16 rfl rfl rfl
     refine ze 44 (.agg #[.int .i64 ub.k, .bool ub.yes, .bool ub.neg, .slice A2 ub.xs.length c2, .int .u64 ((ub.bits : Nat) : Int), .string ub.s, .slice B2 ub.ni d2]) rfl e16 ?_;obtain ⟨_, e14, k14⟩ := K.dep 14 rfl rfl rfl
     refine ze 42 (.bool false) rfl e14 (yt rfl (zd en8 rfl ((kf _ ua ub A1 B1 A2 B2 c1 d1 c2 d2 (Per.nums0 hx _ (T3.trans ((Ext.refl No _).drew.trans LE))) hl ha (Per.nums0 hy _ (T3.trans ((Ext.refl No _).drew.trans LE))) hl' hb0).mono ?_)));rintro e w2 ⟨rfl, hb⟩;exact ⟨_, rfl, hb, Left.of rfl⟩
   · intro vs X wq K;have LE := K.1;obtain ⟨_, e14, k14⟩ := K.dep 14 rfl rfl rfl;refine ze 42 (.bool false) rfl e14 ?_
     exact yt rfl (yh (cs := #[.int .i64 ub.k, .bool ub.yes, .bool ub.neg, .slice A2 ub.xs.length c2, .int .u64 ((ub.bits : Nat) : Int), .string ub.s, .slice B2 ub.ni d2]) Tryz.underlying28 rfl yk rfl rfl (yd (BZ3.ext ((Ext.refl No _).drew.trans LE) (fun h ↦ h.elim))) ⟨Below.refl _ _, Left.of rfl⟩)
   · intro vs X wq K;have LE := K.1;obtain ⟨_, e14, k14⟩ := K.dep 14 rfl rfl rfl;refine ze 42 (.bool false) rfl e14 ?_
     exact yt rfl (yh (cs := #[.int .i64 ua.k, .bool ua.yes, .bool ua.neg, .slice A1 ua.xs.length c1, .int .u64 ((ua.bits : Nat) : Int), .string ua.s, .slice B1 ua.ni d1]) Tryz.underlying28 rfl yk rfl rfl (yd (BX3.ext ((Ext.refl No _).drew.trans LE) (fun h ↦ h.elim))) ⟨Below.refl _ _, Left.of rfl⟩)
   · intro vs X wq K;have LE := K.1;obtain ⟨_, e18, k18⟩ := K.dep 18 rfl rfl rfl;refine ze 46 (.agg #[.int .i64 ub.k, .bool ub.yes, .bool ub.neg, .slice A2 ub.xs.length c2, .int .u64 ((ub.bits : Nat) : Int), .string ub.s, .slice B2 ub.ni d2]) rfl e18 ?_;obtain ⟨_, e19, k19⟩ := K.dep 19 rfl rfl rfl
     refine ze 47 (.agg #[.int .i64 ua.k, .bool ua.yes, .bool ua.neg, .slice A1 ua.xs.length c1, .int .u64 ((ua.bits : Nat) : Int), .string ua.s, .slice B1 ua.ni d1]) rfl e19 ?_;obtain ⟨_, e14, k14⟩ := K.dep 14 rfl rfl rfl
     refine ze 42 (.bool false) rfl e14 (yt rfl (zd en8 rfl ((kf _ ub ua A2 B2 A1 B1 c2 d2 c1 d1 (Per.nums0 hy _ (T3.trans ((Ext.refl No _).drew.trans LE))) hl' hb0 (Per.nums0 hx _ (T3.trans ((Ext.refl No _).drew.trans LE))) hl ha).mono ?_)));rintro e w2 ⟨rfl, hb⟩;exact ⟨_, rfl, hb, Left.of rfl⟩
   · intro vs X wq K;obtain ⟨_, e17, k17⟩ := K.dep 17 rfl rfl rfl;refine ze 45 (.bool (eqV ua ub)) rfl e17 ?_;obtain ⟨_, e20, k20⟩ := K.dep 20 rfl rfl rfl;refine ze 48 (.bool (eqV ub ua)) rfl e20 ?_;obtain ⟨_, e14, k14⟩ := K.dep 14 rfl rfl rfl;refine ze 42 (.bool false) rfl e14 ?_
     exact yt rfl (ob Tryz.underlying4 rfl rfl ⟨Below.refl _ _, Left.of ((by rw [eqV_comm ub ua]; simp : (.bool ((eqV ua ub) != (eqV ub ua)) : Value) = _))⟩)
   · intro vs X wq K;obtain ⟨_, e14, k14⟩ := K.dep 14 rfl rfl rfl;refine ze 42 (.bool false) rfl e14 ?_;obtain ⟨_, e21, k21⟩ := K.dep 21 rfl rfl rfl;refine ze 49 (.bool false) rfl e21 ?_;exact zh rfl rfl ⟨Below.refl _ _, Left.of rfl⟩
   · intro vs X wq K;obtain ⟨_, e22, k22⟩ := K.dep 22 rfl rfl rfl;refine ze 50 (.bool false) rfl e22 ?_;exact zy rfl ⟨Below.refl _ _, Left.of rfl⟩
   · intro vs X wq K;have LE := K.1;obtain ⟨_, e23, k23⟩ := K.dep 23 rfl rfl rfl;refine ze 51 (.bool false) rfl e23 ?_
     exact yt rfl (yh (cs := #[.int .i64 ua.k, .bool ua.yes, .bool ua.neg, .slice A1 ua.xs.length c1, .int .u64 ((ua.bits : Nat) : Int), .string ua.s, .slice B1 ua.ni d1]) Tryz.underlying28 rfl yk rfl rfl (yd (BX3.ext ((Ext.refl No _).drew.trans LE) (fun h ↦ h.elim))) ⟨Below.refl _ _, Left.of rfl⟩)
   · intro vs X wq K;have LE := K.1;obtain ⟨_, e23, k23⟩ := K.dep 23 rfl rfl rfl;refine ze 51 (.bool false) rfl e23 ?_
     exact yt rfl (yh (cs := #[.int .i64 ub.k, .bool ub.yes, .bool ub.neg, .slice A2 ub.xs.length c2, .int .u64 ((ub.bits : Nat) : Int), .string ub.s, .slice B2 ub.ni d2]) Tryz.underlying28 rfl yk rfl rfl (yd (BZ3.ext ((Ext.refl No _).drew.trans LE) (fun h ↦ h.elim))) ⟨Below.refl _ _, Left.of rfl⟩)
   · intro vs X wq K;have LE := K.1;obtain ⟨_, e24, k24⟩ := K.dep 24 rfl rfl rfl;refine ze 52 (.agg #[.int .i64 ua.k, .bool ua.yes, .bool ua.neg, .slice A1 ua.xs.length c1, .int .u64 ((ua.bits : Nat) : Int), .string ua.s, .slice B1 ua.ni d1]) rfl e24 ?_;obtain ⟨_, e25, k25⟩ := K.dep 25 rfl rfl rfl
     refine ze 53 (.agg #[.int .i64 ub.k, .bool ub.yes, .bool ub.neg, .slice A2 ub.xs.length c2, .int .u64 ((ub.bits : Nat) : Int), .string ub.s, .slice B2 ub.ni d2]) rfl e25 ?_;obtain ⟨_, e23, k23⟩ := K.dep 23 rfl rfl rfl
     refine ze 51 (.bool false) rfl e23 (yt rfl (zd en9 rfl ((oa _ ua ub A1 B1 A2 B2 c1 d1 c2 d2 (Per.nums0 hx _ (T3.trans ((Ext.refl No _).drew.trans LE))) hl ha (Per.nums0 hy _ (T3.trans ((Ext.refl No _).drew.trans LE))) hl' hb0).mono ?_)));rintro e w2 ⟨rfl, hb⟩;exact ⟨_, rfl, hb, Left.of rfl⟩
   · intro vs X wq K;have LE := K.1;obtain ⟨_, e23, k23⟩ := K.dep 23 rfl rfl rfl;refine ze 51 (.bool false) rfl e23 ?_
     exact yt rfl (yh (cs := #[.int .i64 ub.k, .bool ub.yes, .bool ub.neg, .slice A2 ub.xs.length c2, .int .u64 ((ub.bits : Nat) : Int), .string ub.s, .slice B2 ub.ni d2]) Tryz.underlying28 rfl yk rfl rfl (yd (BZ3.ext ((Ext.refl No _).drew.trans LE) (fun h ↦ h.elim))) ⟨Below.refl _ _, Left.of rfl⟩)
   · intro vs X wq K;have LE := K.1;obtain ⟨_, e23, k23⟩ := K.dep 23 rfl rfl rfl;refine ze 51 (.bool false) rfl e23 ?_
     exact yt rfl (yh (cs := #[.int .i64 ua.k, .bool ua.yes, .bool ua.neg, .slice A1 ua.xs.length c1, .int .u64 ((ua.bits : Nat) : Int), .string ua.s, .slice B1 ua.ni d1]) Tryz.underlying28 rfl yk rfl rfl (yd (BX3.ext ((Ext.refl No _).drew.trans LE) (fun h ↦ h.elim))) ⟨Below.refl _ _, Left.of rfl⟩)
   · intro vs X wq K;have LE := K.1;obtain ⟨_, e27, k27⟩ := K.dep 27 rfl rfl rfl;refine ze 55 (.agg #[.int .i64 ub.k, .bool ub.yes, .bool ub.neg, .slice A2 ub.xs.length c2, .int .u64 ((ub.bits : Nat) : Int), .string ub.s, .slice B2 ub.ni d2]) rfl e27 ?_;obtain ⟨_, e28, k28⟩ := K.dep 28 rfl rfl rfl
     refine ze 56 (.agg #[.int .i64 ua.k, .bool ua.yes, .bool ua.neg, .slice A1 ua.xs.length c1, .int .u64 ((ua.bits : Nat) : Int), .string ua.s, .slice B1 ua.ni d1]) rfl e28 ?_;obtain ⟨_, e23, k23⟩ := K.dep 23 rfl rfl rfl
     refine ze 51 (.bool false) rfl e23 (yt rfl (zd en9 rfl ((oa _ ub ua A2 B2 A1 B1 c2 d2 c1 d1 (Per.nums0 hy _ (T3.trans ((Ext.refl No _).drew.trans LE))) hl' hb0 (Per.nums0 hx _ (T3.trans ((Ext.refl No _).drew.trans LE))) hl ha).mono ?_)));rintro e w2 ⟨rfl, hb⟩;exact ⟨_, rfl, hb, Left.of rfl⟩
   · intro vs X wq K;obtain ⟨_, e26, k26⟩ := K.dep 26 rfl rfl rfl;refine ze 54 (.bool (vd ua ub)) rfl e26 ?_;obtain ⟨_, e29, k29⟩ := K.dep 29 rfl rfl rfl;refine ze 57 (.bool (vd ub ua)) rfl e29 ?_;obtain ⟨_, e23, k23⟩ := K.dep 23 rfl rfl rfl;refine ze 51 (.bool false) rfl e23 ?_
     exact yt rfl (ob Tryz.underlying4 rfl rfl ⟨Below.refl _ _, Left.of ((by rw [sameV_comm ub ua]; simp : (.bool ((vd ua ub) != (vd ub ua)) : Value) = _))⟩)
   · intro vs X wq K;obtain ⟨_, e23, k23⟩ := K.dep 23 rfl rfl rfl;refine ze 51 (.bool false) rfl e23 ?_;obtain ⟨_, e30, k30⟩ := K.dep 30 rfl rfl rfl;refine ze 58 (.bool false) rfl e30 ?_;exact zh rfl rfl ⟨Below.refl _ _, Left.of rfl⟩
 intro vs w4 LE AO AL AF AA;have hbd : Below (w3).heap.size (w3) w4 := (((Ext.refl No (w3)).drew).trans LE).toBelow;obtain ⟨_, e31, k31⟩ := AL.2.2.2.2.2.2.2.2.2.2.2.2.2.2.2.2.2.2.2.2.2.2.2.2.2.2.2.2.2.2.2.1;refine gu (τ := [(2, _), (3, _), (4, _), (5, _), (59, .bool false)]) ⟨rfl, rfl, rfl, rfl, congrArg some e31, trivial⟩ ?_;clear AL AF AA AO;have F4 := Ext.of_below hbd No
 have T4 := T3.trans F4;have BX4 := BX3.ext F4 (fun h => h.elim);have BZ4 := BZ3.ext F4 (fun h => h.elim);obtain ⟨w4, hw4⟩ : ∃ z, z = w4 := ⟨_, rfl⟩;subst hw4;refine zk (zp rfl (zq (zk (zj (zj ?_)))))
 refine jb (No) Mut.none_ [] [] (zmq [Fx.of (.agg #[.int .i64 ua.k, .bool ua.yes, .bool ua.neg, .slice A1 ua.xs.length c1, .int .u64 ((ua.bits : Nat) : Int), .string ua.s, .slice B1 ua.ni d1]),
  Fx.of (.agg #[.int .i64 ub.k, .bool ub.yes, .bool ub.neg, .slice A2 ub.xs.length c2, .int .u64 ((ub.bits : Nat) : Int), .string ub.s, .slice B2 ub.ni d2]),
  Fx.of (.bool true),
  Fx.of (.bool true),
  Fx.of (.agg #[.int .i64 ua.k, .bool ua.yes, .bool ua.neg, .slice A1 ua.xs.length c1, .int .u64 ((ua.bits : Nat) : Int), .string ua.s, .slice B1 ua.ni d1]),
  Fx.of (.int .i64 (jl ua)),
  Fx.of (.agg #[.int .i64 ub.k, .bool ub.yes, .bool ub.neg, .slice A2 ub.xs.length c2, .int .u64 ((ub.bits : Nat) : Int), .string ub.s, .slice B2 ub.ni d2]),
  Fx.of (.int .i64 (jl ub)),
  Fx.of (.bool false),
  Fx.of (.bool false),
  Fx.of (.agg #[.int .i64 ua.k, .bool ua.yes, .bool ua.neg, .slice A1 ua.xs.length c1, .int .u64 ((ua.bits : Nat) : Int), .string ua.s, .slice B1 ua.ni d1]),
  Fx.of (.bool (vo ua)),
  Fx.of (.agg #[.int .i64 ub.k, .bool ub.yes, .bool ub.neg, .slice A2 ub.xs.length c2, .int .u64 ((ub.bits : Nat) : Int), .string ub.s, .slice B2 ub.ni d2]),
  Fx.of (.bool (vo ub)),
  Fx.of (.bool false),
  Fx.of (.bool false),
  Fx.of (.bool false),
  Fx.of (.int .i64 (qh ua ub).1),
  Fx.of (.bool false),
  Fx.of (.bool false),
  Fx.of (.bool false)]) mixed rfl trivial (fun _ h => by cases h) ?_ ?_
 · refine ⟨?_, ?_, ?_, ?_, ?_, ?_, ?_, ?_, ?_, ?_, ?_, ?_, ?_, ?_, ?_, ?_, ?_, ?_, ?_, ?_, ?_, trivial⟩
   · intro vs X wq K;have LE := K.1;exact yh (cs := #[.int .i64 ua.k, .bool ua.yes, .bool ua.neg, .slice A1 ua.xs.length c1, .int .u64 ((ua.bits : Nat) : Int), .string ua.s, .slice B1 ua.ni d1]) Tryz.underlying28 rfl yk rfl rfl (yd (BX4.ext ((Ext.refl No _).drew.trans LE) (fun h ↦ h.elim))) ⟨Below.refl _ _, Left.of rfl⟩
   · intro vs X wq K;have LE := K.1;exact yh (cs := #[.int .i64 ub.k, .bool ub.yes, .bool ub.neg, .slice A2 ub.xs.length c2, .int .u64 ((ub.bits : Nat) : Int), .string ub.s, .slice B2 ub.ni d2]) Tryz.underlying28 rfl yk rfl rfl (yd (BZ4.ext ((Ext.refl No _).drew.trans LE) (fun h ↦ h.elim))) ⟨Below.refl _ _, Left.of rfl⟩
   · intro vs X wq K;have LE := K.1;obtain ⟨_, e0, k0⟩ := K.dep 0 rfl rfl rfl;refine ze 60 (.agg #[.int .i64 ua.k, .bool ua.yes, .bool ua.neg, .slice A1 ua.xs.length c1, .int .u64 ((ua.bits : Nat) : Int), .string ua.s, .slice B1 ua.ni d1]) rfl e0 ?_;obtain ⟨_, e1, k1⟩ := K.dep 1 rfl rfl rfl
     refine ze 61 (.agg #[.int .i64 ub.k, .bool ub.yes, .bool ub.neg, .slice A2 ub.xs.length c2, .int .u64 ((ub.bits : Nat) : Int), .string ub.s, .slice B2 ub.ni d2]) rfl e1 (zd en8 rfl ((ybv he (kf _ ua ub A1 B1 A2 B2 c1 d1 c2 d2 (Per.nums0 hx _ (T4.trans ((Ext.refl No _).drew.trans LE))) hl ha (Per.nums0 hy _ (T4.trans ((Ext.refl No _).drew.trans LE))) hl' hb0)).mono ?_))
     rintro e w2 ⟨rfl, hb⟩;exact ⟨_, rfl, hb, Left.of rfl⟩
   · intro vs X wq K;obtain ⟨_, e2, k2⟩ := K.dep 2 rfl rfl rfl;refine ze 62 (.bool true) rfl e2 ?_;exact zy rfl ⟨Below.refl _ _, Left.of rfl⟩
   · intro vs X wq K;have LE := K.1;obtain ⟨_, e3, k3⟩ := K.dep 3 rfl rfl rfl;refine ze 63 (.bool true) rfl e3 ?_
     exact yt rfl (yh (cs := #[.int .i64 ua.k, .bool ua.yes, .bool ua.neg, .slice A1 ua.xs.length c1, .int .u64 ((ua.bits : Nat) : Int), .string ua.s, .slice B1 ua.ni d1]) Tryz.underlying28 rfl yk rfl rfl (yd (BX4.ext ((Ext.refl No _).drew.trans LE) (fun h ↦ h.elim))) ⟨Below.refl _ _, Left.of rfl⟩)
   · intro vs X wq K;have LE := K.1;obtain ⟨_, e4, k4⟩ := K.dep 4 rfl rfl rfl;refine ze 64 (.agg #[.int .i64 ua.k, .bool ua.yes, .bool ua.neg, .slice A1 ua.xs.length c1, .int .u64 ((ua.bits : Nat) : Int), .string ua.s, .slice B1 ua.ni d1]) rfl e4 ?_;obtain ⟨_, e3, k3⟩ := K.dep 3 rfl rfl rfl
     refine ze 63 (.bool true) rfl e3 (yt rfl (zd en13 rfl ((pl_hash _ ua A1 B1 c1 d1 (Per.nums0 hx _ (T4.trans ((Ext.refl No _).drew.trans LE))) hl ha).mono ?_)));rintro e w2 ⟨rfl, hb⟩;exact ⟨_, rfl, hb, Left.of rfl⟩
   · intro vs X wq K;have LE := K.1;obtain ⟨_, e3, k3⟩ := K.dep 3 rfl rfl rfl;refine ze 63 (.bool true) rfl e3 ?_
     exact yt rfl (yh (cs := #[.int .i64 ub.k, .bool ub.yes, .bool ub.neg, .slice A2 ub.xs.length c2, .int .u64 ((ub.bits : Nat) : Int), .string ub.s, .slice B2 ub.ni d2]) Tryz.underlying28 rfl yk rfl rfl (yd (BZ4.ext ((Ext.refl No _).drew.trans LE) (fun h ↦ h.elim))) ⟨Below.refl _ _, Left.of rfl⟩)
   · intro vs X wq K;have LE := K.1;obtain ⟨_, e6, k6⟩ := K.dep 6 rfl rfl rfl;refine ze 66 (.agg #[.int .i64 ub.k, .bool ub.yes, .bool ub.neg, .slice A2 ub.xs.length c2, .int .u64 ((ub.bits : Nat) : Int), .string ub.s, .slice B2 ub.ni d2]) rfl e6 ?_;obtain ⟨_, e3, k3⟩ := K.dep 3 rfl rfl rfl
     refine ze 63 (.bool true) rfl e3 (yt rfl (zd en13 rfl ((pl_hash _ ub A2 B2 c2 d2 (Per.nums0 hy _ (T4.trans ((Ext.refl No _).drew.trans LE))) hl' hb0).mono ?_)));rintro e w2 ⟨rfl, hb⟩;exact ⟨_, rfl, hb, Left.of rfl⟩
   · intro vs X wq K;obtain ⟨_, e5, k5⟩ := K.dep 5 rfl rfl rfl;refine ze 65 (.int .i64 (jl ua)) rfl e5 ?_;obtain ⟨_, e7, k7⟩ := K.dep 7 rfl rfl rfl;refine ze 67 (.int .i64 (jl ub)) rfl e7 ?_;obtain ⟨_, e3, k3⟩ := K.dep 3 rfl rfl rfl;refine ze 63 (.bool true) rfl e3 ?_
     exact yt rfl (qc rfl rfl ⟨Below.refl _ _, Left.of ((by rw [hag.1]; simp : (.bool ((jl ua) != (jl ub)) : Value) = _))⟩)
   · intro vs X wq K;obtain ⟨_, e8, k8⟩ := K.dep 8 rfl rfl rfl;refine ze 68 (.bool false) rfl e8 ?_;obtain ⟨_, e3, k3⟩ := K.dep 3 rfl rfl rfl;refine ze 63 (.bool true) rfl e3 ?_;exact yt rfl (zy rfl ⟨Below.refl _ _, Left.of rfl⟩)
   · intro vs X wq K;have LE := K.1;obtain ⟨_, e9, k9⟩ := K.dep 9 rfl rfl rfl;refine ze 69 (.bool false) rfl e9 ?_
     exact yt rfl (yh (cs := #[.int .i64 ua.k, .bool ua.yes, .bool ua.neg, .slice A1 ua.xs.length c1, .int .u64 ((ua.bits : Nat) : Int), .string ua.s, .slice B1 ua.ni d1]) Tryz.underlying28 rfl yk rfl rfl (yd (BX4.ext ((Ext.refl No _).drew.trans LE) (fun h ↦ h.elim))) ⟨Below.refl _ _, Left.of rfl⟩)
   · intro vs X wq K;have LE := K.1;obtain ⟨_, e10, k10⟩ := K.dep 10 rfl rfl rfl;refine ze 70 (.agg #[.int .i64 ua.k, .bool ua.yes, .bool ua.neg, .slice A1 ua.xs.length c1, .int .u64 ((ua.bits : Nat) : Int), .string ua.s, .slice B1 ua.ni d1]) rfl e10 ?_;obtain ⟨_, e9, k9⟩ := K.dep 9 rfl rfl rfl
     refine ze 69 (.bool false) rfl e9 (yt rfl (zd en14 rfl ((pl_truth _ ua A1 B1 c1 d1 (Per.nums0 hx _ (T4.trans ((Ext.refl No _).drew.trans LE))) hl).mono ?_)));rintro e w2 ⟨rfl, hb⟩;exact ⟨_, rfl, hb, Left.of rfl⟩
   · intro vs X wq K;have LE := K.1;obtain ⟨_, e9, k9⟩ := K.dep 9 rfl rfl rfl;refine ze 69 (.bool false) rfl e9 ?_
     exact yt rfl (yh (cs := #[.int .i64 ub.k, .bool ub.yes, .bool ub.neg, .slice A2 ub.xs.length c2, .int .u64 ((ub.bits : Nat) : Int), .string ub.s, .slice B2 ub.ni d2]) Tryz.underlying28 rfl yk rfl rfl (yd (BZ4.ext ((Ext.refl No _).drew.trans LE) (fun h ↦ h.elim))) ⟨Below.refl _ _, Left.of rfl⟩)
   · intro vs X wq K;have LE := K.1;obtain ⟨_, e12, k12⟩ := K.dep 12 rfl rfl rfl;refine ze 72 (.agg #[.int .i64 ub.k, .bool ub.yes, .bool ub.neg, .slice A2 ub.xs.length c2, .int .u64 ((ub.bits : Nat) : Int), .string ub.s, .slice B2 ub.ni d2]) rfl e12 ?_;obtain ⟨_, e9, k9⟩ := K.dep 9 rfl rfl rfl
     refine ze 69 (.bool false) rfl e9 (yt rfl (zd en14 rfl ((pl_truth _ ub A2 B2 c2 d2 (Per.nums0 hy _ (T4.trans ((Ext.refl No _).drew.trans LE))) hl').mono ?_)));rintro e w2 ⟨rfl, hb⟩;exact ⟨_, rfl, hb, Left.of rfl⟩
   · intro vs X wq K;obtain ⟨_, e11, k11⟩ := K.dep 11 rfl rfl rfl;refine ze 71 (.bool (vo ua)) rfl e11 ?_;obtain ⟨_, e13, k13⟩ := K.dep 13 rfl rfl rfl;refine ze 73 (.bool (vo ub)) rfl e13 ?_;obtain ⟨_, e9, k9⟩ := K.dep 9 rfl rfl rfl;refine ze 69 (.bool false) rfl e9 ?_
     exact yt rfl (ob Tryz.underlying4 rfl rfl ⟨Below.refl _ _, Left.of ((by rw [hag.2.1]; simp : (.bool ((vo ua) != (vo ub)) : Value) = _))⟩)
   · intro vs X wq K;obtain ⟨_, e9, k9⟩ := K.dep 9 rfl rfl rfl;refine ze 69 (.bool false) rfl e9 ?_;obtain ⟨_, e14, k14⟩ := K.dep 14 rfl rfl rfl;refine ze 74 (.bool false) rfl e14 ?_;obtain ⟨_, e3, k3⟩ := K.dep 3 rfl rfl rfl;refine ze 63 (.bool true) rfl e3 ?_;exact yt rfl (zh rfl rfl ⟨Below.refl _ _, Left.of rfl⟩)
   · intro vs X wq K;obtain ⟨_, e15, k15⟩ := K.dep 15 rfl rfl rfl;refine ze 75 (.bool false) rfl e15 ?_;obtain ⟨_, e3, k3⟩ := K.dep 3 rfl rfl rfl;refine ze 63 (.bool true) rfl e3 ?_;exact yt rfl (zy rfl ⟨Below.refl _ _, Left.of rfl⟩)
   · intro vs X wq K;obtain ⟨_, e16, k16⟩ := K.dep 16 rfl rfl rfl;refine ze 76 (.bool false) rfl e16 ?_;exact yt rfl (zy rfl ⟨Below.refl _ _, Left.of rfl⟩)
   · intro vs X wq K;obtain ⟨_, e17, k17⟩ := K.dep 17 rfl rfl rfl;refine ze 77 (.int .i64 (qh ua ub).1) rfl e17 ?_;obtain ⟨_, e16, k16⟩ := K.dep 16 rfl rfl rfl;refine ze 76 (.bool false) rfl e16 ?_;exact yt rfl (qc rfl rfl ⟨Below.refl _ _, Left.of ((by rw [hag.2.2]; rfl : (.bool ((qh ua ub).1 != 0) : Value) = _))⟩)
   · intro vs X wq K;obtain ⟨_, e16, k16⟩ := K.dep 16 rfl rfl rfl;refine ze 76 (.bool false) rfl e16 ?_;obtain ⟨_, e18, k18⟩ := K.dep 18 rfl rfl rfl;refine ze 78 (.bool false) rfl e18 ?_;obtain ⟨_, e3, k3⟩ := K.dep 3 rfl rfl rfl;refine ze 63 (.bool true) rfl e3 ?_;exact yt rfl (zh rfl rfl ⟨Below.refl _ _, Left.of rfl⟩)
   · intro vs X wq K;obtain ⟨_, e3, k3⟩ := K.dep 3 rfl rfl rfl;refine ze 63 (.bool true) rfl e3 ?_;obtain ⟨_, e19, k19⟩ := K.dep 19 rfl rfl rfl;refine ze 79 (.bool false) rfl e19 ?_;exact zt rfl rfl ⟨Below.refl _ _, Left.of rfl⟩
 intro vs w5 LE AO AL AF AA;have hbd : Below (w4).heap.size (w4) w5 := (((Ext.refl No (w4)).drew).trans LE).toBelow;obtain ⟨_, e20, k20⟩ := AL.2.2.2.2.2.2.2.2.2.2.2.2.2.2.2.2.2.2.2.2.1;refine gu (τ := [(2, _), (3, _), (4, _), (80, .bool false)]) ⟨rfl, rfl, rfl, congrArg some e20, trivial⟩ ?_;clear AL AF AA AO;have F5 := Ext.of_below hbd No;have T5 := T4.trans F5
 have BX5 := BX4.ext F5 (fun h => h.elim);have BZ5 := BZ4.ext F5 (fun h => h.elim);obtain ⟨w5, hw5⟩ : ∃ z, z = w5 := ⟨_, rfl⟩;subst hw5;refine zk (zp rfl (zq (zk (zj (cw_join (ι := Bool) (fun n => [(2, .pointer (some ⟨gA, 0, none⟩)), (3, .pointer (some ⟨gB, 0, none⟩)), (11, .bool n)]) (fun n z => Ext No w5 z ∧ (eqV ua ub = false → vd ua ub = true → n = true)) ?_ ?_)))))
 ·
  refine yo (za rfl (zb Tryz.underlying28 rfl sz3 (by decide) rfl (za rfl (zf Tryz.underlying3 rfl rfl BX5 rfl (za rfl (ya rfl rfl (mvx rfl ?_)))))));by_cases hk3 : ua.k = 3
  ·
   refine zz 84 (.bool true) rfl ((by simp [hk3] : (.bool (ua.k == 3) : Value) = _)) (onx rfl (yh (cs := #[.int .i64 ua.k, .bool ua.yes, .bool ua.neg, .slice A1 ua.xs.length c1, .int .u64 ((ua.bits : Nat) : Int), .string ua.s, .slice B1 ua.ni d1]) Tryz.underlying28 rfl yk rfl rfl (yd (BX5)) ?_));by_cases hg : ua.good = true
   ·
    refine onx rfl (zd en15 rfl ((ycq _ ua A1 B1 c1 d1 (Per.nums0 hx _ T5) hl true hg).mono ?_));rintro e w8 ⟨rfl, hb⟩;refine ⟨_, rfl, ?_⟩;have F6 := Ext.of_below hb No;have BX6 := BX5.ext F6 (fun h => h.elim)
    refine za rfl (zt rfl rfl (mvx rfl (onx rfl (zb Tryz.underlying28 rfl xa (by decide) rfl (onx rfl (zf Tryz.underlying25 rfl rfl BX6 rfl (onx rfl (zd en16 rfl ((zxz _ ua.bits ha).mono ?_)))))))));rintro e w9 ⟨rfl, hb⟩;refine ⟨_, rfl, ?_⟩;have F7 := F6.trans (Ext.of_below hb No);refine za rfl (zt rfl rfl (avx rfl (qz ?_)))
    exact zxk (isN ua.bits) ⟨rfl, rfl, rfl, trivial⟩ (⟨F7, fun h1 h2 => Classical.byContradiction fun h => by rw [zek ha hb0 h2 (fun h3 => h h3.2)] at h1; cases h1⟩)
   ·
    have hg := Bool.eq_false_iff.2 hg;refine onx rfl (zd en15 rfl ((ycq _ ua A1 B1 c1 d1 (Per.nums0 hx _ T5) hl false hg).mono ?_));rintro e w10 ⟨rfl, hb⟩;refine ⟨_, rfl, (za rfl (zt rfl rfl (mvx rfl (za rfl (zc rfl (za rfl (zc rfl (za rfl (zc rfl (za rfl (zh rfl rfl (avx rfl (qz ?_)))))))))))))⟩
    exact zxk false ⟨rfl, rfl, rfl, trivial⟩ (⟨Ext.of_below hb No, fun h1 h2 => by unfold vd at h2; rw [hg] at h2; cases h2⟩)
  ·
   refine zz 84 (.bool false) rfl ((by simp [hk3] : (.bool (ua.k == 3) : Value) = _)) (za rfl (zc rfl (za rfl (zc rfl (za rfl (zh rfl rfl (mvx rfl (za rfl (zc rfl (za rfl (zc rfl (za rfl (zc rfl (za rfl (zh rfl rfl (avx rfl (qz ?_)))))))))))))))))
   exact zxk false ⟨rfl, rfl, rfl, trivial⟩ (⟨Ext.refl _ _, fun h1 h2 => by rw [zek ha hb0 h2 (fun h3 => hk3 h3.1)] at h1; cases h1⟩)
 ·
  rintro n w7 ⟨X5, hnn⟩;have T6 := T5.trans X5;have BX6 := BX5.ext X5 (fun h => h.elim);have BZ6 := BZ5.ext X5 (fun h => h.elim)
  refine srx (za rfl (yh (cs := #[.int .i64 ua.k, .bool ua.yes, .bool ua.neg, .slice A1 ua.xs.length c1, .int .u64 ((ua.bits : Nat) : Int), .string ua.s, .slice B1 ua.ni d1]) Tryz.underlying28 rfl yk rfl rfl (yd (BX6)) (za rfl (yh (cs := #[.int .i64 ub.k, .bool ub.yes, .bool ub.neg, .slice A2 ub.xs.length c2, .int .u64 ((ub.bits : Nat) : Int), .string ub.s, .slice B2 ub.ni d2]) Tryz.underlying28 rfl yk rfl rfl (yd (BZ6)) ?_))))
  by_cases hs : vd ua ub = true
  ·
   refine za rfl (zd en9 rfl ((ybv hs (oa _ ua ub A1 B1 A2 B2 c1 d1 c2 d2 (Per.nums0 hx _ (T6)) hl ha (Per.nums0 hy _ (T6)) hl' hb0)).mono ?_));rintro e w11 ⟨rfl, hb⟩;refine ⟨_, rfl, ?_⟩;have F8 := Ext.of_below hb No;have T8 := T6.trans F8;have BX8 := BX6.ext F8 (fun h => h.elim);have BZ8 := BZ6.ext F8 (fun h => h.elim)
   refine za rfl (yf rfl (mvx rfl (onx rfl (yh (cs := #[.int .i64 ua.k, .bool ua.yes, .bool ua.neg, .slice A1 ua.xs.length c1, .int .u64 ((ua.bits : Nat) : Int), .string ua.s, .slice B1 ua.ni d1]) Tryz.underlying28 rfl yk rfl rfl (yd (BX8)) (onx rfl (yh (cs := #[.int .i64 ub.k, .bool ub.yes, .bool ub.neg, .slice A2 ub.xs.length c2, .int .u64 ((ub.bits : Nat) : Int), .string ub.s, .slice B2 ub.ni d2]) Tryz.underlying28 rfl yk rfl rfl (yd (BZ8)) (onx rfl (zd en8 rfl ((ybv he (kf _ ua ub A1 B1 A2 B2 c1 d1 c2 d2 (Per.nums0 hx _ (T8)) hl ha (Per.nums0 hy _ (T8)) hl' hb0)).mono ?_)))))))))
   rintro e w12 ⟨rfl, hb⟩;refine ⟨_, rfl, (za rfl (zh rfl rfl (mvx rfl (za rfl (zc rfl (za rfl (zt rfl rfl (anx rfl (zm (zl (rs := [.tmp 4]) (vs := [_]) rfl ⟨rfl, trivial⟩ ?_))))))))))⟩;exact ⟨rfl, (T8.trans (Ext.of_below hb No)).toBelow⟩
  ·
   have hs := Bool.eq_false_iff.2 hs;refine za rfl (zd en9 rfl ((ybv hs (oa _ ua ub A1 B1 A2 B2 c1 d1 c2 d2 (Per.nums0 hx _ (T6)) hl ha (Per.nums0 hy _ (T6)) hl' hb0)).mono ?_));rintro e w13 ⟨rfl, hb⟩
   refine ⟨_, rfl, (za rfl (yf rfl (mvx rfl (za rfl (zc rfl (za rfl (zc rfl (za rfl (zc rfl (za rfl (zt rfl rfl (mvx rfl (za rfl (zc rfl (za rfl (zt rfl rfl (anx rfl (zm (zl (rs := [.tmp 4]) (vs := [_]) rfl ⟨rfl, trivial⟩ ?_)))))))))))))))))))⟩;exact ⟨rfl, (T6.trans (Ext.of_below hb No)).toBelow⟩
theorem ag_false (he : eqV ua ub = false) : Calls Tryz.prog 4 #[.agg #[.int .i64 ua.k, .bool ua.yes, .bool ua.neg, .slice A1 ua.xs.length c1, .int .u64 ((ua.bits : Nat) : Int), .string ua.s, .slice B1 ua.ni d1], .agg #[.int .i64 ub.k, .bool ub.yes, .bool ub.neg, .slice A2 ub.xs.length c2, .int .u64 ((ub.bits : Nat) : Int), .string ub.s, .slice B2 ub.ni d2]] w fun e w' => e = .returned (.bool true) ∧ Below w.heap.size w w' := by
 obtain ⟨ov1, ov2⟩ := ordV_anti ua ub;have hin := ordV_in ub ua;refine zr Tryz.func4 rfl Tryz.ntmps4 rfl (srx (za rfl (zx rfl ?_)));rintro gA wA BX E1 G1;refine za rfl (zx rfl ?_);rintro gB wB BZ E2 G2;have BX0 := BX.ext E2 (fun h => h.elim);have T0 := E1.trans E2;refine anx rfl (zj (srx (za rfl (zd en5 rfl ((pl_known _).mono ?_)))));rintro e w1 ⟨rfl, hb⟩
 refine ⟨_, rfl, ?_⟩;have F1 := Ext.of_below hb No;have T1 := T0.trans F1;have BX1 := BX0.ext F1 (fun h => h.elim);have BZ1 := BZ.ext F1 (fun h => h.elim)
 refine za rfl (yf rfl (rnx (zp rfl (zq (zk (srx (za rfl (yh (cs := #[.int .i64 ua.k, .bool ua.yes, .bool ua.neg, .slice A1 ua.xs.length c1, .int .u64 ((ua.bits : Nat) : Int), .string ua.s, .slice B1 ua.ni d1]) Tryz.underlying28 rfl yk rfl rfl (yd (BX1)) (za rfl (yh (cs := #[.int .i64 ub.k, .bool ub.yes, .bool ub.neg, .slice A2 ub.xs.length c2, .int .u64 ((ub.bits : Nat) : Int), .string ub.s, .slice B2 ub.ni d2]) Tryz.underlying28 rfl yk rfl rfl (yd (BZ1)) (za rfl (zd en6 rfl ((zkx _ ua ub A1 B1 A2 B2 c1 d1 c2 d2 (Per.nums0 hx _ (T1)) hl ha (Per.nums0 hy _ (T1)) hl' hb0).mono ?_)))))))))))))
 rintro e w2 ⟨rfl, hb⟩;refine ⟨_, rfl, ?_⟩;have F2 := Ext.of_below hb No;have T2 := T1.trans F2;have BX2 := BX1.ext F2 (fun h => h.elim);have BZ2 := BZ1.ext F2 (fun h => h.elim)
 refine mvx rfl (za rfl (zn rfl rfl (za rfl (zn rfl rfl (za rfl (zn rfl rfl (avx rfl (avx rfl (anx rfl (srx (za rfl (yh (cs := #[.int .i64 ub.k, .bool ub.yes, .bool ub.neg, .slice A2 ub.xs.length c2, .int .u64 ((ub.bits : Nat) : Int), .string ub.s, .slice B2 ub.ni d2]) Tryz.underlying28 rfl yk rfl rfl (yd (BZ2)) (za rfl (yh (cs := #[.int .i64 ua.k, .bool ua.yes, .bool ua.neg, .slice A1 ua.xs.length c1, .int .u64 ((ua.bits : Nat) : Int), .string ua.s, .slice B1 ua.ni d1]) Tryz.underlying28 rfl yk rfl rfl (yd (BX2)) (za rfl (zd en6 rfl ((zkx _ ub ua A2 B2 A1 B1 c2 d2 c1 d1 (Per.nums0 hy _ (T2)) hl' hb0 (Per.nums0 hx _ (T2)) hl ha).mono ?_)))))))))))))))))
 rintro e w3 ⟨rfl, hb⟩;refine ⟨_, rfl, ?_⟩;have F3 := Ext.of_below hb No;have T3 := T2.trans F3;have BX3 := BX2.ext F3 (fun h => h.elim);have BZ3 := BZ2.ext F3 (fun h => h.elim);obtain ⟨w3, hw3⟩ : ∃ z, z = w3 := ⟨_, rfl⟩;subst hw3;refine mvx rfl (za rfl (zn rfl rfl (za rfl (zn rfl rfl (za rfl (zn rfl rfl (avx rfl (avx rfl (anx rfl (zj (zj ?_)))))))))))
 refine jb (No) Mut.none_ [] [] (zmq [Fx.of (.int .i64 (qh ua ub).1),
  Fx.of (.int .i64 (qh ub ua).1),
  Fx.of (.int .i64 (0 - (qh ub ua).1)),
  Fx.of (.bool false),
  Fx.of (.bool false),
  Fx.of (.bool (qh ua ub).2.1),
  Fx.of (.bool (qh ub ua).2.1),
  Fx.of (.bool false),
  Fx.of (.bool false),
  Fx.of (.bool false),
  Fx.of (.int .i64 (qh ua ub).2.2),
  Fx.of (.int .i64 (qh ub ua).2.2),
  Fx.of (.bool false),
  Fx.of (.bool false),
  Fx.of (.bool false),
  Fx.of (.agg #[.int .i64 ua.k, .bool ua.yes, .bool ua.neg, .slice A1 ua.xs.length c1, .int .u64 ((ua.bits : Nat) : Int), .string ua.s, .slice B1 ua.ni d1]),
  Fx.of (.agg #[.int .i64 ub.k, .bool ub.yes, .bool ub.neg, .slice A2 ub.xs.length c2, .int .u64 ((ub.bits : Nat) : Int), .string ub.s, .slice B2 ub.ni d2]),
  Fx.of (.bool (eqV ua ub)),
  Fx.of (.agg #[.int .i64 ub.k, .bool ub.yes, .bool ub.neg, .slice A2 ub.xs.length c2, .int .u64 ((ub.bits : Nat) : Int), .string ub.s, .slice B2 ub.ni d2]),
  Fx.of (.agg #[.int .i64 ua.k, .bool ua.yes, .bool ua.neg, .slice A1 ua.xs.length c1, .int .u64 ((ua.bits : Nat) : Int), .string ua.s, .slice B1 ua.ni d1]),
  Fx.of (.bool (eqV ub ua)),
  Fx.of (.bool false),
  Fx.of (.bool false),
  Fx.of (.bool false),
  Fx.of (.agg #[.int .i64 ua.k, .bool ua.yes, .bool ua.neg, .slice A1 ua.xs.length c1, .int .u64 ((ua.bits : Nat) : Int), .string ua.s, .slice B1 ua.ni d1]),
  Fx.of (.agg #[.int .i64 ub.k, .bool ub.yes, .bool ub.neg, .slice A2 ub.xs.length c2, .int .u64 ((ub.bits : Nat) : Int), .string ub.s, .slice B2 ub.ni d2]),
  Fx.of (.bool (vd ua ub)),
  Fx.of (.agg #[.int .i64 ub.k, .bool ub.yes, .bool ub.neg, .slice A2 ub.xs.length c2, .int .u64 ((ub.bits : Nat) : Int), .string ub.s, .slice B2 ub.ni d2]),
  Fx.of (.agg #[.int .i64 ua.k, .bool ua.yes, .bool ua.neg, .slice A1 ua.xs.length c1, .int .u64 ((ua.bits : Nat) : Int), .string ua.s, .slice B1 ua.ni d1]),
  Fx.of (.bool (vd ub ua)),
  Fx.of (.bool false),
  Fx.of (.bool false)]) mixed rfl trivial (fun _ h => by cases h) ?_ ?_
 · refine ⟨?_, ?_, ?_, ?_, ?_, ?_, ?_, ?_, ?_, ?_, ?_, ?_, ?_, ?_, ?_, ?_, ?_, ?_, ?_, ?_, ?_, ?_, ?_, ?_, ?_, ?_, ?_, ?_, ?_, ?_, ?_, ?_, trivial⟩
   · intro vs X wq K;exact zy rfl ⟨Below.refl _ _, Left.of rfl⟩
   · intro vs X wq K;exact zy rfl ⟨Below.refl _ _, Left.of rfl⟩
   · intro vs X wq K;obtain ⟨_, e1, k1⟩ := K.dep 1 rfl rfl rfl;refine ze 29 (.int .i64 (qh ub ua).1) rfl e1 ?_;exact zwv rfl (yg (by omega)) ⟨Below.refl _ _, Left.of rfl⟩
   · intro vs X wq K;obtain ⟨_, e0, k0⟩ := K.dep 0 rfl rfl rfl;refine ze 28 (.int .i64 (qh ua ub).1) rfl e0 ?_;obtain ⟨_, e2, k2⟩ := K.dep 2 rfl rfl rfl;refine ze 30 (.int .i64 (0 - (qh ub ua).1)) rfl e2 ?_;exact qc rfl rfl ⟨Below.refl _ _, Left.of ((by rw [ov1]; simp : (.bool ((qh ua ub).1 != (0 - (qh ub ua).1)) : Value) = _))⟩
   · intro vs X wq K;obtain ⟨_, e3, k3⟩ := K.dep 3 rfl rfl rfl;refine ze 31 (.bool false) rfl e3 ?_;exact zy rfl ⟨Below.refl _ _, Left.of rfl⟩
   · intro vs X wq K;obtain ⟨_, e4, k4⟩ := K.dep 4 rfl rfl rfl;refine ze 32 (.bool false) rfl e4 ?_;exact yt rfl (zy rfl ⟨Below.refl _ _, Left.of rfl⟩)
   · intro vs X wq K;obtain ⟨_, e4, k4⟩ := K.dep 4 rfl rfl rfl;refine ze 32 (.bool false) rfl e4 ?_;exact yt rfl (zy rfl ⟨Below.refl _ _, Left.of rfl⟩)
   · intro vs X wq K;obtain ⟨_, e5, k5⟩ := K.dep 5 rfl rfl rfl;refine ze 33 (.bool (qh ua ub).2.1) rfl e5 ?_;obtain ⟨_, e6, k6⟩ := K.dep 6 rfl rfl rfl;refine ze 34 (.bool (qh ub ua).2.1) rfl e6 ?_;obtain ⟨_, e4, k4⟩ := K.dep 4 rfl rfl rfl;refine ze 32 (.bool false) rfl e4 ?_
     exact yt rfl (ob Tryz.underlying4 rfl rfl ⟨Below.refl _ _, Left.of ((by rw [ov2]; simp : (.bool ((qh ua ub).2.1 != (qh ub ua).2.1) : Value) = _))⟩)
   · intro vs X wq K;obtain ⟨_, e4, k4⟩ := K.dep 4 rfl rfl rfl;refine ze 32 (.bool false) rfl e4 ?_;obtain ⟨_, e7, k7⟩ := K.dep 7 rfl rfl rfl;refine ze 35 (.bool false) rfl e7 ?_;exact zh rfl rfl ⟨Below.refl _ _, Left.of rfl⟩
   · intro vs X wq K;obtain ⟨_, e8, k8⟩ := K.dep 8 rfl rfl rfl;refine ze 36 (.bool false) rfl e8 ?_;exact zy rfl ⟨Below.refl _ _, Left.of rfl⟩
   · intro vs X wq K;obtain ⟨_, e9, k9⟩ := K.dep 9 rfl rfl rfl;refine ze 37 (.bool false) rfl e9 ?_;exact yt rfl (zy rfl ⟨Below.refl _ _, Left.of rfl⟩)
   · intro vs X wq K;obtain ⟨_, e9, k9⟩ := K.dep 9 rfl rfl rfl;refine ze 37 (.bool false) rfl e9 ?_;exact yt rfl (zy rfl ⟨Below.refl _ _, Left.of rfl⟩)
   · intro vs X wq K;obtain ⟨_, e10, k10⟩ := K.dep 10 rfl rfl rfl;refine ze 38 (.int .i64 (qh ua ub).2.2) rfl e10 ?_;obtain ⟨_, e11, k11⟩ := K.dep 11 rfl rfl rfl;refine ze 39 (.int .i64 (qh ub ua).2.2) rfl e11 ?_;obtain ⟨_, e9, k9⟩ := K.dep 9 rfl rfl rfl;refine ze 37 (.bool false) rfl e9 ?_
     exact yt rfl (qc rfl rfl ⟨Below.refl _ _, Left.of ((by rw [ov2]; simp : (.bool ((qh ua ub).2.2 != (qh ub ua).2.2) : Value) = _))⟩)
   · intro vs X wq K;obtain ⟨_, e9, k9⟩ := K.dep 9 rfl rfl rfl;refine ze 37 (.bool false) rfl e9 ?_;obtain ⟨_, e12, k12⟩ := K.dep 12 rfl rfl rfl;refine ze 40 (.bool false) rfl e12 ?_;exact zh rfl rfl ⟨Below.refl _ _, Left.of rfl⟩
   · intro vs X wq K;obtain ⟨_, e13, k13⟩ := K.dep 13 rfl rfl rfl;refine ze 41 (.bool false) rfl e13 ?_;exact zy rfl ⟨Below.refl _ _, Left.of rfl⟩
   · intro vs X wq K;have LE := K.1;obtain ⟨_, e14, k14⟩ := K.dep 14 rfl rfl rfl;refine ze 42 (.bool false) rfl e14 ?_
     exact yt rfl (yh (cs := #[.int .i64 ua.k, .bool ua.yes, .bool ua.neg, .slice A1 ua.xs.length c1, .int .u64 ((ua.bits : Nat) : Int), .string ua.s, .slice B1 ua.ni d1]) Tryz.underlying28 rfl yk rfl rfl (yd (BX3.ext ((Ext.refl No _).drew.trans LE) (fun h ↦ h.elim))) ⟨Below.refl _ _, Left.of rfl⟩)
   · intro vs X wq K;have LE := K.1;obtain ⟨_, e14, k14⟩ := K.dep 14 rfl rfl rfl;refine ze 42 (.bool false) rfl e14 ?_
     exact yt rfl (yh (cs := #[.int .i64 ub.k, .bool ub.yes, .bool ub.neg, .slice A2 ub.xs.length c2, .int .u64 ((ub.bits : Nat) : Int), .string ub.s, .slice B2 ub.ni d2]) Tryz.underlying28 rfl yk rfl rfl (yd (BZ3.ext ((Ext.refl No _).drew.trans LE) (fun h ↦ h.elim))) ⟨Below.refl _ _, Left.of rfl⟩)
   · intro vs X wq K;have LE := K.1;obtain ⟨_, e15, k15⟩ := K.dep 15 rfl rfl rfl;refine ze 43 (.agg #[.int .i64 ua.k, .bool ua.yes, .bool ua.neg, .slice A1 ua.xs.length c1, .int .u64 ((ua.bits : Nat) : Int), .string ua.s, .slice B1 ua.ni d1]) rfl e15 ?_;obtain ⟨_, e16, k16⟩ := K.dep 16 rfl rfl rfl
     refine ze 44 (.agg #[.int .i64 ub.k, .bool ub.yes, .bool ub.neg, .slice A2 ub.xs.length c2, .int .u64 ((ub.bits : Nat) : Int), .string ub.s, .slice B2 ub.ni d2]) rfl e16 ?_;obtain ⟨_, e14, k14⟩ := K.dep 14 rfl rfl rfl
     refine ze 42 (.bool false) rfl e14 (yt rfl (zd en8 rfl ((kf _ ua ub A1 B1 A2 B2 c1 d1 c2 d2 (Per.nums0 hx _ (T3.trans ((Ext.refl No _).drew.trans LE))) hl ha (Per.nums0 hy _ (T3.trans ((Ext.refl No _).drew.trans LE))) hl' hb0).mono ?_)));rintro e w2 ⟨rfl, hb⟩;exact ⟨_, rfl, hb, Left.of rfl⟩
   · intro vs X wq K;have LE := K.1;obtain ⟨_, e14, k14⟩ := K.dep 14 rfl rfl rfl;refine ze 42 (.bool false) rfl e14 ?_
     exact yt rfl (yh (cs := #[.int .i64 ub.k, .bool ub.yes, .bool ub.neg, .slice A2 ub.xs.length c2, .int .u64 ((ub.bits : Nat) : Int), .string ub.s, .slice B2 ub.ni d2]) Tryz.underlying28 rfl yk rfl rfl (yd (BZ3.ext ((Ext.refl No _).drew.trans LE) (fun h ↦ h.elim))) ⟨Below.refl _ _, Left.of rfl⟩)
   · intro vs X wq K;have LE := K.1;obtain ⟨_, e14, k14⟩ := K.dep 14 rfl rfl rfl;refine ze 42 (.bool false) rfl e14 ?_
     exact yt rfl (yh (cs := #[.int .i64 ua.k, .bool ua.yes, .bool ua.neg, .slice A1 ua.xs.length c1, .int .u64 ((ua.bits : Nat) : Int), .string ua.s, .slice B1 ua.ni d1]) Tryz.underlying28 rfl yk rfl rfl (yd (BX3.ext ((Ext.refl No _).drew.trans LE) (fun h ↦ h.elim))) ⟨Below.refl _ _, Left.of rfl⟩)
   · intro vs X wq K;have LE := K.1;obtain ⟨_, e18, k18⟩ := K.dep 18 rfl rfl rfl;refine ze 46 (.agg #[.int .i64 ub.k, .bool ub.yes, .bool ub.neg, .slice A2 ub.xs.length c2, .int .u64 ((ub.bits : Nat) : Int), .string ub.s, .slice B2 ub.ni d2]) rfl e18 ?_;obtain ⟨_, e19, k19⟩ := K.dep 19 rfl rfl rfl
     refine ze 47 (.agg #[.int .i64 ua.k, .bool ua.yes, .bool ua.neg, .slice A1 ua.xs.length c1, .int .u64 ((ua.bits : Nat) : Int), .string ua.s, .slice B1 ua.ni d1]) rfl e19 ?_;obtain ⟨_, e14, k14⟩ := K.dep 14 rfl rfl rfl
     refine ze 42 (.bool false) rfl e14 (yt rfl (zd en8 rfl ((kf _ ub ua A2 B2 A1 B1 c2 d2 c1 d1 (Per.nums0 hy _ (T3.trans ((Ext.refl No _).drew.trans LE))) hl' hb0 (Per.nums0 hx _ (T3.trans ((Ext.refl No _).drew.trans LE))) hl ha).mono ?_)));rintro e w2 ⟨rfl, hb⟩;exact ⟨_, rfl, hb, Left.of rfl⟩
   · intro vs X wq K;obtain ⟨_, e17, k17⟩ := K.dep 17 rfl rfl rfl;refine ze 45 (.bool (eqV ua ub)) rfl e17 ?_;obtain ⟨_, e20, k20⟩ := K.dep 20 rfl rfl rfl;refine ze 48 (.bool (eqV ub ua)) rfl e20 ?_;obtain ⟨_, e14, k14⟩ := K.dep 14 rfl rfl rfl;refine ze 42 (.bool false) rfl e14 ?_
     exact yt rfl (ob Tryz.underlying4 rfl rfl ⟨Below.refl _ _, Left.of ((by rw [eqV_comm ub ua]; simp : (.bool ((eqV ua ub) != (eqV ub ua)) : Value) = _))⟩)
   · intro vs X wq K;obtain ⟨_, e14, k14⟩ := K.dep 14 rfl rfl rfl;refine ze 42 (.bool false) rfl e14 ?_;obtain ⟨_, e21, k21⟩ := K.dep 21 rfl rfl rfl;refine ze 49 (.bool false) rfl e21 ?_;exact zh rfl rfl ⟨Below.refl _ _, Left.of rfl⟩
   · intro vs X wq K;obtain ⟨_, e22, k22⟩ := K.dep 22 rfl rfl rfl;refine ze 50 (.bool false) rfl e22 ?_;exact zy rfl ⟨Below.refl _ _, Left.of rfl⟩
   · intro vs X wq K;have LE := K.1;obtain ⟨_, e23, k23⟩ := K.dep 23 rfl rfl rfl;refine ze 51 (.bool false) rfl e23 ?_
     exact yt rfl (yh (cs := #[.int .i64 ua.k, .bool ua.yes, .bool ua.neg, .slice A1 ua.xs.length c1, .int .u64 ((ua.bits : Nat) : Int), .string ua.s, .slice B1 ua.ni d1]) Tryz.underlying28 rfl yk rfl rfl (yd (BX3.ext ((Ext.refl No _).drew.trans LE) (fun h ↦ h.elim))) ⟨Below.refl _ _, Left.of rfl⟩)
   · intro vs X wq K;have LE := K.1;obtain ⟨_, e23, k23⟩ := K.dep 23 rfl rfl rfl;refine ze 51 (.bool false) rfl e23 ?_
     exact yt rfl (yh (cs := #[.int .i64 ub.k, .bool ub.yes, .bool ub.neg, .slice A2 ub.xs.length c2, .int .u64 ((ub.bits : Nat) : Int), .string ub.s, .slice B2 ub.ni d2]) Tryz.underlying28 rfl yk rfl rfl (yd (BZ3.ext ((Ext.refl No _).drew.trans LE) (fun h ↦ h.elim))) ⟨Below.refl _ _, Left.of rfl⟩)
   · intro vs X wq K;have LE := K.1;obtain ⟨_, e24, k24⟩ := K.dep 24 rfl rfl rfl;refine ze 52 (.agg #[.int .i64 ua.k, .bool ua.yes, .bool ua.neg, .slice A1 ua.xs.length c1, .int .u64 ((ua.bits : Nat) : Int), .string ua.s, .slice B1 ua.ni d1]) rfl e24 ?_;obtain ⟨_, e25, k25⟩ := K.dep 25 rfl rfl rfl
     refine ze 53 (.agg #[.int .i64 ub.k, .bool ub.yes, .bool ub.neg, .slice A2 ub.xs.length c2, .int .u64 ((ub.bits : Nat) : Int), .string ub.s, .slice B2 ub.ni d2]) rfl e25 ?_;obtain ⟨_, e23, k23⟩ := K.dep 23 rfl rfl rfl
     refine ze 51 (.bool false) rfl e23 (yt rfl (zd en9 rfl ((oa _ ua ub A1 B1 A2 B2 c1 d1 c2 d2 (Per.nums0 hx _ (T3.trans ((Ext.refl No _).drew.trans LE))) hl ha (Per.nums0 hy _ (T3.trans ((Ext.refl No _).drew.trans LE))) hl' hb0).mono ?_)));rintro e w2 ⟨rfl, hb⟩;exact ⟨_, rfl, hb, Left.of rfl⟩
   · intro vs X wq K;have LE := K.1;obtain ⟨_, e23, k23⟩ := K.dep 23 rfl rfl rfl;refine ze 51 (.bool false) rfl e23 ?_
     exact yt rfl (yh (cs := #[.int .i64 ub.k, .bool ub.yes, .bool ub.neg, .slice A2 ub.xs.length c2, .int .u64 ((ub.bits : Nat) : Int), .string ub.s, .slice B2 ub.ni d2]) Tryz.underlying28 rfl yk rfl rfl (yd (BZ3.ext ((Ext.refl No _).drew.trans LE) (fun h ↦ h.elim))) ⟨Below.refl _ _, Left.of rfl⟩)
   · intro vs X wq K;have LE := K.1;obtain ⟨_, e23, k23⟩ := K.dep 23 rfl rfl rfl;refine ze 51 (.bool false) rfl e23 ?_
     exact yt rfl (yh (cs := #[.int .i64 ua.k, .bool ua.yes, .bool ua.neg, .slice A1 ua.xs.length c1, .int .u64 ((ua.bits : Nat) : Int), .string ua.s, .slice B1 ua.ni d1]) Tryz.underlying28 rfl yk rfl rfl (yd (BX3.ext ((Ext.refl No _).drew.trans LE) (fun h ↦ h.elim))) ⟨Below.refl _ _, Left.of rfl⟩)
   · intro vs X wq K;have LE := K.1;obtain ⟨_, e27, k27⟩ := K.dep 27 rfl rfl rfl;refine ze 55 (.agg #[.int .i64 ub.k, .bool ub.yes, .bool ub.neg, .slice A2 ub.xs.length c2, .int .u64 ((ub.bits : Nat) : Int), .string ub.s, .slice B2 ub.ni d2]) rfl e27 ?_;obtain ⟨_, e28, k28⟩ := K.dep 28 rfl rfl rfl
     refine ze 56 (.agg #[.int .i64 ua.k, .bool ua.yes, .bool ua.neg, .slice A1 ua.xs.length c1, .int .u64 ((ua.bits : Nat) : Int), .string ua.s, .slice B1 ua.ni d1]) rfl e28 ?_;obtain ⟨_, e23, k23⟩ := K.dep 23 rfl rfl rfl
     refine ze 51 (.bool false) rfl e23 (yt rfl (zd en9 rfl ((oa _ ub ua A2 B2 A1 B1 c2 d2 c1 d1 (Per.nums0 hy _ (T3.trans ((Ext.refl No _).drew.trans LE))) hl' hb0 (Per.nums0 hx _ (T3.trans ((Ext.refl No _).drew.trans LE))) hl ha).mono ?_)));rintro e w2 ⟨rfl, hb⟩;exact ⟨_, rfl, hb, Left.of rfl⟩
   · intro vs X wq K;obtain ⟨_, e26, k26⟩ := K.dep 26 rfl rfl rfl;refine ze 54 (.bool (vd ua ub)) rfl e26 ?_;obtain ⟨_, e29, k29⟩ := K.dep 29 rfl rfl rfl;refine ze 57 (.bool (vd ub ua)) rfl e29 ?_;obtain ⟨_, e23, k23⟩ := K.dep 23 rfl rfl rfl;refine ze 51 (.bool false) rfl e23 ?_
     exact yt rfl (ob Tryz.underlying4 rfl rfl ⟨Below.refl _ _, Left.of ((by rw [sameV_comm ub ua]; simp : (.bool ((vd ua ub) != (vd ub ua)) : Value) = _))⟩)
   · intro vs X wq K;obtain ⟨_, e23, k23⟩ := K.dep 23 rfl rfl rfl;refine ze 51 (.bool false) rfl e23 ?_;obtain ⟨_, e30, k30⟩ := K.dep 30 rfl rfl rfl;refine ze 58 (.bool false) rfl e30 ?_;exact zh rfl rfl ⟨Below.refl _ _, Left.of rfl⟩
 intro vs w4 LE AO AL AF AA;have hbd : Below (w3).heap.size (w3) w4 := (((Ext.refl No (w3)).drew).trans LE).toBelow;obtain ⟨_, e31, k31⟩ := AL.2.2.2.2.2.2.2.2.2.2.2.2.2.2.2.2.2.2.2.2.2.2.2.2.2.2.2.2.2.2.2.1;refine gu (τ := [(2, _), (3, _), (4, _), (5, _), (59, .bool false)]) ⟨rfl, rfl, rfl, rfl, congrArg some e31, trivial⟩ ?_;clear AL AF AA AO;have F4 := Ext.of_below hbd No
 have T4 := T3.trans F4;have BX4 := BX3.ext F4 (fun h => h.elim);have BZ4 := BZ3.ext F4 (fun h => h.elim);obtain ⟨w4, hw4⟩ : ∃ z, z = w4 := ⟨_, rfl⟩;subst hw4;refine zk (zp rfl (zq (zk (zj (zj ?_)))))
 refine jb (No) Mut.none_ [] [] (zmq [Fx.of (.agg #[.int .i64 ua.k, .bool ua.yes, .bool ua.neg, .slice A1 ua.xs.length c1, .int .u64 ((ua.bits : Nat) : Int), .string ua.s, .slice B1 ua.ni d1]),
  Fx.of (.agg #[.int .i64 ub.k, .bool ub.yes, .bool ub.neg, .slice A2 ub.xs.length c2, .int .u64 ((ub.bits : Nat) : Int), .string ub.s, .slice B2 ub.ni d2]),
  Fx.of (.bool false),
  Fx.of (.bool false),
  Fx.of undef,
  Fx.of undef,
  Fx.of undef,
  Fx.of undef,
  Fx.of undef,
  Fx.of undef,
  Fx.of undef,
  Fx.of undef,
  Fx.of undef,
  Fx.of undef,
  Fx.of undef,
  Fx.of undef,
  Fx.of undef,
  Fx.of undef,
  Fx.of undef,
  Fx.of undef,
  Fx.of (.bool false)]) mixed rfl trivial (fun _ h => by cases h) ?_ ?_
 · refine ⟨?_, ?_, ?_, ?_, ?_, ?_, ?_, ?_, ?_, ?_, ?_, ?_, ?_, ?_, ?_, ?_, ?_, ?_, ?_, ?_, ?_, trivial⟩
   · intro vs X wq K;have LE := K.1;exact yh (cs := #[.int .i64 ua.k, .bool ua.yes, .bool ua.neg, .slice A1 ua.xs.length c1, .int .u64 ((ua.bits : Nat) : Int), .string ua.s, .slice B1 ua.ni d1]) Tryz.underlying28 rfl yk rfl rfl (yd (BX4.ext ((Ext.refl No _).drew.trans LE) (fun h ↦ h.elim))) ⟨Below.refl _ _, Left.of rfl⟩
   · intro vs X wq K;have LE := K.1;exact yh (cs := #[.int .i64 ub.k, .bool ub.yes, .bool ub.neg, .slice A2 ub.xs.length c2, .int .u64 ((ub.bits : Nat) : Int), .string ub.s, .slice B2 ub.ni d2]) Tryz.underlying28 rfl yk rfl rfl (yd (BZ4.ext ((Ext.refl No _).drew.trans LE) (fun h ↦ h.elim))) ⟨Below.refl _ _, Left.of rfl⟩
   · intro vs X wq K;have LE := K.1;obtain ⟨_, e0, k0⟩ := K.dep 0 rfl rfl rfl;refine ze 60 (.agg #[.int .i64 ua.k, .bool ua.yes, .bool ua.neg, .slice A1 ua.xs.length c1, .int .u64 ((ua.bits : Nat) : Int), .string ua.s, .slice B1 ua.ni d1]) rfl e0 ?_;obtain ⟨_, e1, k1⟩ := K.dep 1 rfl rfl rfl
     refine ze 61 (.agg #[.int .i64 ub.k, .bool ub.yes, .bool ub.neg, .slice A2 ub.xs.length c2, .int .u64 ((ub.bits : Nat) : Int), .string ub.s, .slice B2 ub.ni d2]) rfl e1 (zd en8 rfl ((ybv he (kf _ ua ub A1 B1 A2 B2 c1 d1 c2 d2 (Per.nums0 hx _ (T4.trans ((Ext.refl No _).drew.trans LE))) hl ha (Per.nums0 hy _ (T4.trans ((Ext.refl No _).drew.trans LE))) hl' hb0)).mono ?_))
     rintro e w2 ⟨rfl, hb⟩;exact ⟨_, rfl, hb, Left.of rfl⟩
   · intro vs X wq K;obtain ⟨_, e2, k2⟩ := K.dep 2 rfl rfl rfl;refine ze 62 (.bool false) rfl e2 ?_;exact zy rfl ⟨Below.refl _ _, Left.of rfl⟩
   · intro vs X wq K;obtain ⟨_, e3, k3⟩ := K.dep 3 rfl rfl rfl;refine ze 63 (.bool false) rfl e3 ?_;exact zc rfl ⟨Below.refl _ _, Left.of rfl⟩
   · intro vs X wq K;obtain ⟨_, e4, k4⟩ := K.dep 4 rfl rfl rfl;refine ze 64 (undef) rfl e4 ?_;obtain ⟨_, e3, k3⟩ := K.dep 3 rfl rfl rfl;refine ze 63 (.bool false) rfl e3 ?_;exact zc rfl ⟨Below.refl _ _, Left.of rfl⟩
   · intro vs X wq K;obtain ⟨_, e3, k3⟩ := K.dep 3 rfl rfl rfl;refine ze 63 (.bool false) rfl e3 ?_;exact zc rfl ⟨Below.refl _ _, Left.of rfl⟩
   · intro vs X wq K;obtain ⟨_, e6, k6⟩ := K.dep 6 rfl rfl rfl;refine ze 66 (undef) rfl e6 ?_;obtain ⟨_, e3, k3⟩ := K.dep 3 rfl rfl rfl;refine ze 63 (.bool false) rfl e3 ?_;exact zc rfl ⟨Below.refl _ _, Left.of rfl⟩
   · intro vs X wq K;obtain ⟨_, e5, k5⟩ := K.dep 5 rfl rfl rfl;refine ze 65 (undef) rfl e5 ?_;obtain ⟨_, e7, k7⟩ := K.dep 7 rfl rfl rfl;refine ze 67 (undef) rfl e7 ?_;obtain ⟨_, e3, k3⟩ := K.dep 3 rfl rfl rfl;refine ze 63 (.bool false) rfl e3 ?_;exact zc rfl ⟨Below.refl _ _, Left.of rfl⟩
   · intro vs X wq K;obtain ⟨_, e8, k8⟩ := K.dep 8 rfl rfl rfl;refine ze 68 (undef) rfl e8 ?_;obtain ⟨_, e3, k3⟩ := K.dep 3 rfl rfl rfl;refine ze 63 (.bool false) rfl e3 ?_;exact zc rfl ⟨Below.refl _ _, Left.of rfl⟩
   · intro vs X wq K;obtain ⟨_, e9, k9⟩ := K.dep 9 rfl rfl rfl;refine ze 69 (undef) rfl e9 ?_;exact yq rfl rfl ⟨Below.refl _ _, Left.of rfl⟩
   · intro vs X wq K;obtain ⟨_, e10, k10⟩ := K.dep 10 rfl rfl rfl;refine ze 70 (undef) rfl e10 ?_;obtain ⟨_, e9, k9⟩ := K.dep 9 rfl rfl rfl;refine ze 69 (undef) rfl e9 ?_;exact yq rfl rfl ⟨Below.refl _ _, Left.of rfl⟩
   · intro vs X wq K;obtain ⟨_, e9, k9⟩ := K.dep 9 rfl rfl rfl;refine ze 69 (undef) rfl e9 ?_;exact yq rfl rfl ⟨Below.refl _ _, Left.of rfl⟩
   · intro vs X wq K;obtain ⟨_, e12, k12⟩ := K.dep 12 rfl rfl rfl;refine ze 72 (undef) rfl e12 ?_;obtain ⟨_, e9, k9⟩ := K.dep 9 rfl rfl rfl;refine ze 69 (undef) rfl e9 ?_;exact yq rfl rfl ⟨Below.refl _ _, Left.of rfl⟩
   · intro vs X wq K;obtain ⟨_, e11, k11⟩ := K.dep 11 rfl rfl rfl;refine ze 71 (undef) rfl e11 ?_;obtain ⟨_, e13, k13⟩ := K.dep 13 rfl rfl rfl;refine ze 73 (undef) rfl e13 ?_;obtain ⟨_, e9, k9⟩ := K.dep 9 rfl rfl rfl;refine ze 69 (undef) rfl e9 ?_;exact yq rfl rfl ⟨Below.refl _ _, Left.of rfl⟩
   · intro vs X wq K;obtain ⟨_, e9, k9⟩ := K.dep 9 rfl rfl rfl;refine ze 69 (undef) rfl e9 ?_;obtain ⟨_, e14, k14⟩ := K.dep 14 rfl rfl rfl;refine ze 74 (undef) rfl e14 ?_;obtain ⟨_, e3, k3⟩ := K.dep 3 rfl rfl rfl;refine ze 63 (.bool false) rfl e3 ?_;exact zc rfl ⟨Below.refl _ _, Left.of rfl⟩
   · intro vs X wq K;obtain ⟨_, e15, k15⟩ := K.dep 15 rfl rfl rfl;refine ze 75 (undef) rfl e15 ?_;obtain ⟨_, e3, k3⟩ := K.dep 3 rfl rfl rfl;refine ze 63 (.bool false) rfl e3 ?_;exact zc rfl ⟨Below.refl _ _, Left.of rfl⟩
   · intro vs X wq K;obtain ⟨_, e16, k16⟩ := K.dep 16 rfl rfl rfl;refine ze 76 (undef) rfl e16 ?_;exact yq rfl rfl ⟨Below.refl _ _, Left.of rfl⟩
   · intro vs X wq K;obtain ⟨_, e17, k17⟩ := K.dep 17 rfl rfl rfl;refine ze 77 (undef) rfl e17 ?_;obtain ⟨_, e16, k16⟩ := K.dep 16 rfl rfl rfl;refine ze 76 (undef) rfl e16 ?_;exact yq rfl rfl ⟨Below.refl _ _, Left.of rfl⟩
   · intro vs X wq K;obtain ⟨_, e16, k16⟩ := K.dep 16 rfl rfl rfl;refine ze 76 (undef) rfl e16 ?_;obtain ⟨_, e18, k18⟩ := K.dep 18 rfl rfl rfl;refine ze 78 (undef) rfl e18 ?_;obtain ⟨_, e3, k3⟩ := K.dep 3 rfl rfl rfl;refine ze 63 (.bool false) rfl e3 ?_;exact zc rfl ⟨Below.refl _ _, Left.of rfl⟩
   · intro vs X wq K;obtain ⟨_, e3, k3⟩ := K.dep 3 rfl rfl rfl;refine ze 63 (.bool false) rfl e3 ?_;obtain ⟨_, e19, k19⟩ := K.dep 19 rfl rfl rfl;refine ze 79 (undef) rfl e19 ?_;exact zh rfl rfl ⟨Below.refl _ _, Left.of rfl⟩
 intro vs w5 LE AO AL AF AA;have hbd : Below (w4).heap.size (w4) w5 := (((Ext.refl No (w4)).drew).trans LE).toBelow;obtain ⟨_, e20, k20⟩ := AL.2.2.2.2.2.2.2.2.2.2.2.2.2.2.2.2.2.2.2.2.1;refine gu (τ := [(2, _), (3, _), (4, _), (80, .bool false)]) ⟨rfl, rfl, rfl, congrArg some e20, trivial⟩ ?_;clear AL AF AA AO;have F5 := Ext.of_below hbd No;have T5 := T4.trans F5
 have BX5 := BX4.ext F5 (fun h => h.elim);have BZ5 := BZ4.ext F5 (fun h => h.elim);obtain ⟨w5, hw5⟩ : ∃ z, z = w5 := ⟨_, rfl⟩;subst hw5;refine zk (zp rfl (zq (zk (zj (cw_join (ι := Bool) (fun n => [(2, .pointer (some ⟨gA, 0, none⟩)), (3, .pointer (some ⟨gB, 0, none⟩)), (11, .bool n)]) (fun n z => Ext No w5 z ∧ (eqV ua ub = false → vd ua ub = true → n = true)) ?_ ?_)))))
 ·
  refine yo (za rfl (zb Tryz.underlying28 rfl sz3 (by decide) rfl (za rfl (zf Tryz.underlying3 rfl rfl BX5 rfl (za rfl (ya rfl rfl (mvx rfl ?_)))))));by_cases hk3 : ua.k = 3
  ·
   refine zz 84 (.bool true) rfl ((by simp [hk3] : (.bool (ua.k == 3) : Value) = _)) (onx rfl (yh (cs := #[.int .i64 ua.k, .bool ua.yes, .bool ua.neg, .slice A1 ua.xs.length c1, .int .u64 ((ua.bits : Nat) : Int), .string ua.s, .slice B1 ua.ni d1]) Tryz.underlying28 rfl yk rfl rfl (yd (BX5)) ?_));by_cases hg : ua.good = true
   ·
    refine onx rfl (zd en15 rfl ((ycq _ ua A1 B1 c1 d1 (Per.nums0 hx _ T5) hl true hg).mono ?_));rintro e w8 ⟨rfl, hb⟩;refine ⟨_, rfl, ?_⟩;have F6 := Ext.of_below hb No;have BX6 := BX5.ext F6 (fun h => h.elim)
    refine za rfl (zt rfl rfl (mvx rfl (onx rfl (zb Tryz.underlying28 rfl xa (by decide) rfl (onx rfl (zf Tryz.underlying25 rfl rfl BX6 rfl (onx rfl (zd en16 rfl ((zxz _ ua.bits ha).mono ?_)))))))));rintro e w9 ⟨rfl, hb⟩;refine ⟨_, rfl, ?_⟩;have F7 := F6.trans (Ext.of_below hb No);refine za rfl (zt rfl rfl (avx rfl (qz ?_)))
    exact zxk (isN ua.bits) ⟨rfl, rfl, rfl, trivial⟩ (⟨F7, fun h1 h2 => Classical.byContradiction fun h => by rw [zek ha hb0 h2 (fun h3 => h h3.2)] at h1; cases h1⟩)
   ·
    have hg := Bool.eq_false_iff.2 hg;refine onx rfl (zd en15 rfl ((ycq _ ua A1 B1 c1 d1 (Per.nums0 hx _ T5) hl false hg).mono ?_));rintro e w10 ⟨rfl, hb⟩;refine ⟨_, rfl, (za rfl (zt rfl rfl (mvx rfl (za rfl (zc rfl (za rfl (zc rfl (za rfl (zc rfl (za rfl (zh rfl rfl (avx rfl (qz ?_)))))))))))))⟩
    exact zxk false ⟨rfl, rfl, rfl, trivial⟩ (⟨Ext.of_below hb No, fun h1 h2 => by unfold vd at h2; rw [hg] at h2; cases h2⟩)
  ·
   refine zz 84 (.bool false) rfl ((by simp [hk3] : (.bool (ua.k == 3) : Value) = _)) (za rfl (zc rfl (za rfl (zc rfl (za rfl (zh rfl rfl (mvx rfl (za rfl (zc rfl (za rfl (zc rfl (za rfl (zc rfl (za rfl (zh rfl rfl (avx rfl (qz ?_)))))))))))))))))
   exact zxk false ⟨rfl, rfl, rfl, trivial⟩ (⟨Ext.refl _ _, fun h1 h2 => by rw [zek ha hb0 h2 (fun h3 => hk3 h3.1)] at h1; cases h1⟩)
 ·
  rintro n w7 ⟨X5, hnn⟩;have T6 := T5.trans X5;have BX6 := BX5.ext X5 (fun h => h.elim);have BZ6 := BZ5.ext X5 (fun h => h.elim)
  refine srx (za rfl (yh (cs := #[.int .i64 ua.k, .bool ua.yes, .bool ua.neg, .slice A1 ua.xs.length c1, .int .u64 ((ua.bits : Nat) : Int), .string ua.s, .slice B1 ua.ni d1]) Tryz.underlying28 rfl yk rfl rfl (yd (BX6)) (za rfl (yh (cs := #[.int .i64 ub.k, .bool ub.yes, .bool ub.neg, .slice A2 ub.xs.length c2, .int .u64 ((ub.bits : Nat) : Int), .string ub.s, .slice B2 ub.ni d2]) Tryz.underlying28 rfl yk rfl rfl (yd (BZ6)) ?_))))
  by_cases hs : vd ua ub = true
  ·
   refine za rfl (zd en9 rfl ((ybv hs (oa _ ua ub A1 B1 A2 B2 c1 d1 c2 d2 (Per.nums0 hx _ (T6)) hl ha (Per.nums0 hy _ (T6)) hl' hb0)).mono ?_));rintro e w11 ⟨rfl, hb⟩;refine ⟨_, rfl, ?_⟩;have F8 := Ext.of_below hb No;have T8 := T6.trans F8;have BX8 := BX6.ext F8 (fun h => h.elim);have BZ8 := BZ6.ext F8 (fun h => h.elim)
   refine za rfl (yf rfl (mvx rfl (onx rfl (yh (cs := #[.int .i64 ua.k, .bool ua.yes, .bool ua.neg, .slice A1 ua.xs.length c1, .int .u64 ((ua.bits : Nat) : Int), .string ua.s, .slice B1 ua.ni d1]) Tryz.underlying28 rfl yk rfl rfl (yd (BX8)) (onx rfl (yh (cs := #[.int .i64 ub.k, .bool ub.yes, .bool ub.neg, .slice A2 ub.xs.length c2, .int .u64 ((ub.bits : Nat) : Int), .string ub.s, .slice B2 ub.ni d2]) Tryz.underlying28 rfl yk rfl rfl (yd (BZ8)) (onx rfl (zd en8 rfl ((ybv he (kf _ ua ub A1 B1 A2 B2 c1 d1 c2 d2 (Per.nums0 hx _ (T8)) hl ha (Per.nums0 hy _ (T8)) hl' hb0)).mono ?_)))))))))
   rintro e w12 ⟨rfl, hb⟩;refine ⟨_, rfl, (za rfl (zh rfl rfl (mvx rfl (onx rfl (zy rfl (za rfl (zh rfl rfl (anx rfl (zm (zl (rs := [.tmp 4]) (vs := [_]) rfl ⟨rfl, trivial⟩ ?_))))))))))⟩;exact ⟨by rw [hnn he hs]; rfl, (T8.trans (Ext.of_below hb No)).toBelow⟩
  ·
   have hs := Bool.eq_false_iff.2 hs;refine za rfl (zd en9 rfl ((ybv hs (oa _ ua ub A1 B1 A2 B2 c1 d1 c2 d2 (Per.nums0 hx _ (T6)) hl ha (Per.nums0 hy _ (T6)) hl' hb0)).mono ?_));rintro e w13 ⟨rfl, hb⟩
   refine ⟨_, rfl, (za rfl (yf rfl (mvx rfl (za rfl (zc rfl (za rfl (zc rfl (za rfl (zc rfl (za rfl (zt rfl rfl (mvx rfl (za rfl (zc rfl (za rfl (zt rfl rfl (anx rfl (zm (zl (rs := [.tmp 4]) (vs := [_]) rfl ⟨rfl, trivial⟩ ?_)))))))))))))))))))⟩;exact ⟨rfl, (T6.trans (Ext.of_below hb No)).toBelow⟩
theorem pagree_law : Calls Tryz.prog 4 #[.agg #[.int .i64 ua.k, .bool ua.yes, .bool ua.neg, .slice A1 ua.xs.length c1, .int .u64 ((ua.bits : Nat) : Int), .string ua.s, .slice B1 ua.ni d1], .agg #[.int .i64 ub.k, .bool ub.yes, .bool ub.neg, .slice A2 ub.xs.length c2, .int .u64 ((ub.bits : Nat) : Int), .string ub.s, .slice B2 ub.ni d2]] w fun e w' => e = .returned (.bool true) ∧ Below w.heap.size w w' := by
 cases he : eqV ua ub
 · exact ag_false w ua ub A1 B1 A2 B2 c1 d1 c2 d2 hx hl ha hy hl' hb0 he
 · exact ag_true w ua ub A1 B1 A2 B2 c1 d1 c2 d2 hx hl ha hy hl' hb0 he
end
end Go.Proofs.YtaleikoeklemmaaGreatDoor

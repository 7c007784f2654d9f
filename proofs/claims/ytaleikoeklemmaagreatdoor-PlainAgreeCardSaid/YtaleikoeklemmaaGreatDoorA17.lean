/- Texts of this claim. -/
import Derived.Test.YtaleikoeklemmaaGreatDoorA16
import Derived.Lib.Bytealg
namespace Go.Proofs.YtaleikoeklemmaaGreatDoor
open Go.RowKit
set_option maxRecDepth 100000
def gi (k : Int) : Bool := decide (1 ≤ k) && decide (k ≤ 3)
def PV.cn (v : PV) : Bool := if v.k = 1 then false else v.neg
def PV.cx (v : PV) : List Nat := if v.k = 1 then (if v.yes then [1] else []) else v.xs
noncomputable def ow (a b : PV) : Int :=
 if a.k = 3 then (if b.k = 3 then zeq a.bits b.bits else kl a.bits b.cn b.cx)
 else if b.k = 3 then 0 - kl b.bits a.cn a.cx else cmpO (yb a.cn a.cx && yb b.cn b.cx) (num a.cn a.cx) (num b.cn b.cx)
def xy (a b : PV) : Bool := if a.k = 3 then (if b.k = 3 then vr a.bits b.bits else jf a.bits b.cn b.cx) else if b.k = 3 then jf b.bits a.cn a.cx else true
def eqS (a b : PV) : Bool := if a.k == b.k then (a.s.toList == b.s.toList) else false
noncomputable def eqV (a b : PV) : Bool := if a.good && b.good then (if gi a.k && gi b.k then (if xy a b then (ow a b == 0) else false) else eqS a b) else false
noncomputable def qh (a b : PV) : Int × Bool × Int :=
 if a.good && b.good then (if gi a.k && gi b.k then (ow a b, xy a b, 0) else if (a.k == 4) && (b.k == 4) then (Lib.compareBytes a.s.data.toList b.s.data.toList, true, 0) else (0, false, 9)) else (0, false, 3)
noncomputable def vd (a b : PV) : Bool :=
 if (a.good && b.good) && (a.k == b.k) then (if a.k = 2 then (cmpO (yb a.neg a.xs && yb b.neg b.xs) (num a.neg a.xs) (num b.neg b.xs) == 0) else if a.k = 3 then (((qa (yj a.bits) : Nat) : Int) == ((qa (yj b.bits) : Nat) : Int)) else (if a.yes == b.yes then (a.s.toList == b.s.toList) else false)) else false
def RetCnt (w : World) (A1 : Option Addr) (n : Bool) (xs ys : List Nat) (e : Ending) (w' : World) : Prop := ∃ A c, e = .returned (.agg #[.bool n, .slice A ys.length c]) ∧ ((A = A1 ∧ ys = xs) ∨ Own w' w.heap.size A c ys) ∧ Below w.heap.size w w'
def CntV (w : World) (A1 A : Option Addr) (xs ys : List Nat) : Prop := (A = A1 ∧ ys = xs) ∨ Nums w A ys
theorem CntV.nums {w : World} {A1 A : Option Addr} {xs ys : List Nat} (h : CntV w A1 A xs ys) (hx : Nums w A1 xs) : Nums w A ys := by
 rcases h with ⟨rfl, rfl⟩ | h
 · exact hx
 · exact h
theorem zkz {X : Nat → Prop} {w w' : World} {A1 A : Option Addr} {c : Nat} {xs ys : List Nat} (h : (A = A1 ∧ ys = xs) ∨ Own w' w.heap.size A c ys) (hX : ∀ k, X k → k < w.heap.size) : Per X w' (fun b => CntV b A1 A xs ys) := fun b hb => by
 rcases h with h | h
 · exact Or.inl h
 · exact Or.inr (Per.own h hX b hb)
theorem PV.cx_len {v : PV} (h : v.xs.length ≤ 9223372036854775807) : v.cx.length ≤ 9223372036854775807 := by
 unfold PV.cx;split
 · split <;> simp
 · exact h
theorem cmpI_in (i j : Int) : -1 ≤ ky i j ∧ ky i j ≤ 1 := by unfold ky; split <;> (try split) <;> omega
theorem cmpV_in (a : Nat) (n1 : Bool) (xs : List Nat) : -1 ≤ kl a n1 xs ∧ kl a n1 xs ≤ 1 := by
 unfold kl;split
 · split
   · unfold infV; split <;> omega
   · unfold cmpB;split
     · exact cmpI_in _ _
     · split
       · split <;> omega
       · omega
 · omega
theorem zhx {w : World} {A : Option Addr} : Nums w A [] := ⟨fun k => by unfold nth; simp, fun h => absurd h (by decide)⟩
theorem zvq {w : World} {g o : Nat} {v0 v1 : Value} (h0 : w.cell? ⟨g, o, none⟩ = some v0) (h1 : w.cell? ⟨g, o + 1, none⟩ = some v1) : ∀ (j : Nat) (v : Value), #[v0, v1][j]? = some v → w.cell? ⟨g, o + j, none⟩ = some v := fun j v hj => by
 have hj2 := (Array.getElem?_eq_some_iff.1 hj).1;match j, hj2 with
 | 0, _ => exact h0.trans hj
 | 1, _ => exact h1.trans hj
theorem own_nil {w : World} {base : Nat} : Own w base none 0 [] := ⟨⟨rfl, Or.inl ⟨rfl, rfl⟩⟩, fun _ h => (by cases h)⟩
theorem ot {w1 w2 : World} {lo base c g : Nat} {A : Option Addr} {xs : List Nat} (h : Own w1 base A c xs) (E : Ext (Mut [some g]) w1 w2) (hg : g < base) (hb : lo ≤ base) : Own w2 lo A c xs :=
 ⟨owns_base (gy h.1 E (fun q hq hm => by have := zaz hm; have := owns_ge h.1 q hq; omega)) hb, h.2⟩
theorem zgz : limbs 1 = [1] := by
 have h : limbs 1 = [(1 : Int).natAbs] := limbs_one (by decide) (by decide);exact h
end Go.Proofs.YtaleikoeklemmaaGreatDoor
namespace Go.Proofs.YtaleikoeklemmaaGreatDoor
open Go.RowKit
set_option maxRecDepth 100000
attribute [local irreducible] OW RS
section
variable (w : World) (ua ub : PV) (A1 B1 A2 B2 : Option Addr) (c1 d1 c2 d2 : Nat) (hx : Nums w A1 ua.xs) (hl : ua.xs.length ≤ 9223372036854775807) (ha : ua.bits < 18446744073709551616) (hy : Nums w A2 ub.xs) (hl' : ub.xs.length ≤ 9223372036854775807) (hb0 : ub.bits < 18446744073709551616)
theorem pl_number : Calls Tryz.prog 26 #[.agg #[.int .i64 ua.k, .bool ua.yes, .bool ua.neg, .slice A1 ua.xs.length c1, .int .u64 ((ua.bits : Nat) : Int), .string ua.s, .slice B1 ua.ni d1]] w fun e w' => e = .returned (.bool (gi ua.k)) ∧ Below w.heap.size w w' := by
 refine zr Tryz.func26 rfl Tryz.ntmps26 rfl ?_;have HF : Per (No) w (fun _ => True) := Per.true_;have LW := erx (No) w;have XLW := grx (No) w;have E := erx (No) w;refine srx (za rfl (zx rfl ?_));intro gb1 w2 Bb1 Eb1 Gb1;have Gb1 : _ ≤ gb1 := Nat.le_trans E.size Gb1;have GLb1 := Nat.le_trans LW.size Gb1;replace E := E.trans Eb1.no;replace HF := HF.cons (zi Gb1)
 replace E := E.cons (some gb1);replace XLW := Mut.grow XLW (fun k e => Or.inr (Nat.le_trans LW.size ((zi Gb1) k e)));replace HF := HF.on E;replace LW := LW.step E XLW;have SB : ∀ q9, No q9 → Mut [(some gb1)] q9 := (Mut.skip Mut.nil_);replace HF := HF.less SB;replace XLW := fun k h => XLW k (SB k h);clear SB;replace E := erx (No) w2;replace HF := HF.and (Per.blkN Bb1 NotIn.nil)
 refine anx rfl (srx (za rfl (zb Tryz.underlying28 rfl sz3 (by decide) rfl (za rfl (zf Tryz.underlying3 rfl rfl (HF.on E).here.2 rfl (za rfl (og rfl rfl (mvx rfl (yr 6 rfl (fun h1 => ?_) (fun h1 => ?_))))))))))
 ·
  replace h1 := of_decide_eq_true h1;refine onx rfl (zb Tryz.underlying28 rfl sz3 (by decide) rfl (onx rfl (zf Tryz.underlying3 rfl rfl (HF.on E).here.2 rfl (onx rfl (zgk rfl rfl (za rfl (zt rfl rfl (anx rfl (zm (zl (rs := [.tmp 2]) (vs := [_]) rfl ⟨rfl, trivial⟩ ?_))))))))))
  exact ⟨by refine congrArg (fun z => Ending.returned (.bool z)) ?_; unfold gi; first | (simp_all; done) | (simp_all; omega), (LW.step E XLW).toBelow⟩
 ·
  replace h1 := of_decide_eq_false h1;refine za rfl (zc rfl (za rfl (zc rfl (za rfl (zc rfl (za rfl (zh rfl rfl (anx rfl (zm (zl (rs := [.tmp 2]) (vs := [_]) rfl ⟨rfl, trivial⟩ ?_))))))))));exact ⟨by refine congrArg (fun z => Ending.returned (.bool z)) ?_; unfold gi; first | (simp_all; done) | (simp_all; omega), (LW.step E XLW).toBelow⟩
include hx hl
theorem yu (r : Bool) (hr : PV.good ua = r) : Calls Tryz.prog 25 #[.agg #[.int .i64 ua.k, .bool ua.yes, .bool ua.neg, .slice A1 ua.xs.length c1, .int .u64 ((ua.bits : Nat) : Int), .string ua.s, .slice B1 ua.ni d1]] w fun e w' => e = .returned (.bool r) ∧ Below w.heap.size w w' := by
 subst hr;exact pgood_any w ua.k ua.yes ua.neg A1 B1 ua.xs c1 ua.bits ua.ni d1 ua.s hx hl
omit hx hl in
theorem xb (r : Bool) (hr : gi ua.k = r) : Calls Tryz.prog 26 #[.agg #[.int .i64 ua.k, .bool ua.yes, .bool ua.neg, .slice A1 ua.xs.length c1, .int .u64 ((ua.bits : Nat) : Int), .string ua.s, .slice B1 ua.ni d1]] w fun e w' => e = .returned (.bool r) ∧ Below w.heap.size w w' := by
 subst hr;exact pl_number w ua A1 B1 c1 d1
omit hx hl
theorem oq : Calls Tryz.prog 37 #[.agg #[.int .i64 ua.k, .bool ua.yes, .bool ua.neg, .slice A1 ua.xs.length c1, .int .u64 ((ua.bits : Nat) : Int), .string ua.s, .slice B1 ua.ni d1]] w (RetCnt w A1 ua.cn ua.xs ua.cx) := by
 refine zr Tryz.func37 rfl Tryz.ntmps37 rfl (srx (za rfl (zx rfl ?_)));rintro g1 wA BX E1 G1;refine za rfl (qd xe ?_);rintro g2 wB BY E2 G2;have BXb := BX.ext E2 (fun h => h.elim);have E12 := E1.trans E2
 refine rnx (zj (srx (za rfl (zb Tryz.underlying28 rfl sz3 (by decide) rfl (za rfl (zf Tryz.underlying3 rfl rfl BXb rfl (za rfl (ya rfl rfl (rnx (yx rfl (fun hk => ?_) (fun hk => ?_)))))))))))
 ·
  have hk1 : ua.k = 1 := by simpa using hk
  have e1 : ua.cn = false := by unfold PV.cn; rw [if_pos hk1]
  refine zj (srx (za rfl (zb Tryz.underlying28 rfl sz4 (by decide) rfl (za rfl (zf Tryz.underlying4 rfl rfl BXb rfl (rnx (yx rfl (fun hyes => ?_) (fun hyes => ?_))))))))
  ·
   have e2 : ua.cx = [1] := by unfold PV.cx; rw [if_pos hk1, if_pos hyes]
   refine srx (za rfl (zd en65 rfl ((oh 1 _ (by decide) (by decide)).mono ?_)));rintro e w1 ⟨A3, c3, rfl, hO, hb⟩;refine ⟨_, rfl, ?_⟩;have E3 := Ext.of_below hb No;have BYc := BY.ext E3 (fun h => h.elim);refine qo (vv yy rfl rfl BYc rfl rfl rfl ?_);rintro wC BYd E4;have hs := E12.size;have h3 := ot hO E4 BY.lt hs
   refine rnx (zm (zg (zg (zl (rs := [.cell 2 24]) (vs := [_]) rfl ⟨⟨_, rfl, jc Tryz.underlying24 rfl yy BYd rfl⟩, trivial⟩ ?_))));exact ⟨A3, c3, by rw [e1, e2, ← zgz]; rfl, Or.inr (by rw [e2, ← zgz]; exact h3), ((E12.trans E3).step E4 (fun q hq => Or.inr (by have := zaz hq; have := E1.size; omega))).toBelow⟩
  ·
   have e2 : ua.cx = [] := by unfold PV.cx; rw [if_pos hk1, if_neg (by rw [hyes]; decide)]
   refine zq (zk (srx (za rfl (kt (cs := #[.bool false, .slice none 0 0]) pl24 xe rfl rfl (qo (vv yy rfl rfl BY rfl rfl rfl ?_))))));rintro wC BYd E4;refine rnx (zm (zg (zl (rs := [.cell 2 24]) (vs := [_]) rfl ⟨⟨_, rfl, jc Tryz.underlying24 rfl yy BYd rfl⟩, trivial⟩ ?_)))
   exact ⟨none, 0, by rw [e1, e2]; rfl, Or.inr (by rw [e2]; exact own_nil), (E12.step E4 (fun q hq => Or.inr (by have := zaz hq; have := E1.size; omega))).toBelow⟩
 ·
  have hk1 : ua.k ≠ 1 := by simpa using hk
  have e1 : ua.cn = ua.neg := by unfold PV.cn; rw [if_neg hk1]
  have e2 : ua.cx = ua.xs := by unfold PV.cx; rw [if_neg hk1]
  refine zq (zk (srx (za rfl (zb Tryz.underlying28 rfl yy (by decide) rfl (za rfl (yh (cs := #[.bool ua.neg, .slice A1 ua.xs.length c1]) Tryz.underlying24 rfl yy rfl rfl (zvq (BXb.cell 2) (BXb.cell 3)) (qo (vv yy rfl rfl BY rfl rfl rfl ?_))))))));rintro wC BYd E4;refine rnx (zm ?_)
  have E5 : Ext No w wC := E12.step E4 (fun q hq => Or.inr (by have := zaz hq; have := E1.size; omega));refine zl (rs := [.cell 2 24]) (vs := [_]) rfl ⟨⟨_, rfl, jc Tryz.underlying24 rfl yy BYd rfl⟩, trivial⟩ ?_;exact ⟨A1, c1, by rw [e1, e2]; rfl, Or.inl ⟨rfl, e2⟩, E5.toBelow⟩
include hx hl ha hy hl' hb0
theorem pl_order : Calls Tryz.prog 27 #[.agg #[.int .i64 ua.k, .bool ua.yes, .bool ua.neg, .slice A1 ua.xs.length c1, .int .u64 ((ua.bits : Nat) : Int), .string ua.s, .slice B1 ua.ni d1], .agg #[.int .i64 ub.k, .bool ub.yes, .bool ub.neg, .slice A2 ub.xs.length c2, .int .u64 ((ub.bits : Nat) : Int), .string ub.s, .slice B2 ub.ni d2]] w fun e w' => e = .returned (.tuple #[.int .i64 (ow ua ub), .bool (xy ua ub)]) ∧ Below w.heap.size w w' := by
 have hcl := PV.cx_len hl;have hcl' := PV.cx_len hl';refine zr Tryz.func27 rfl Tryz.ntmps27 rfl ?_;have HF : Per (No) w (fun _ => True) := Per.true_;have LW := erx (No) w;have XLW := grx (No) w;have E := erx (No) w;replace HF := HF.on E;replace LW := LW.step E XLW;replace E := erx (No) w;replace HF := HF.and (Per.nums0 hx);replace HF := HF.on E;replace LW := LW.step E XLW
 replace E := erx (No) w;replace HF := HF.and (Per.nums0 hy);by_cases hk3 : ua.k = 3
 ·
  by_cases hj3 : ub.k = 3
  ·
   refine srx (za rfl (zx rfl ?_));intro gb1 w2 Bb1 Eb1 Gb1;have Gb1 : _ ≤ gb1 := Nat.le_trans E.size Gb1;have GLb1 := Nat.le_trans LW.size Gb1;replace E := E.trans Eb1.no;replace HF := HF.cons (zi Gb1);replace E := E.cons (some gb1);replace XLW := Mut.grow XLW (fun k e => Or.inr (Nat.le_trans LW.size ((zi Gb1) k e)));replace HF := HF.on E;replace LW := LW.step E XLW
   have SB : ∀ q9, No q9 → Mut [(some gb1)] q9 := (Mut.skip Mut.nil_);replace HF := HF.less SB;replace XLW := fun k h => XLW k (SB k h);clear SB;replace E := erx (No) w2;replace HF := HF.and (Per.blkN Bb1 NotIn.nil);refine za rfl (zx rfl ?_);intro gb3 w4 Bb3 Eb3 Gb3;have Gb3 : _ ≤ gb3 := Nat.le_trans E.size Gb3;have GLb3 := Nat.le_trans LW.size Gb3;replace E := E.trans Eb3.no
   replace HF := HF.cons (zi Gb3);replace E := E.cons (some gb3);replace XLW := Mut.grow XLW (fun k e => Or.inr (Nat.le_trans LW.size ((zi Gb3) k e)));replace HF := HF.on E;replace LW := LW.step E XLW;have SB : ∀ q9, No q9 → Mut [(some gb3)] q9 := (Mut.skip Mut.nil_);replace HF := HF.less SB;replace XLW := fun k h => XLW k (SB k h);clear SB;replace E := erx (No) w4
   replace HF := HF.and (Per.blkN Bb3 NotIn.nil)
   refine avx rfl (anx rfl (zj (yi (srx (za rfl (zb Tryz.underlying28 rfl sz3 (by decide) rfl (za rfl (zf Tryz.underlying3 rfl rfl (HF.on E).here.1.2 rfl (za rfl (ya rfl rfl (mvx rfl (zz 12 (.bool true) rfl ((by simp [hk3] : (.bool (ua.k == 3) : Value) = _)) (onx rfl (zb Tryz.underlying28 rfl sz3 (by decide) rfl (onx rfl (zf Tryz.underlying3 rfl rfl (HF.on E).here.2 rfl (onx rfl (ya rfl rfl (za rfl (zt rfl rfl (anx rfl (zu 8 (.bool true) rfl ((by simp [hj3] : (.bool (ub.k == 3) : Value) = _)) (yc rfl (srx (za rfl (zb Tryz.underlying28 rfl xa (by decide) rfl (za rfl (zf Tryz.underlying25 rfl rfl (HF.on E).here.1.2 rfl (za rfl (zb Tryz.underlying28 rfl xa (by decide) rfl (za rfl (zf Tryz.underlying25 rfl rfl (HF.on E).here.2 rfl (za rfl (zd en48 rfl ((cmp_any_r _ ua.bits ub.bits).mono ?_)))))))))))))))))))))))))))))))))))
   rintro e w5 ⟨rfl, hb⟩;refine ⟨_, rfl, ?_⟩;replace E := blx E hb;refine za rfl (zn rfl rfl (za rfl (zn rfl rfl (avx rfl (anx rfl (zm (zv (zg (zl (rs := [.tmp 4, .tmp 5]) (vs := [_, _]) rfl ⟨rfl, rfl, trivial⟩ ?_)))))))));exact ⟨by unfold ow xy; rw [if_pos hk3, if_pos hk3, if_pos hj3, if_pos hj3]; rfl, (LW.step E XLW).toBelow⟩
  ·
   refine srx (za rfl (zx rfl ?_));intro gb6 w7 Bb6 Eb6 Gb6;have Gb6 : _ ≤ gb6 := Nat.le_trans E.size Gb6;have GLb6 := Nat.le_trans LW.size Gb6;replace E := E.trans Eb6.no;replace HF := HF.cons (zi Gb6);replace E := E.cons (some gb6);replace XLW := Mut.grow XLW (fun k e => Or.inr (Nat.le_trans LW.size ((zi Gb6) k e)));replace HF := HF.on E;replace LW := LW.step E XLW
   have SB : ∀ q9, No q9 → Mut [(some gb6)] q9 := (Mut.skip Mut.nil_);replace HF := HF.less SB;replace XLW := fun k h => XLW k (SB k h);clear SB;replace E := erx (No) w7;replace HF := HF.and (Per.blkN Bb6 NotIn.nil);refine za rfl (zx rfl ?_);intro gb8 w9 Bb8 Eb8 Gb8;have Gb8 : _ ≤ gb8 := Nat.le_trans E.size Gb8;have GLb8 := Nat.le_trans LW.size Gb8;replace E := E.trans Eb8.no
   replace HF := HF.cons (zi Gb8);replace E := E.cons (some gb8);replace XLW := Mut.grow XLW (fun k e => Or.inr (Nat.le_trans LW.size ((zi Gb8) k e)));replace HF := HF.on E;replace LW := LW.step E XLW;have SB : ∀ q9, No q9 → Mut [(some gb8)] q9 := (Mut.skip Mut.nil_);replace HF := HF.less SB;replace XLW := fun k h => XLW k (SB k h);clear SB;replace E := erx (No) w9
   replace HF := HF.and (Per.blkN Bb8 NotIn.nil)
   refine avx rfl (anx rfl (zj (yi (srx (za rfl (zb Tryz.underlying28 rfl sz3 (by decide) rfl (za rfl (zf Tryz.underlying3 rfl rfl (HF.on E).here.1.2 rfl (za rfl (ya rfl rfl (mvx rfl (zz 12 (.bool true) rfl ((by simp [hk3] : (.bool (ua.k == 3) : Value) = _)) (onx rfl (zb Tryz.underlying28 rfl sz3 (by decide) rfl (onx rfl (zf Tryz.underlying3 rfl rfl (HF.on E).here.2 rfl (onx rfl (ya rfl rfl (za rfl (zt rfl rfl (anx rfl (zu 8 (.bool false) rfl ((by simp [hj3] : (.bool (ub.k == 3) : Value) = _)) (zp rfl (srx (za rfl (zb Tryz.underlying28 rfl sz3 (by decide) rfl (za rfl (zf Tryz.underlying3 rfl rfl (HF.on E).here.1.2 rfl (za rfl (ya rfl rfl (anx rfl (zu 24 (.bool true) rfl ((by simp [hk3] : (.bool (ua.k == 3) : Value) = _)) (yc rfl (zj ?_))))))))))))))))))))))))))))))))))
   have OY : ∀ q9, (Mut (outM [])) q9 → q9 < (World.drew w9).heap.size → (No) q9 := fun k h _ => (Mut.none_) k h;refine jb (No) Mut.none_ [] [] (zmq [Fx.of (.pointer (some ⟨gb6, 4, none⟩)),
    Fx.of (.int .u64 ((ua.bits : Nat) : Int)),
    Fx.of (.agg #[.int .i64 ub.k, .bool ub.yes, .bool ub.neg, .slice A2 ub.xs.length c2, .int .u64 ((ub.bits : Nat) : Int), .string ub.s, .slice B2 ub.ni d2]),
    ⟨(Option Addr × Nat), fun (A3, c3) => .agg #[.bool ub.cn, .slice A3 ub.cx.length c3], fun (A3, c3) b => (CntV b A2 A3 ub.xs (PV.cx ub))⟩,
    Fx.of (.tuple #[.int .i64 (kl ua.bits ub.cn ub.cx), .bool (jf ua.bits ub.cn ub.cx)]),
    Fx.of (.int .i64 (kl ua.bits ub.cn ub.cx)),
    Fx.of (.bool (jf ua.bits ub.cn ub.cx)),
    Fx.of (.int .i64 (kl ua.bits ub.cn ub.cx)),
    Fx.of (.bool (jf ua.bits ub.cn ub.cx))]) mixed rfl trivial (fun _ h => by cases h) ?_ ?_
   · refine ⟨?_, ?_, ?_, ?_, ?_, ?_, ?_, ?_, ?_, trivial⟩
     · intro vs X wq K;exact zb Tryz.underlying28 rfl xa (by decide) rfl ⟨Below.refl _ _, Left.of rfl⟩
     · intro vs X wq K;have LE := K.1;obtain ⟨_, e0, k0⟩ := K.dep 0 rfl rfl rfl;refine ze 28 (.pointer (some ⟨gb6, 4, none⟩)) rfl e0 ?_;exact zf Tryz.underlying25 rfl rfl (HF.on (E.drew.trans (LE.mono OY))).here.1.2 rfl ⟨Below.refl _ _, Left.of rfl⟩
     · intro vs X wq K;have LE := K.1;exact zo Tryz.underlying28 rfl yk rfl (HF.on (E.drew.trans (LE.mono OY))).here.2 rfl ⟨Below.refl _ _, Left.of rfl⟩
     · intro vs X wq K;have XN := K.2.1;obtain ⟨_, e2, k2⟩ := K.dep 2 rfl rfl rfl;refine ze 30 (.agg #[.int .i64 ub.k, .bool ub.yes, .bool ub.neg, .slice A2 ub.xs.length c2, .int .u64 ((ub.bits : Nat) : Int), .string ub.s, .slice B2 ub.ni d2]) rfl e2 (zd en37 rfl ((oq _ ub A2 B2 c2 d2).mono ?_));rintro e w2 ⟨A3, c3, rfl, hN, hb⟩
       exact ⟨_, rfl, hb, ⟨(A3, c3), rfl, zkz hN XN⟩⟩
     · intro vs X wq K;have LE := K.1;obtain ⟨_, e1, k1⟩ := K.dep 1 rfl rfl rfl;refine ze 29 (.int .u64 ((ua.bits : Nat) : Int)) rfl e1 ?_;obtain ⟨⟨A3, c3⟩, e3, k3⟩ := K.dep 3 rfl rfl rfl
       refine ze 31 (.agg #[.bool ub.cn, .slice A3 ub.cx.length c3]) rfl e3 (zd en49 rfl ((cmpbig_any _ ua.bits ha ub.cn A3 c3 ub.cx ((k3.here).nums (HF.on (E.drew.trans (LE.mono OY))).here.1.1.2) hcl').mono ?_));rintro e w2 ⟨rfl, hb⟩;exact ⟨_, rfl, hb, Left.of rfl⟩
     · intro vs X wq K;obtain ⟨_, e4, k4⟩ := K.dep 4 rfl rfl rfl;refine ze 32 (.tuple #[.int .i64 (kl ua.bits ub.cn ub.cx), .bool (jf ua.bits ub.cn ub.cx)]) rfl e4 ?_;exact zn rfl rfl ⟨Below.refl _ _, Left.of rfl⟩
     · intro vs X wq K;obtain ⟨_, e4, k4⟩ := K.dep 4 rfl rfl rfl;refine ze 32 (.tuple #[.int .i64 (kl ua.bits ub.cn ub.cx), .bool (jf ua.bits ub.cn ub.cx)]) rfl e4 ?_;exact zn rfl rfl ⟨Below.refl _ _, Left.of rfl⟩
     · intro vs X wq K;obtain ⟨_, e5, k5⟩ := K.dep 5 rfl rfl rfl;refine ze 33 (.int .i64 (kl ua.bits ub.cn ub.cx)) rfl e5 ?_;exact qr rfl ⟨Below.refl _ _, Left.of rfl⟩
     · intro vs X wq K;obtain ⟨_, e6, k6⟩ := K.dep 6 rfl rfl rfl;refine ze 34 (.bool (jf ua.bits ub.cn ub.cx)) rfl e6 ?_;exact qr rfl ⟨Below.refl _ _, Left.of rfl⟩
   intro vs w10 LE AO AL AF AA;replace E := E.drew.trans (LE.mono OY);obtain ⟨_, e7, k7⟩ := AL.2.2.2.2.2.2.2.1;obtain ⟨_, e8, k8⟩ := AL.2.2.2.2.2.2.2.2.1;refine gu (τ := [(2, _), (3, _), (4, .int .i64 (kl ua.bits ub.cn ub.cx)), (5, .bool (jf ua.bits ub.cn ub.cx))]) ⟨rfl, rfl, congrArg some e7, congrArg some e8, trivial⟩ ?_;clear AL AF AA LE AO OY e7 e8 k7 k8
   refine zk (zm (zv (zg (zl (rs := [.tmp 4, .tmp 5]) (vs := [_, _]) rfl ⟨rfl, rfl, trivial⟩ ?_))));exact ⟨by unfold ow xy; rw [if_pos hk3, if_pos hk3, if_neg hj3, if_neg hj3]; rfl, (LW.step E XLW).toBelow⟩
 ·
  refine srx (za rfl (zx rfl ?_));intro gb11 w12 Bb11 Eb11 Gb11;have Gb11 : _ ≤ gb11 := Nat.le_trans E.size Gb11;have GLb11 := Nat.le_trans LW.size Gb11;replace E := E.trans Eb11.no;replace HF := HF.cons (zi Gb11);replace E := E.cons (some gb11);replace XLW := Mut.grow XLW (fun k e => Or.inr (Nat.le_trans LW.size ((zi Gb11) k e)));replace HF := HF.on E
  replace LW := LW.step E XLW;have SB : ∀ q9, No q9 → Mut [(some gb11)] q9 := (Mut.skip Mut.nil_);replace HF := HF.less SB;replace XLW := fun k h => XLW k (SB k h);clear SB;replace E := erx (No) w12;replace HF := HF.and (Per.blkN Bb11 NotIn.nil);refine za rfl (zx rfl ?_);intro gb13 w14 Bb13 Eb13 Gb13;have Gb13 : _ ≤ gb13 := Nat.le_trans E.size Gb13;have GLb13 := Nat.le_trans LW.size Gb13
  replace E := E.trans Eb13.no;replace HF := HF.cons (zi Gb13);replace E := E.cons (some gb13);replace XLW := Mut.grow XLW (fun k e => Or.inr (Nat.le_trans LW.size ((zi Gb13) k e)));replace HF := HF.on E;replace LW := LW.step E XLW;have SB : ∀ q9, No q9 → Mut [(some gb13)] q9 := (Mut.skip Mut.nil_);replace HF := HF.less SB;replace XLW := fun k h => XLW k (SB k h);clear SB
  replace E := erx (No) w14;replace HF := HF.and (Per.blkN Bb13 NotIn.nil)
  refine avx rfl (anx rfl (zj (yi (srx (za rfl (zb Tryz.underlying28 rfl sz3 (by decide) rfl (za rfl (zf Tryz.underlying3 rfl rfl (HF.on E).here.1.2 rfl (za rfl (ya rfl rfl (mvx rfl (zz 12 (.bool false) rfl ((by simp [hk3] : (.bool (ua.k == 3) : Value) = _)) (za rfl (zc rfl (za rfl (zc rfl (za rfl (zc rfl (za rfl (zh rfl rfl (anx rfl (zp rfl (srx (za rfl (zb Tryz.underlying28 rfl sz3 (by decide) rfl (za rfl (zf Tryz.underlying3 rfl rfl (HF.on E).here.1.2 rfl (za rfl (ya rfl rfl (anx rfl (zu 24 (.bool false) rfl ((by simp [hk3] : (.bool (ua.k == 3) : Value) = _)) ?_)))))))))))))))))))))))))))))))
  by_cases hj3 : ub.k = 3
  ·
   refine zp rfl (srx (za rfl (zb Tryz.underlying28 rfl sz3 (by decide) rfl (za rfl (zf Tryz.underlying3 rfl rfl (HF.on E).here.2 rfl (za rfl (ya rfl rfl (anx rfl (zu 35 (.bool true) rfl ((by simp [hj3] : (.bool (ub.k == 3) : Value) = _)) (yc rfl (zj ?_)))))))))))
   have OY : ∀ q9, (Mut (outM [])) q9 → q9 < (World.drew w14).heap.size → (No) q9 := fun k h _ => (Mut.none_) k h;refine jb (No) Mut.none_ [] [] (zmq [Fx.of (.pointer (some ⟨gb13, 4, none⟩)),
    Fx.of (.int .u64 ((ub.bits : Nat) : Int)),
    Fx.of (.agg #[.int .i64 ua.k, .bool ua.yes, .bool ua.neg, .slice A1 ua.xs.length c1, .int .u64 ((ua.bits : Nat) : Int), .string ua.s, .slice B1 ua.ni d1]),
    ⟨(Option Addr × Nat), fun (A3, c3) => .agg #[.bool ua.cn, .slice A3 ua.cx.length c3], fun (A3, c3) b => (CntV b A1 A3 ua.xs (PV.cx ua))⟩,
    Fx.of (.tuple #[.int .i64 (kl ub.bits ua.cn ua.cx), .bool (jf ub.bits ua.cn ua.cx)]),
    Fx.of (.tuple #[.int .i64 (kl ub.bits ua.cn ua.cx), .bool (jf ub.bits ua.cn ua.cx)]),
    Fx.of (.int .i64 (kl ub.bits ua.cn ua.cx)),
    Fx.of (.bool (jf ub.bits ua.cn ua.cx)),
    Fx.of (.int .i64 (kl ub.bits ua.cn ua.cx)),
    Fx.of (.bool (jf ub.bits ua.cn ua.cx))]) mixed rfl trivial (fun _ h => by cases h) ?_ ?_
   · refine ⟨?_, ?_, ?_, ?_, ?_, ?_, ?_, ?_, ?_, ?_, trivial⟩
     · intro vs X wq K;exact zb Tryz.underlying28 rfl xa (by decide) rfl ⟨Below.refl _ _, Left.of rfl⟩
     · intro vs X wq K;have LE := K.1;obtain ⟨_, e0, k0⟩ := K.dep 0 rfl rfl rfl;refine ze 40 (.pointer (some ⟨gb13, 4, none⟩)) rfl e0 ?_;exact zf Tryz.underlying25 rfl rfl (HF.on (E.drew.trans (LE.mono OY))).here.2 rfl ⟨Below.refl _ _, Left.of rfl⟩
     · intro vs X wq K;have LE := K.1;exact zo Tryz.underlying28 rfl yk rfl (HF.on (E.drew.trans (LE.mono OY))).here.1.2 rfl ⟨Below.refl _ _, Left.of rfl⟩
     · intro vs X wq K;have XN := K.2.1;obtain ⟨_, e2, k2⟩ := K.dep 2 rfl rfl rfl;refine ze 42 (.agg #[.int .i64 ua.k, .bool ua.yes, .bool ua.neg, .slice A1 ua.xs.length c1, .int .u64 ((ua.bits : Nat) : Int), .string ua.s, .slice B1 ua.ni d1]) rfl e2 (zd en37 rfl ((oq _ ua A1 B1 c1 d1).mono ?_));rintro e w2 ⟨A3, c3, rfl, hN, hb⟩
       exact ⟨_, rfl, hb, ⟨(A3, c3), rfl, zkz hN XN⟩⟩
     · intro vs X wq K;have LE := K.1;obtain ⟨_, e1, k1⟩ := K.dep 1 rfl rfl rfl;refine ze 41 (.int .u64 ((ub.bits : Nat) : Int)) rfl e1 ?_;obtain ⟨⟨A3, c3⟩, e3, k3⟩ := K.dep 3 rfl rfl rfl
       refine ze 43 (.agg #[.bool ua.cn, .slice A3 ua.cx.length c3]) rfl e3 (zd en49 rfl ((cmpbig_any _ ub.bits hb0 ua.cn A3 c3 ua.cx ((k3.here).nums (HF.on (E.drew.trans (LE.mono OY))).here.1.1.1.2) hcl).mono ?_));rintro e w2 ⟨rfl, hb⟩;exact ⟨_, rfl, hb, Left.of rfl⟩
     · intro vs X wq K;obtain ⟨_, e4, k4⟩ := K.dep 4 rfl rfl rfl;refine ze 44 (.tuple #[.int .i64 (kl ub.bits ua.cn ua.cx), .bool (jf ub.bits ua.cn ua.cx)]) rfl e4 ?_;exact zy rfl ⟨Below.refl _ _, Left.of rfl⟩
     · intro vs X wq K;obtain ⟨_, e5, k5⟩ := K.dep 5 rfl rfl rfl;refine ze 39 (.tuple #[.int .i64 (kl ub.bits ua.cn ua.cx), .bool (jf ub.bits ua.cn ua.cx)]) rfl e5 ?_;exact zn rfl rfl ⟨Below.refl _ _, Left.of rfl⟩
     · intro vs X wq K;obtain ⟨_, e5, k5⟩ := K.dep 5 rfl rfl rfl;refine ze 39 (.tuple #[.int .i64 (kl ub.bits ua.cn ua.cx), .bool (jf ub.bits ua.cn ua.cx)]) rfl e5 ?_;exact zn rfl rfl ⟨Below.refl _ _, Left.of rfl⟩
     · intro vs X wq K;obtain ⟨_, e6, k6⟩ := K.dep 6 rfl rfl rfl;refine ze 45 (.int .i64 (kl ub.bits ua.cn ua.cx)) rfl e6 ?_;exact qr rfl ⟨Below.refl _ _, Left.of rfl⟩
     · intro vs X wq K;obtain ⟨_, e7, k7⟩ := K.dep 7 rfl rfl rfl;refine ze 46 (.bool (jf ub.bits ua.cn ua.cx)) rfl e7 ?_;exact qr rfl ⟨Below.refl _ _, Left.of rfl⟩
   intro vs w15 LE AO AL AF AA;replace E := E.drew.trans (LE.mono OY);obtain ⟨_, e8, k8⟩ := AL.2.2.2.2.2.2.2.2.1;obtain ⟨_, e9, k9⟩ := AL.2.2.2.2.2.2.2.2.2.1;refine gu (τ := [(2, _), (3, _), (4, _), (5, _), (6, .int .i64 (kl ub.bits ua.cn ua.cx)), (7, .bool (jf ub.bits ua.cn ua.cx))]) ⟨rfl, rfl, rfl, rfl, congrArg some e8, congrArg some e9, trivial⟩ ?_
   clear AL AF AA LE AO OY e8 e9 k8 k9;have hcv := cmpV_in ub.bits ua.cn ua.cx;refine zk (srx (mvx rfl (za rfl (zwv rfl (yg (by omega)) (mvx rfl (avx rfl (anx rfl (zm (zv (zg (zl (rs := [.tmp 4, .tmp 5]) (vs := [_, _]) rfl ⟨rfl, rfl, trivial⟩ ?_)))))))))))
   exact ⟨by unfold ow xy; rw [if_neg hk3, if_neg hk3, if_pos hj3, if_pos hj3]; rfl, (LW.step E XLW).toBelow⟩
  ·
   refine zp rfl (srx (za rfl (zb Tryz.underlying28 rfl sz3 (by decide) rfl (za rfl (zf Tryz.underlying3 rfl rfl (HF.on E).here.2 rfl (za rfl (ya rfl rfl (anx rfl (zu 35 (.bool false) rfl ((by simp [hj3] : (.bool (ub.k == 3) : Value) = _)) (zp rfl (zq (zw (zk (zj ?_))))))))))))))
   have OY : ∀ q9, (Mut (outM [])) q9 → q9 < (World.drew w14).heap.size → (No) q9 := fun k h _ => (Mut.none_) k h;refine jb (No) Mut.none_ [] [] (zmq [Fx.of (.agg #[.int .i64 ua.k, .bool ua.yes, .bool ua.neg, .slice A1 ua.xs.length c1, .int .u64 ((ua.bits : Nat) : Int), .string ua.s, .slice B1 ua.ni d1]),
    ⟨(Option Addr × Nat), fun (A3, c3) => .agg #[.bool ua.cn, .slice A3 ua.cx.length c3], fun (A3, c3) b => (CntV b A1 A3 ua.xs (PV.cx ua))⟩,
    Fx.of (.agg #[.int .i64 ub.k, .bool ub.yes, .bool ub.neg, .slice A2 ub.xs.length c2, .int .u64 ((ub.bits : Nat) : Int), .string ub.s, .slice B2 ub.ni d2]),
    ⟨(Option Addr × Nat), fun (A4, c4) => .agg #[.bool ub.cn, .slice A4 ub.cx.length c4], fun (A4, c4) b => (CntV b A2 A4 ub.xs (PV.cx ub))⟩,
    Fx.of (.int .i64 (cmpO (yb ua.cn ua.cx && yb ub.cn ub.cx) (num ua.cn ua.cx) (num ub.cn ub.cx))),
    Fx.of (.int .i64 (cmpO (yb ua.cn ua.cx && yb ub.cn ub.cx) (num ua.cn ua.cx) (num ub.cn ub.cx))),
    Fx.of (.bool true)]) mixed rfl trivial (fun _ h => by cases h) ?_ ?_
   · refine ⟨?_, ?_, ?_, ?_, ?_, ?_, ?_, trivial⟩
     · intro vs X wq K;have LE := K.1;exact zo Tryz.underlying28 rfl yk rfl (HF.on (E.drew.trans (LE.mono OY))).here.1.2 rfl ⟨Below.refl _ _, Left.of rfl⟩
     · intro vs X wq K;have XN := K.2.1;obtain ⟨_, e0, k0⟩ := K.dep 0 rfl rfl rfl;refine ze 50 (.agg #[.int .i64 ua.k, .bool ua.yes, .bool ua.neg, .slice A1 ua.xs.length c1, .int .u64 ((ua.bits : Nat) : Int), .string ua.s, .slice B1 ua.ni d1]) rfl e0 (zd en37 rfl ((oq _ ua A1 B1 c1 d1).mono ?_));rintro e w2 ⟨A3, c3, rfl, hN, hb⟩
       exact ⟨_, rfl, hb, ⟨(A3, c3), rfl, zkz hN XN⟩⟩
     · intro vs X wq K;have LE := K.1;exact zo Tryz.underlying28 rfl yk rfl (HF.on (E.drew.trans (LE.mono OY))).here.2 rfl ⟨Below.refl _ _, Left.of rfl⟩
     · intro vs X wq K;have XN := K.2.1;obtain ⟨_, e2, k2⟩ := K.dep 2 rfl rfl rfl;refine ze 52 (.agg #[.int .i64 ub.k, .bool ub.yes, .bool ub.neg, .slice A2 ub.xs.length c2, .int .u64 ((ub.bits : Nat) : Int), .string ub.s, .slice B2 ub.ni d2]) rfl e2 (zd en37 rfl ((oq _ ub A2 B2 c2 d2).mono ?_));rintro e w2 ⟨A4, c4, rfl, hN, hb⟩
       exact ⟨_, rfl, hb, ⟨(A4, c4), rfl, zkz hN XN⟩⟩
     · intro vs X wq K;have LE := K.1;obtain ⟨⟨A3, c3⟩, e1, k1⟩ := K.dep 1 rfl rfl rfl;refine ze 51 (.agg #[.bool ua.cn, .slice A3 ua.cx.length c3]) rfl e1 ?_;obtain ⟨⟨A4, c4⟩, e3, k3⟩ := K.dep 3 rfl rfl rfl
       refine ze 53 (.agg #[.bool ub.cn, .slice A4 ub.cx.length c4]) rfl e3 (zd en29 rfl ((cmp_any A3 A4 c3 c4 ua.cx ub.cx _ ua.cn ub.cn ((k1.here).nums (HF.on (E.drew.trans (LE.mono OY))).here.1.1.1.2) ((k3.here).nums (HF.on (E.drew.trans (LE.mono OY))).here.1.1.2) hcl hcl').mono ?_));rintro e w2 ⟨rfl, hb⟩;exact ⟨_, rfl, hb, Left.of rfl⟩
     · intro vs X wq K;obtain ⟨_, e4, k4⟩ := K.dep 4 rfl rfl rfl;refine ze 54 (.int .i64 (cmpO (yb ua.cn ua.cx && yb ub.cn ub.cx) (num ua.cn ua.cx) (num ub.cn ub.cx))) rfl e4 ?_;exact qr rfl ⟨Below.refl _ _, Left.of rfl⟩
     · intro vs X wq K;exact qr rfl ⟨Below.refl _ _, Left.of rfl⟩
   intro vs w16 LE AO AL AF AA;replace E := E.drew.trans (LE.mono OY);obtain ⟨_, e5, k5⟩ := AL.2.2.2.2.2.1;obtain ⟨_, e6, k6⟩ := AL.2.2.2.2.2.2.1;refine gu (τ := [(4, .int .i64 (cmpO (yb ua.cn ua.cx && yb ub.cn ub.cx) (num ua.cn ua.cx) (num ub.cn ub.cx))), (5, .bool true)]) ⟨congrArg some e5, congrArg some e6, trivial⟩ ?_;clear AL AF AA LE AO OY e5 e6 k5 k6
   refine zk (zm (zl (rs := [.tmp 4, .tmp 5]) (vs := [_, _]) rfl ⟨rfl, rfl, trivial⟩ ?_));exact ⟨by unfold ow xy; rw [if_neg hk3, if_neg hk3, if_neg hj3, if_neg hj3]; rfl, (LW.step E XLW).toBelow⟩
theorem pl_eq1 (h1 : ua.good = false) : Calls Tryz.prog 8 #[.agg #[.int .i64 ua.k, .bool ua.yes, .bool ua.neg, .slice A1 ua.xs.length c1, .int .u64 ((ua.bits : Nat) : Int), .string ua.s, .slice B1 ua.ni d1], .agg #[.int .i64 ub.k, .bool ub.yes, .bool ub.neg, .slice A2 ub.xs.length c2, .int .u64 ((ub.bits : Nat) : Int), .string ub.s, .slice B2 ub.ni d2]] w fun e w' => e = .returned (.bool (eqV ua ub)) ∧ Below w.heap.size w w' := by
 have _ := hx; have _ := hl; have _ := ha; have _ := hy; have _ := hl'; have _ := hb0;refine zr Tryz.func8 rfl Tryz.ntmps8 rfl ?_;have HF : Per (No) w (fun _ => True) := Per.true_;have LW := erx (No) w;have XLW := grx (No) w;have E := erx (No) w;replace HF := HF.on E;replace LW := LW.step E XLW;replace E := erx (No) w;replace HF := HF.and (Per.nums0 hx);replace HF := HF.on E
 replace LW := LW.step E XLW;replace E := erx (No) w;replace HF := HF.and (Per.nums0 hy);refine srx (za rfl (zx rfl ?_));intro gb1 w2 Bb1 Eb1 Gb1;have Gb1 : _ ≤ gb1 := Nat.le_trans E.size Gb1;have GLb1 := Nat.le_trans LW.size Gb1;replace E := E.trans Eb1.no;replace HF := HF.cons (zi Gb1);replace E := E.cons (some gb1)
 replace XLW := Mut.grow XLW (fun k e => Or.inr (Nat.le_trans LW.size ((zi Gb1) k e)));replace HF := HF.on E;replace LW := LW.step E XLW;have SB : ∀ q9, No q9 → Mut [(some gb1)] q9 := (Mut.skip Mut.nil_);replace HF := HF.less SB;replace XLW := fun k h => XLW k (SB k h);clear SB;replace E := erx (No) w2;replace HF := HF.and (Per.blkN Bb1 NotIn.nil);refine za rfl (zx rfl ?_)
 intro gb3 w4 Bb3 Eb3 Gb3;have Gb3 : _ ≤ gb3 := Nat.le_trans E.size Gb3;have GLb3 := Nat.le_trans LW.size Gb3;replace E := E.trans Eb3.no;replace HF := HF.cons (zi Gb3);replace E := E.cons (some gb3);replace XLW := Mut.grow XLW (fun k e => Or.inr (Nat.le_trans LW.size ((zi Gb3) k e)));replace HF := HF.on E;replace LW := LW.step E XLW
 have SB : ∀ q9, No q9 → Mut [(some gb3)] q9 := (Mut.skip Mut.nil_);replace HF := HF.less SB;replace XLW := fun k h => XLW k (SB k h);clear SB;replace E := erx (No) w4;replace HF := HF.and (Per.blkN Bb3 NotIn.nil)
 refine anx rfl (zj (srx (za rfl (zo Tryz.underlying28 rfl yk rfl (HF.on E).here.1.2 rfl (za rfl (zd jg rfl ((yu _ ua A1 B1 c1 d1 (HF.on E).here.1.1.1.2 hl false h1).mono ?_)))))));rintro e w5 ⟨rfl, hb⟩;refine ⟨_, rfl, ?_⟩;replace E := blx E hb
 refine za rfl (yf rfl (mvx rfl (za rfl (zc rfl (za rfl (zc rfl (za rfl (zc rfl (za rfl (zt rfl rfl (rnx (yc rfl (srx (anx rfl (zm (zg (zl (rs := [.tmp 4]) (vs := [_]) rfl ⟨rfl, trivial⟩ ?_)))))))))))))))));exact ⟨by unfold eqV; rw [h1]; rfl, (LW.step E XLW).toBelow⟩
theorem pl_eq2 (h1 : ua.good = true) (h2 : ub.good = false) : Calls Tryz.prog 8 #[.agg #[.int .i64 ua.k, .bool ua.yes, .bool ua.neg, .slice A1 ua.xs.length c1, .int .u64 ((ua.bits : Nat) : Int), .string ua.s, .slice B1 ua.ni d1], .agg #[.int .i64 ub.k, .bool ub.yes, .bool ub.neg, .slice A2 ub.xs.length c2, .int .u64 ((ub.bits : Nat) : Int), .string ub.s, .slice B2 ub.ni d2]] w fun e w' => e = .returned (.bool (eqV ua ub)) ∧ Below w.heap.size w w' := by
 have _ := hx; have _ := hl; have _ := ha; have _ := hy; have _ := hl'; have _ := hb0;refine zr Tryz.func8 rfl Tryz.ntmps8 rfl ?_;have HF : Per (No) w (fun _ => True) := Per.true_;have LW := erx (No) w;have XLW := grx (No) w;have E := erx (No) w;replace HF := HF.on E;replace LW := LW.step E XLW;replace E := erx (No) w;replace HF := HF.and (Per.nums0 hx);replace HF := HF.on E
 replace LW := LW.step E XLW;replace E := erx (No) w;replace HF := HF.and (Per.nums0 hy);refine srx (za rfl (zx rfl ?_));intro gb1 w2 Bb1 Eb1 Gb1;have Gb1 : _ ≤ gb1 := Nat.le_trans E.size Gb1;have GLb1 := Nat.le_trans LW.size Gb1;replace E := E.trans Eb1.no;replace HF := HF.cons (zi Gb1);replace E := E.cons (some gb1)
 replace XLW := Mut.grow XLW (fun k e => Or.inr (Nat.le_trans LW.size ((zi Gb1) k e)));replace HF := HF.on E;replace LW := LW.step E XLW;have SB : ∀ q9, No q9 → Mut [(some gb1)] q9 := (Mut.skip Mut.nil_);replace HF := HF.less SB;replace XLW := fun k h => XLW k (SB k h);clear SB;replace E := erx (No) w2;replace HF := HF.and (Per.blkN Bb1 NotIn.nil);refine za rfl (zx rfl ?_)
 intro gb3 w4 Bb3 Eb3 Gb3;have Gb3 : _ ≤ gb3 := Nat.le_trans E.size Gb3;have GLb3 := Nat.le_trans LW.size Gb3;replace E := E.trans Eb3.no;replace HF := HF.cons (zi Gb3);replace E := E.cons (some gb3);replace XLW := Mut.grow XLW (fun k e => Or.inr (Nat.le_trans LW.size ((zi Gb3) k e)));replace HF := HF.on E;replace LW := LW.step E XLW
 have SB : ∀ q9, No q9 → Mut [(some gb3)] q9 := (Mut.skip Mut.nil_);replace HF := HF.less SB;replace XLW := fun k h => XLW k (SB k h);clear SB;replace E := erx (No) w4;replace HF := HF.and (Per.blkN Bb3 NotIn.nil)
 refine anx rfl (zj (srx (za rfl (zo Tryz.underlying28 rfl yk rfl (HF.on E).here.1.2 rfl (za rfl (zd jg rfl ((yu _ ua A1 B1 c1 d1 (HF.on E).here.1.1.1.2 hl true h1).mono ?_)))))));rintro e w5 ⟨rfl, hb⟩;refine ⟨_, rfl, ?_⟩;replace E := blx E hb
 refine za rfl (yf rfl (mvx rfl (onx rfl (zo Tryz.underlying28 rfl yk rfl (HF.on E).here.2 rfl (onx rfl (zd jg rfl ((yu _ ub A2 B2 c2 d2 (HF.on E).here.1.1.2 hl' false h2).mono ?_)))))));rintro e w6 ⟨rfl, hb⟩;refine ⟨_, rfl, ?_⟩;replace E := blx E hb
 refine onx rfl (yf rfl (za rfl (zh rfl rfl (rnx (yc rfl (srx (anx rfl (zm (zg (zl (rs := [.tmp 4]) (vs := [_]) rfl ⟨rfl, trivial⟩ ?_))))))))));exact ⟨by unfold eqV; rw [h1, h2]; rfl, (LW.step E XLW).toBelow⟩
theorem pl_eq3 (h1 : ua.good = true) (h2 : ub.good = true) (h3 : gi ua.k = true) (h4 : gi ub.k = true) : Calls Tryz.prog 8 #[.agg #[.int .i64 ua.k, .bool ua.yes, .bool ua.neg, .slice A1 ua.xs.length c1, .int .u64 ((ua.bits : Nat) : Int), .string ua.s, .slice B1 ua.ni d1], .agg #[.int .i64 ub.k, .bool ub.yes, .bool ub.neg, .slice A2 ub.xs.length c2, .int .u64 ((ub.bits : Nat) : Int), .string ub.s, .slice B2 ub.ni d2]] w fun e w' => e = .returned (.bool (eqV ua ub)) ∧ Below w.heap.size w w' := by
 have _ := hx; have _ := hl; have _ := ha; have _ := hy; have _ := hl'; have _ := hb0;refine zr Tryz.func8 rfl Tryz.ntmps8 rfl ?_;have HF : Per (No) w (fun _ => True) := Per.true_;have LW := erx (No) w;have XLW := grx (No) w;have E := erx (No) w;replace HF := HF.on E;replace LW := LW.step E XLW;replace E := erx (No) w;replace HF := HF.and (Per.nums0 hx);replace HF := HF.on E
 replace LW := LW.step E XLW;replace E := erx (No) w;replace HF := HF.and (Per.nums0 hy);refine srx (za rfl (zx rfl ?_));intro gb1 w2 Bb1 Eb1 Gb1;have Gb1 : _ ≤ gb1 := Nat.le_trans E.size Gb1;have GLb1 := Nat.le_trans LW.size Gb1;replace E := E.trans Eb1.no;replace HF := HF.cons (zi Gb1);replace E := E.cons (some gb1)
 replace XLW := Mut.grow XLW (fun k e => Or.inr (Nat.le_trans LW.size ((zi Gb1) k e)));replace HF := HF.on E;replace LW := LW.step E XLW;have SB : ∀ q9, No q9 → Mut [(some gb1)] q9 := (Mut.skip Mut.nil_);replace HF := HF.less SB;replace XLW := fun k h => XLW k (SB k h);clear SB;replace E := erx (No) w2;replace HF := HF.and (Per.blkN Bb1 NotIn.nil);refine za rfl (zx rfl ?_)
 intro gb3 w4 Bb3 Eb3 Gb3;have Gb3 : _ ≤ gb3 := Nat.le_trans E.size Gb3;have GLb3 := Nat.le_trans LW.size Gb3;replace E := E.trans Eb3.no;replace HF := HF.cons (zi Gb3);replace E := E.cons (some gb3);replace XLW := Mut.grow XLW (fun k e => Or.inr (Nat.le_trans LW.size ((zi Gb3) k e)));replace HF := HF.on E;replace LW := LW.step E XLW
 have SB : ∀ q9, No q9 → Mut [(some gb3)] q9 := (Mut.skip Mut.nil_);replace HF := HF.less SB;replace XLW := fun k h => XLW k (SB k h);clear SB;replace E := erx (No) w4;replace HF := HF.and (Per.blkN Bb3 NotIn.nil)
 refine anx rfl (zj (srx (za rfl (zo Tryz.underlying28 rfl yk rfl (HF.on E).here.1.2 rfl (za rfl (zd jg rfl ((yu _ ua A1 B1 c1 d1 (HF.on E).here.1.1.1.2 hl true h1).mono ?_)))))));rintro e w5 ⟨rfl, hb⟩;refine ⟨_, rfl, ?_⟩;replace E := blx E hb
 refine za rfl (yf rfl (mvx rfl (onx rfl (zo Tryz.underlying28 rfl yk rfl (HF.on E).here.2 rfl (onx rfl (zd jg rfl ((yu _ ub A2 B2 c2 d2 (HF.on E).here.1.1.2 hl' true h2).mono ?_)))))));rintro e w6 ⟨rfl, hb⟩;refine ⟨_, rfl, ?_⟩;replace E := blx E hb
 refine onx rfl (yf rfl (za rfl (zh rfl rfl (rnx (zp rfl (zq (zk (zj (srx (za rfl (zo Tryz.underlying28 rfl yk rfl (HF.on E).here.1.2 rfl (za rfl (zd en26 rfl ((xb _ ua A1 B1 c1 d1 true h3).mono ?_))))))))))))));rintro e w7 ⟨rfl, hb⟩;refine ⟨_, rfl, ?_⟩;replace E := blx E hb
 refine mvx rfl (onx rfl (zo Tryz.underlying28 rfl yk rfl (HF.on E).here.2 rfl (onx rfl (zd en26 rfl ((xb _ ub A2 B2 c2 d2 true h4).mono ?_)))));rintro e w8 ⟨rfl, hb⟩;refine ⟨_, rfl, ?_⟩;replace E := blx E hb
 refine za rfl (zt rfl rfl (rnx (yc rfl (srx (za rfl (zo Tryz.underlying28 rfl yk rfl (HF.on E).here.1.2 rfl (za rfl (zo Tryz.underlying28 rfl yk rfl (HF.on E).here.2 rfl (za rfl (zd en27 rfl ((pl_order _ ua ub A1 B1 A2 B2 c1 d1 c2 d2 (HF.on E).here.1.1.1.2 hl ha (HF.on E).here.1.1.2 hl' hb0).mono ?_)))))))))));rintro e w9 ⟨rfl, hb⟩;refine ⟨_, rfl, ?_⟩
 replace E := blx E hb;refine mvx rfl (za rfl (zn rfl rfl (za rfl (zn rfl rfl (avx rfl (anx rfl (srx (mvx rfl (mvx rfl ?_)))))))));by_cases ho : xy ua ub = true
 ·
  refine zz 28 (.bool true) rfl ((by rw [ho] : (.bool (xy ua ub) : Value) = _)) (onx rfl (zy rfl (onx rfl (ya rfl rfl (za rfl (zt rfl rfl (anx rfl (zm (zg (zl (rs := [.tmp 4]) (vs := [_]) rfl ⟨rfl, trivial⟩ ?_))))))))));exact ⟨by unfold eqV; rw [h1, h2, h3, h4, ho]; rfl, (LW.step E XLW).toBelow⟩
 ·
  have ho := Bool.eq_false_iff.2 ho;refine zz 28 (.bool false) rfl ((by rw [ho] : (.bool (xy ua ub) : Value) = _)) (za rfl (zc rfl (za rfl (zc rfl (za rfl (zh rfl rfl (anx rfl (zm (zg (zl (rs := [.tmp 4]) (vs := [_]) rfl ⟨rfl, trivial⟩ ?_))))))))));exact ⟨by unfold eqV; rw [h1, h2, h3, h4, ho]; rfl, (LW.step E XLW).toBelow⟩
theorem pl_eq4 (h1 : ua.good = true) (h2 : ub.good = true) (h3 : gi ua.k = false) : Calls Tryz.prog 8 #[.agg #[.int .i64 ua.k, .bool ua.yes, .bool ua.neg, .slice A1 ua.xs.length c1, .int .u64 ((ua.bits : Nat) : Int), .string ua.s, .slice B1 ua.ni d1], .agg #[.int .i64 ub.k, .bool ub.yes, .bool ub.neg, .slice A2 ub.xs.length c2, .int .u64 ((ub.bits : Nat) : Int), .string ub.s, .slice B2 ub.ni d2]] w fun e w' => e = .returned (.bool (eqV ua ub)) ∧ Below w.heap.size w w' := by
 have _ := hx; have _ := hl; have _ := ha; have _ := hy; have _ := hl'; have _ := hb0;refine zr Tryz.func8 rfl Tryz.ntmps8 rfl ?_;have HF : Per (No) w (fun _ => True) := Per.true_;have LW := erx (No) w;have XLW := grx (No) w;have E := erx (No) w;replace HF := HF.on E;replace LW := LW.step E XLW;replace E := erx (No) w;replace HF := HF.and (Per.nums0 hx);replace HF := HF.on E
 replace LW := LW.step E XLW;replace E := erx (No) w;replace HF := HF.and (Per.nums0 hy);refine srx (za rfl (zx rfl ?_));intro gb1 w2 Bb1 Eb1 Gb1;have Gb1 : _ ≤ gb1 := Nat.le_trans E.size Gb1;have GLb1 := Nat.le_trans LW.size Gb1;replace E := E.trans Eb1.no;replace HF := HF.cons (zi Gb1);replace E := E.cons (some gb1)
 replace XLW := Mut.grow XLW (fun k e => Or.inr (Nat.le_trans LW.size ((zi Gb1) k e)));replace HF := HF.on E;replace LW := LW.step E XLW;have SB : ∀ q9, No q9 → Mut [(some gb1)] q9 := (Mut.skip Mut.nil_);replace HF := HF.less SB;replace XLW := fun k h => XLW k (SB k h);clear SB;replace E := erx (No) w2;replace HF := HF.and (Per.blkN Bb1 NotIn.nil);refine za rfl (zx rfl ?_)
 intro gb3 w4 Bb3 Eb3 Gb3;have Gb3 : _ ≤ gb3 := Nat.le_trans E.size Gb3;have GLb3 := Nat.le_trans LW.size Gb3;replace E := E.trans Eb3.no;replace HF := HF.cons (zi Gb3);replace E := E.cons (some gb3);replace XLW := Mut.grow XLW (fun k e => Or.inr (Nat.le_trans LW.size ((zi Gb3) k e)));replace HF := HF.on E;replace LW := LW.step E XLW
 have SB : ∀ q9, No q9 → Mut [(some gb3)] q9 := (Mut.skip Mut.nil_);replace HF := HF.less SB;replace XLW := fun k h => XLW k (SB k h);clear SB;replace E := erx (No) w4;replace HF := HF.and (Per.blkN Bb3 NotIn.nil)
 refine anx rfl (zj (srx (za rfl (zo Tryz.underlying28 rfl yk rfl (HF.on E).here.1.2 rfl (za rfl (zd jg rfl ((yu _ ua A1 B1 c1 d1 (HF.on E).here.1.1.1.2 hl true h1).mono ?_)))))));rintro e w5 ⟨rfl, hb⟩;refine ⟨_, rfl, ?_⟩;replace E := blx E hb
 refine za rfl (yf rfl (mvx rfl (onx rfl (zo Tryz.underlying28 rfl yk rfl (HF.on E).here.2 rfl (onx rfl (zd jg rfl ((yu _ ub A2 B2 c2 d2 (HF.on E).here.1.1.2 hl' true h2).mono ?_)))))));rintro e w6 ⟨rfl, hb⟩;refine ⟨_, rfl, ?_⟩;replace E := blx E hb
 refine onx rfl (yf rfl (za rfl (zh rfl rfl (rnx (zp rfl (zq (zk (zj (srx (za rfl (zo Tryz.underlying28 rfl yk rfl (HF.on E).here.1.2 rfl (za rfl (zd en26 rfl ((xb _ ua A1 B1 c1 d1 false h3).mono ?_))))))))))))));rintro e w7 ⟨rfl, hb⟩;refine ⟨_, rfl, ?_⟩;replace E := blx E hb
 refine mvx rfl (za rfl (zc rfl (za rfl (zc rfl (za rfl (zh rfl rfl (rnx (zp rfl (zq (zk (srx (za rfl (zb Tryz.underlying28 rfl sz3 (by decide) rfl (za rfl (zf Tryz.underlying3 rfl rfl (HF.on E).here.1.2 rfl (za rfl (zb Tryz.underlying28 rfl sz3 (by decide) rfl (za rfl (zf Tryz.underlying3 rfl rfl (HF.on E).here.2 rfl (za rfl (ya rfl rfl (mvx rfl ?_))))))))))))))))))))))
 by_cases ho : (ua.k == ub.k) = true
 ·
  refine zz 37 (.bool true) rfl ((by rw [ho] : (.bool (ua.k == ub.k) : Value) = _)) (onx rfl (zb Tryz.underlying28 rfl sz9 (by decide) rfl (onx rfl (zf Tryz.underlying9 rfl rfl (HF.on E).here.1.2 rfl (onx rfl (zb Tryz.underlying28 rfl sz9 (by decide) rfl (onx rfl (zf Tryz.underlying9 rfl rfl (HF.on E).here.2 rfl (onx rfl (xg rfl rfl (za rfl (zt rfl rfl (anx rfl (zm (zl (rs := [.tmp 4]) (vs := [_]) rfl ⟨rfl, trivial⟩ ?_)))))))))))))))
  exact ⟨by unfold eqV eqS; rw [h1, h2, h3, ho]; rfl, (LW.step E XLW).toBelow⟩
 ·
  have ho := Bool.eq_false_iff.2 ho;refine zz 37 (.bool false) rfl ((by rw [ho] : (.bool (ua.k == ub.k) : Value) = _)) (za rfl (zc rfl (za rfl (zc rfl (za rfl (zc rfl (za rfl (zc rfl (za rfl (zc rfl (za rfl (zh rfl rfl (anx rfl (zm (zl (rs := [.tmp 4]) (vs := [_]) rfl ⟨rfl, trivial⟩ ?_)))))))))))))))
  exact ⟨by unfold eqV eqS; rw [h1, h2, h3, ho]; rfl, (LW.step E XLW).toBelow⟩
theorem pl_eq5 (h1 : ua.good = true) (h2 : ub.good = true) (h3 : gi ua.k = true) (h4 : gi ub.k = false) : Calls Tryz.prog 8 #[.agg #[.int .i64 ua.k, .bool ua.yes, .bool ua.neg, .slice A1 ua.xs.length c1, .int .u64 ((ua.bits : Nat) : Int), .string ua.s, .slice B1 ua.ni d1], .agg #[.int .i64 ub.k, .bool ub.yes, .bool ub.neg, .slice A2 ub.xs.length c2, .int .u64 ((ub.bits : Nat) : Int), .string ub.s, .slice B2 ub.ni d2]] w fun e w' => e = .returned (.bool (eqV ua ub)) ∧ Below w.heap.size w w' := by
 have _ := hx; have _ := hl; have _ := ha; have _ := hy; have _ := hl'; have _ := hb0;refine zr Tryz.func8 rfl Tryz.ntmps8 rfl ?_;have HF : Per (No) w (fun _ => True) := Per.true_;have LW := erx (No) w;have XLW := grx (No) w;have E := erx (No) w;replace HF := HF.on E;replace LW := LW.step E XLW;replace E := erx (No) w;replace HF := HF.and (Per.nums0 hx);replace HF := HF.on E
 replace LW := LW.step E XLW;replace E := erx (No) w;replace HF := HF.and (Per.nums0 hy);refine srx (za rfl (zx rfl ?_));intro gb1 w2 Bb1 Eb1 Gb1;have Gb1 : _ ≤ gb1 := Nat.le_trans E.size Gb1;have GLb1 := Nat.le_trans LW.size Gb1;replace E := E.trans Eb1.no;replace HF := HF.cons (zi Gb1);replace E := E.cons (some gb1)
 replace XLW := Mut.grow XLW (fun k e => Or.inr (Nat.le_trans LW.size ((zi Gb1) k e)));replace HF := HF.on E;replace LW := LW.step E XLW;have SB : ∀ q9, No q9 → Mut [(some gb1)] q9 := (Mut.skip Mut.nil_);replace HF := HF.less SB;replace XLW := fun k h => XLW k (SB k h);clear SB;replace E := erx (No) w2;replace HF := HF.and (Per.blkN Bb1 NotIn.nil);refine za rfl (zx rfl ?_)
 intro gb3 w4 Bb3 Eb3 Gb3;have Gb3 : _ ≤ gb3 := Nat.le_trans E.size Gb3;have GLb3 := Nat.le_trans LW.size Gb3;replace E := E.trans Eb3.no;replace HF := HF.cons (zi Gb3);replace E := E.cons (some gb3);replace XLW := Mut.grow XLW (fun k e => Or.inr (Nat.le_trans LW.size ((zi Gb3) k e)));replace HF := HF.on E;replace LW := LW.step E XLW
 have SB : ∀ q9, No q9 → Mut [(some gb3)] q9 := (Mut.skip Mut.nil_);replace HF := HF.less SB;replace XLW := fun k h => XLW k (SB k h);clear SB;replace E := erx (No) w4;replace HF := HF.and (Per.blkN Bb3 NotIn.nil)
 refine anx rfl (zj (srx (za rfl (zo Tryz.underlying28 rfl yk rfl (HF.on E).here.1.2 rfl (za rfl (zd jg rfl ((yu _ ua A1 B1 c1 d1 (HF.on E).here.1.1.1.2 hl true h1).mono ?_)))))));rintro e w5 ⟨rfl, hb⟩;refine ⟨_, rfl, ?_⟩;replace E := blx E hb
 refine za rfl (yf rfl (mvx rfl (onx rfl (zo Tryz.underlying28 rfl yk rfl (HF.on E).here.2 rfl (onx rfl (zd jg rfl ((yu _ ub A2 B2 c2 d2 (HF.on E).here.1.1.2 hl' true h2).mono ?_)))))));rintro e w6 ⟨rfl, hb⟩;refine ⟨_, rfl, ?_⟩;replace E := blx E hb
 refine onx rfl (yf rfl (za rfl (zh rfl rfl (rnx (zp rfl (zq (zk (zj (srx (za rfl (zo Tryz.underlying28 rfl yk rfl (HF.on E).here.1.2 rfl (za rfl (zd en26 rfl ((xb _ ua A1 B1 c1 d1 true h3).mono ?_))))))))))))));rintro e w7 ⟨rfl, hb⟩;refine ⟨_, rfl, ?_⟩;replace E := blx E hb
 refine mvx rfl (onx rfl (zo Tryz.underlying28 rfl yk rfl (HF.on E).here.2 rfl (onx rfl (zd en26 rfl ((xb _ ub A2 B2 c2 d2 false h4).mono ?_)))));rintro e w8 ⟨rfl, hb⟩;refine ⟨_, rfl, ?_⟩;replace E := blx E hb
 refine za rfl (zt rfl rfl (rnx (zp rfl (zq (zk (srx (za rfl (zb Tryz.underlying28 rfl sz3 (by decide) rfl (za rfl (zf Tryz.underlying3 rfl rfl (HF.on E).here.1.2 rfl (za rfl (zb Tryz.underlying28 rfl sz3 (by decide) rfl (za rfl (zf Tryz.underlying3 rfl rfl (HF.on E).here.2 rfl (za rfl (ya rfl rfl (mvx rfl ?_)))))))))))))))))
 by_cases ho : (ua.k == ub.k) = true
 ·
  refine zz 37 (.bool true) rfl ((by rw [ho] : (.bool (ua.k == ub.k) : Value) = _)) (onx rfl (zb Tryz.underlying28 rfl sz9 (by decide) rfl (onx rfl (zf Tryz.underlying9 rfl rfl (HF.on E).here.1.2 rfl (onx rfl (zb Tryz.underlying28 rfl sz9 (by decide) rfl (onx rfl (zf Tryz.underlying9 rfl rfl (HF.on E).here.2 rfl (onx rfl (xg rfl rfl (za rfl (zt rfl rfl (anx rfl (zm (zl (rs := [.tmp 4]) (vs := [_]) rfl ⟨rfl, trivial⟩ ?_)))))))))))))))
  exact ⟨by unfold eqV eqS; rw [h1, h2, h3, h4, ho]; rfl, (LW.step E XLW).toBelow⟩
 ·
  have ho := Bool.eq_false_iff.2 ho;refine zz 37 (.bool false) rfl ((by rw [ho] : (.bool (ua.k == ub.k) : Value) = _)) (za rfl (zc rfl (za rfl (zc rfl (za rfl (zc rfl (za rfl (zc rfl (za rfl (zc rfl (za rfl (zh rfl rfl (anx rfl (zm (zl (rs := [.tmp 4]) (vs := [_]) rfl ⟨rfl, trivial⟩ ?_)))))))))))))))
  exact ⟨by unfold eqV eqS; rw [h1, h2, h3, h4, ho]; rfl, (LW.step E XLW).toBelow⟩
theorem kf : Calls Tryz.prog 8 #[.agg #[.int .i64 ua.k, .bool ua.yes, .bool ua.neg, .slice A1 ua.xs.length c1, .int .u64 ((ua.bits : Nat) : Int), .string ua.s, .slice B1 ua.ni d1], .agg #[.int .i64 ub.k, .bool ub.yes, .bool ub.neg, .slice A2 ub.xs.length c2, .int .u64 ((ub.bits : Nat) : Int), .string ub.s, .slice B2 ub.ni d2]] w fun e w' => e = .returned (.bool (eqV ua ub)) ∧ Below w.heap.size w w' := by
 cases h1 : ua.good
 · exact pl_eq1 w ua ub A1 B1 A2 B2 c1 d1 c2 d2 hx hl ha hy hl' hb0 h1
 cases h2 : ub.good
 · exact pl_eq2 w ua ub A1 B1 A2 B2 c1 d1 c2 d2 hx hl ha hy hl' hb0 h1 h2
 cases h3 : gi ua.k
 · exact pl_eq4 w ua ub A1 B1 A2 B2 c1 d1 c2 d2 hx hl ha hy hl' hb0 h1 h2 h3
 cases h4 : gi ub.k
 · exact pl_eq5 w ua ub A1 B1 A2 B2 c1 d1 c2 d2 hx hl ha hy hl' hb0 h1 h2 h3 h4
 · exact pl_eq3 w ua ub A1 B1 A2 B2 c1 d1 c2 d2 hx hl ha hy hl' hb0 h1 h2 h3 h4
theorem pl_or1 (h1 : ua.good = false) : Calls Tryz.prog 6 #[.agg #[.int .i64 ua.k, .bool ua.yes, .bool ua.neg, .slice A1 ua.xs.length c1, .int .u64 ((ua.bits : Nat) : Int), .string ua.s, .slice B1 ua.ni d1], .agg #[.int .i64 ub.k, .bool ub.yes, .bool ub.neg, .slice A2 ub.xs.length c2, .int .u64 ((ub.bits : Nat) : Int), .string ub.s, .slice B2 ub.ni d2]] w fun e w' => e = .returned (.tuple #[.int .i64 (qh ua ub).1, .bool (qh ua ub).2.1, .int .i64 (qh ua ub).2.2]) ∧ Below w.heap.size w w' := by
 have _ := hx; have _ := hl; have _ := ha; have _ := hy; have _ := hl'; have _ := hb0;refine zr Tryz.func6 rfl Tryz.ntmps6 rfl ?_;have HF : Per (No) w (fun _ => True) := Per.true_;have LW := erx (No) w;have XLW := grx (No) w;have E := erx (No) w;replace HF := HF.on E;replace LW := LW.step E XLW;replace E := erx (No) w;replace HF := HF.and (Per.nums0 hx);replace HF := HF.on E
 replace LW := LW.step E XLW;replace E := erx (No) w;replace HF := HF.and (Per.nums0 hy);refine srx (za rfl (zx rfl ?_));intro gb1 w2 Bb1 Eb1 Gb1;have Gb1 : _ ≤ gb1 := Nat.le_trans E.size Gb1;have GLb1 := Nat.le_trans LW.size Gb1;replace E := E.trans Eb1.no;replace HF := HF.cons (zi Gb1);replace E := E.cons (some gb1)
 replace XLW := Mut.grow XLW (fun k e => Or.inr (Nat.le_trans LW.size ((zi Gb1) k e)));replace HF := HF.on E;replace LW := LW.step E XLW;have SB : ∀ q9, No q9 → Mut [(some gb1)] q9 := (Mut.skip Mut.nil_);replace HF := HF.less SB;replace XLW := fun k h => XLW k (SB k h);clear SB;replace E := erx (No) w2;replace HF := HF.and (Per.blkN Bb1 NotIn.nil);refine za rfl (zx rfl ?_)
 intro gb3 w4 Bb3 Eb3 Gb3;have Gb3 : _ ≤ gb3 := Nat.le_trans E.size Gb3;have GLb3 := Nat.le_trans LW.size Gb3;replace E := E.trans Eb3.no;replace HF := HF.cons (zi Gb3);replace E := E.cons (some gb3);replace XLW := Mut.grow XLW (fun k e => Or.inr (Nat.le_trans LW.size ((zi Gb3) k e)));replace HF := HF.on E;replace LW := LW.step E XLW
 have SB : ∀ q9, No q9 → Mut [(some gb3)] q9 := (Mut.skip Mut.nil_);replace HF := HF.less SB;replace XLW := fun k h => XLW k (SB k h);clear SB;replace E := erx (No) w4;replace HF := HF.and (Per.blkN Bb3 NotIn.nil)
 refine avx rfl (avx rfl (anx rfl (zj (srx (za rfl (zo Tryz.underlying28 rfl yk rfl (HF.on E).here.1.2 rfl (za rfl (zd jg rfl ((yu _ ua A1 B1 c1 d1 (HF.on E).here.1.1.1.2 hl false h1).mono ?_)))))))));rintro e w5 ⟨rfl, hb⟩;refine ⟨_, rfl, ?_⟩;replace E := blx E hb
 refine za rfl (yf rfl (mvx rfl (za rfl (zc rfl (za rfl (zc rfl (za rfl (zc rfl (za rfl (zt rfl rfl (rnx (yc rfl (srx (avx rfl (avx rfl (anx rfl (zm (zg (zl (rs := [.tmp 4, .tmp 5, .tmp 6]) (vs := [_, _, _]) rfl ⟨rfl, rfl, rfl, trivial⟩ ?_)))))))))))))))))));exact ⟨by unfold qh; rw [h1]; rfl, (LW.step E XLW).toBelow⟩
theorem pl_or2 (h1 : ua.good = true) (h2 : ub.good = false) : Calls Tryz.prog 6 #[.agg #[.int .i64 ua.k, .bool ua.yes, .bool ua.neg, .slice A1 ua.xs.length c1, .int .u64 ((ua.bits : Nat) : Int), .string ua.s, .slice B1 ua.ni d1], .agg #[.int .i64 ub.k, .bool ub.yes, .bool ub.neg, .slice A2 ub.xs.length c2, .int .u64 ((ub.bits : Nat) : Int), .string ub.s, .slice B2 ub.ni d2]] w fun e w' => e = .returned (.tuple #[.int .i64 (qh ua ub).1, .bool (qh ua ub).2.1, .int .i64 (qh ua ub).2.2]) ∧ Below w.heap.size w w' := by
 have _ := hx; have _ := hl; have _ := ha; have _ := hy; have _ := hl'; have _ := hb0;refine zr Tryz.func6 rfl Tryz.ntmps6 rfl ?_;have HF : Per (No) w (fun _ => True) := Per.true_;have LW := erx (No) w;have XLW := grx (No) w;have E := erx (No) w;replace HF := HF.on E;replace LW := LW.step E XLW;replace E := erx (No) w;replace HF := HF.and (Per.nums0 hx);replace HF := HF.on E
 replace LW := LW.step E XLW;replace E := erx (No) w;replace HF := HF.and (Per.nums0 hy);refine srx (za rfl (zx rfl ?_));intro gb1 w2 Bb1 Eb1 Gb1;have Gb1 : _ ≤ gb1 := Nat.le_trans E.size Gb1;have GLb1 := Nat.le_trans LW.size Gb1;replace E := E.trans Eb1.no;replace HF := HF.cons (zi Gb1);replace E := E.cons (some gb1)
 replace XLW := Mut.grow XLW (fun k e => Or.inr (Nat.le_trans LW.size ((zi Gb1) k e)));replace HF := HF.on E;replace LW := LW.step E XLW;have SB : ∀ q9, No q9 → Mut [(some gb1)] q9 := (Mut.skip Mut.nil_);replace HF := HF.less SB;replace XLW := fun k h => XLW k (SB k h);clear SB;replace E := erx (No) w2;replace HF := HF.and (Per.blkN Bb1 NotIn.nil);refine za rfl (zx rfl ?_)
 intro gb3 w4 Bb3 Eb3 Gb3;have Gb3 : _ ≤ gb3 := Nat.le_trans E.size Gb3;have GLb3 := Nat.le_trans LW.size Gb3;replace E := E.trans Eb3.no;replace HF := HF.cons (zi Gb3);replace E := E.cons (some gb3);replace XLW := Mut.grow XLW (fun k e => Or.inr (Nat.le_trans LW.size ((zi Gb3) k e)));replace HF := HF.on E;replace LW := LW.step E XLW
 have SB : ∀ q9, No q9 → Mut [(some gb3)] q9 := (Mut.skip Mut.nil_);replace HF := HF.less SB;replace XLW := fun k h => XLW k (SB k h);clear SB;replace E := erx (No) w4;replace HF := HF.and (Per.blkN Bb3 NotIn.nil)
 refine avx rfl (avx rfl (anx rfl (zj (srx (za rfl (zo Tryz.underlying28 rfl yk rfl (HF.on E).here.1.2 rfl (za rfl (zd jg rfl ((yu _ ua A1 B1 c1 d1 (HF.on E).here.1.1.1.2 hl true h1).mono ?_)))))))));rintro e w5 ⟨rfl, hb⟩;refine ⟨_, rfl, ?_⟩;replace E := blx E hb
 refine za rfl (yf rfl (mvx rfl (onx rfl (zo Tryz.underlying28 rfl yk rfl (HF.on E).here.2 rfl (onx rfl (zd jg rfl ((yu _ ub A2 B2 c2 d2 (HF.on E).here.1.1.2 hl' false h2).mono ?_)))))));rintro e w6 ⟨rfl, hb⟩;refine ⟨_, rfl, ?_⟩;replace E := blx E hb
 refine onx rfl (yf rfl (za rfl (zh rfl rfl (rnx (yc rfl (srx (avx rfl (avx rfl (anx rfl (zm (zg (zl (rs := [.tmp 4, .tmp 5, .tmp 6]) (vs := [_, _, _]) rfl ⟨rfl, rfl, rfl, trivial⟩ ?_))))))))))));exact ⟨by unfold qh; rw [h1, h2]; rfl, (LW.step E XLW).toBelow⟩
theorem pl_or3 (h1 : ua.good = true) (h2 : ub.good = true) (h3 : gi ua.k = true) (h4 : gi ub.k = true) : Calls Tryz.prog 6 #[.agg #[.int .i64 ua.k, .bool ua.yes, .bool ua.neg, .slice A1 ua.xs.length c1, .int .u64 ((ua.bits : Nat) : Int), .string ua.s, .slice B1 ua.ni d1], .agg #[.int .i64 ub.k, .bool ub.yes, .bool ub.neg, .slice A2 ub.xs.length c2, .int .u64 ((ub.bits : Nat) : Int), .string ub.s, .slice B2 ub.ni d2]] w fun e w' => e = .returned (.tuple #[.int .i64 (qh ua ub).1, .bool (qh ua ub).2.1, .int .i64 (qh ua ub).2.2]) ∧ Below w.heap.size w w' := by
 have _ := hx; have _ := hl; have _ := ha; have _ := hy; have _ := hl'; have _ := hb0;refine zr Tryz.func6 rfl Tryz.ntmps6 rfl ?_;have HF : Per (No) w (fun _ => True) := Per.true_;have LW := erx (No) w;have XLW := grx (No) w;have E := erx (No) w;replace HF := HF.on E;replace LW := LW.step E XLW;replace E := erx (No) w;replace HF := HF.and (Per.nums0 hx);replace HF := HF.on E
 replace LW := LW.step E XLW;replace E := erx (No) w;replace HF := HF.and (Per.nums0 hy);refine srx (za rfl (zx rfl ?_));intro gb1 w2 Bb1 Eb1 Gb1;have Gb1 : _ ≤ gb1 := Nat.le_trans E.size Gb1;have GLb1 := Nat.le_trans LW.size Gb1;replace E := E.trans Eb1.no;replace HF := HF.cons (zi Gb1);replace E := E.cons (some gb1)
 replace XLW := Mut.grow XLW (fun k e => Or.inr (Nat.le_trans LW.size ((zi Gb1) k e)));replace HF := HF.on E;replace LW := LW.step E XLW;have SB : ∀ q9, No q9 → Mut [(some gb1)] q9 := (Mut.skip Mut.nil_);replace HF := HF.less SB;replace XLW := fun k h => XLW k (SB k h);clear SB;replace E := erx (No) w2;replace HF := HF.and (Per.blkN Bb1 NotIn.nil);refine za rfl (zx rfl ?_)
 intro gb3 w4 Bb3 Eb3 Gb3;have Gb3 : _ ≤ gb3 := Nat.le_trans E.size Gb3;have GLb3 := Nat.le_trans LW.size Gb3;replace E := E.trans Eb3.no;replace HF := HF.cons (zi Gb3);replace E := E.cons (some gb3);replace XLW := Mut.grow XLW (fun k e => Or.inr (Nat.le_trans LW.size ((zi Gb3) k e)));replace HF := HF.on E;replace LW := LW.step E XLW
 have SB : ∀ q9, No q9 → Mut [(some gb3)] q9 := (Mut.skip Mut.nil_);replace HF := HF.less SB;replace XLW := fun k h => XLW k (SB k h);clear SB;replace E := erx (No) w4;replace HF := HF.and (Per.blkN Bb3 NotIn.nil)
 refine avx rfl (avx rfl (anx rfl (zj (srx (za rfl (zo Tryz.underlying28 rfl yk rfl (HF.on E).here.1.2 rfl (za rfl (zd jg rfl ((yu _ ua A1 B1 c1 d1 (HF.on E).here.1.1.1.2 hl true h1).mono ?_)))))))));rintro e w5 ⟨rfl, hb⟩;refine ⟨_, rfl, ?_⟩;replace E := blx E hb
 refine za rfl (yf rfl (mvx rfl (onx rfl (zo Tryz.underlying28 rfl yk rfl (HF.on E).here.2 rfl (onx rfl (zd jg rfl ((yu _ ub A2 B2 c2 d2 (HF.on E).here.1.1.2 hl' true h2).mono ?_)))))));rintro e w6 ⟨rfl, hb⟩;refine ⟨_, rfl, ?_⟩;replace E := blx E hb
 refine onx rfl (yf rfl (za rfl (zh rfl rfl (rnx (zp rfl (zq (zk (zj (srx (za rfl (zo Tryz.underlying28 rfl yk rfl (HF.on E).here.1.2 rfl (za rfl (zd en26 rfl ((xb _ ua A1 B1 c1 d1 true h3).mono ?_))))))))))))));rintro e w7 ⟨rfl, hb⟩;refine ⟨_, rfl, ?_⟩;replace E := blx E hb
 refine mvx rfl (onx rfl (zo Tryz.underlying28 rfl yk rfl (HF.on E).here.2 rfl (onx rfl (zd en26 rfl ((xb _ ub A2 B2 c2 d2 true h4).mono ?_)))));rintro e w8 ⟨rfl, hb⟩;refine ⟨_, rfl, ?_⟩;replace E := blx E hb
 refine za rfl (zt rfl rfl (rnx (yc rfl (srx (za rfl (zo Tryz.underlying28 rfl yk rfl (HF.on E).here.1.2 rfl (za rfl (zo Tryz.underlying28 rfl yk rfl (HF.on E).here.2 rfl (za rfl (zd en27 rfl ((pl_order _ ua ub A1 B1 A2 B2 c1 d1 c2 d2 (HF.on E).here.1.1.1.2 hl ha (HF.on E).here.1.1.2 hl' hb0).mono ?_)))))))))));rintro e w9 ⟨rfl, hb⟩;refine ⟨_, rfl, ?_⟩
 replace E := blx E hb;refine mvx rfl (za rfl (zn rfl rfl (za rfl (zn rfl rfl (avx rfl (anx rfl (srx (mvx rfl (mvx rfl (avx rfl (avx rfl (anx rfl (zm (zg (zl (rs := [.tmp 4, .tmp 5, .tmp 6]) (vs := [_, _, _]) rfl ⟨rfl, rfl, rfl, trivial⟩ ?_)))))))))))))));exact ⟨by unfold qh; rw [h1, h2, h3, h4]; rfl, (LW.step E XLW).toBelow⟩
theorem pl_or4 (h1 : ua.good = true) (h2 : ub.good = true) (h3 : gi ua.k = false) : Calls Tryz.prog 6 #[.agg #[.int .i64 ua.k, .bool ua.yes, .bool ua.neg, .slice A1 ua.xs.length c1, .int .u64 ((ua.bits : Nat) : Int), .string ua.s, .slice B1 ua.ni d1], .agg #[.int .i64 ub.k, .bool ub.yes, .bool ub.neg, .slice A2 ub.xs.length c2, .int .u64 ((ub.bits : Nat) : Int), .string ub.s, .slice B2 ub.ni d2]] w fun e w' => e = .returned (.tuple #[.int .i64 (qh ua ub).1, .bool (qh ua ub).2.1, .int .i64 (qh ua ub).2.2]) ∧ Below w.heap.size w w' := by
 have _ := hx; have _ := hl; have _ := ha; have _ := hy; have _ := hl'; have _ := hb0;refine zr Tryz.func6 rfl Tryz.ntmps6 rfl ?_;have HF : Per (No) w (fun _ => True) := Per.true_;have LW := erx (No) w;have XLW := grx (No) w;have E := erx (No) w;replace HF := HF.on E;replace LW := LW.step E XLW;replace E := erx (No) w;replace HF := HF.and (Per.nums0 hx);replace HF := HF.on E
 replace LW := LW.step E XLW;replace E := erx (No) w;replace HF := HF.and (Per.nums0 hy);refine srx (za rfl (zx rfl ?_));intro gb1 w2 Bb1 Eb1 Gb1;have Gb1 : _ ≤ gb1 := Nat.le_trans E.size Gb1;have GLb1 := Nat.le_trans LW.size Gb1;replace E := E.trans Eb1.no;replace HF := HF.cons (zi Gb1);replace E := E.cons (some gb1)
 replace XLW := Mut.grow XLW (fun k e => Or.inr (Nat.le_trans LW.size ((zi Gb1) k e)));replace HF := HF.on E;replace LW := LW.step E XLW;have SB : ∀ q9, No q9 → Mut [(some gb1)] q9 := (Mut.skip Mut.nil_);replace HF := HF.less SB;replace XLW := fun k h => XLW k (SB k h);clear SB;replace E := erx (No) w2;replace HF := HF.and (Per.blkN Bb1 NotIn.nil);refine za rfl (zx rfl ?_)
 intro gb3 w4 Bb3 Eb3 Gb3;have Gb3 : _ ≤ gb3 := Nat.le_trans E.size Gb3;have GLb3 := Nat.le_trans LW.size Gb3;replace E := E.trans Eb3.no;replace HF := HF.cons (zi Gb3);replace E := E.cons (some gb3);replace XLW := Mut.grow XLW (fun k e => Or.inr (Nat.le_trans LW.size ((zi Gb3) k e)));replace HF := HF.on E;replace LW := LW.step E XLW
 have SB : ∀ q9, No q9 → Mut [(some gb3)] q9 := (Mut.skip Mut.nil_);replace HF := HF.less SB;replace XLW := fun k h => XLW k (SB k h);clear SB;replace E := erx (No) w4;replace HF := HF.and (Per.blkN Bb3 NotIn.nil)
 refine avx rfl (avx rfl (anx rfl (zj (srx (za rfl (zo Tryz.underlying28 rfl yk rfl (HF.on E).here.1.2 rfl (za rfl (zd jg rfl ((yu _ ua A1 B1 c1 d1 (HF.on E).here.1.1.1.2 hl true h1).mono ?_)))))))));rintro e w5 ⟨rfl, hb⟩;refine ⟨_, rfl, ?_⟩;replace E := blx E hb
 refine za rfl (yf rfl (mvx rfl (onx rfl (zo Tryz.underlying28 rfl yk rfl (HF.on E).here.2 rfl (onx rfl (zd jg rfl ((yu _ ub A2 B2 c2 d2 (HF.on E).here.1.1.2 hl' true h2).mono ?_)))))));rintro e w6 ⟨rfl, hb⟩;refine ⟨_, rfl, ?_⟩;replace E := blx E hb
 refine onx rfl (yf rfl (za rfl (zh rfl rfl (rnx (zp rfl (zq (zk (zj (srx (za rfl (zo Tryz.underlying28 rfl yk rfl (HF.on E).here.1.2 rfl (za rfl (zd en26 rfl ((xb _ ua A1 B1 c1 d1 false h3).mono ?_))))))))))))));rintro e w7 ⟨rfl, hb⟩;refine ⟨_, rfl, ?_⟩;replace E := blx E hb
 refine mvx rfl (za rfl (zc rfl (za rfl (zc rfl (za rfl (zh rfl rfl (rnx (zp rfl (zq (zk (zj (srx (za rfl (zb Tryz.underlying28 rfl sz3 (by decide) rfl (za rfl (zf Tryz.underlying3 rfl rfl (HF.on E).here.1.2 rfl (za rfl (ya rfl rfl (mvx rfl ?_)))))))))))))))))));by_cases hk : (ua.k == 4) = true
 ·
  refine zz 34 (.bool true) rfl ((by rw [hk] : (.bool (ua.k == 4) : Value) = _)) (onx rfl (zb Tryz.underlying28 rfl sz3 (by decide) rfl (onx rfl (zf Tryz.underlying3 rfl rfl (HF.on E).here.2 rfl (onx rfl (ya rfl rfl (za rfl (zt rfl rfl (rnx (yx rfl (fun hj => ?_) (fun hj => ?_)))))))))))
  ·
   refine srx (za rfl (zb Tryz.underlying28 rfl sz9 (by decide) rfl (za rfl (zf Tryz.underlying9 rfl rfl (HF.on E).here.1.2 rfl (za rfl (zb Tryz.underlying28 rfl sz9 (by decide) rfl (za rfl (zf Tryz.underlying9 rfl rfl (HF.on E).here.2 rfl (za rfl (zd en28 rfl (((Tryz.strings_Compare ua.s ub.s _)).mono ?_)))))))))));rintro e w8 ⟨rfl, rfl⟩
   refine ⟨_, rfl, (avx rfl (avx rfl (anx rfl (zm (zg (zl (rs := [.tmp 4, .tmp 5, .tmp 6]) (vs := [_, _, _]) rfl ⟨rfl, rfl, rfl, trivial⟩ ?_))))))⟩;exact ⟨by unfold qh; rw [h1, h2, h3, hk, hj]; rfl, (LW.step E XLW).toBelow⟩
  ·
   refine zq (zk (srx (avx rfl (avx rfl (anx rfl (zm (zl (rs := [.tmp 4, .tmp 5, .tmp 6]) (vs := [_, _, _]) rfl ⟨rfl, rfl, rfl, trivial⟩ ?_)))))));exact ⟨by unfold qh; rw [h1, h2, h3, hk, hj]; rfl, (LW.step E XLW).toBelow⟩
 ·
  have hk := Bool.eq_false_iff.2 hk
  refine zz 34 (.bool false) rfl ((by rw [hk] : (.bool (ua.k == 4) : Value) = _)) (za rfl (zc rfl (za rfl (zc rfl (za rfl (zc rfl (za rfl (zh rfl rfl (rnx (zp rfl (zq (zk (srx (avx rfl (avx rfl (anx rfl (zm (zl (rs := [.tmp 4, .tmp 5, .tmp 6]) (vs := [_, _, _]) rfl ⟨rfl, rfl, rfl, trivial⟩ ?_))))))))))))))))))
  exact ⟨by unfold qh; rw [h1, h2, h3, hk]; rfl, (LW.step E XLW).toBelow⟩
theorem pl_or5 (h1 : ua.good = true) (h2 : ub.good = true) (h3 : gi ua.k = true) (h4 : gi ub.k = false) : Calls Tryz.prog 6 #[.agg #[.int .i64 ua.k, .bool ua.yes, .bool ua.neg, .slice A1 ua.xs.length c1, .int .u64 ((ua.bits : Nat) : Int), .string ua.s, .slice B1 ua.ni d1], .agg #[.int .i64 ub.k, .bool ub.yes, .bool ub.neg, .slice A2 ub.xs.length c2, .int .u64 ((ub.bits : Nat) : Int), .string ub.s, .slice B2 ub.ni d2]] w fun e w' => e = .returned (.tuple #[.int .i64 (qh ua ub).1, .bool (qh ua ub).2.1, .int .i64 (qh ua ub).2.2]) ∧ Below w.heap.size w w' := by
 have _ := hx; have _ := hl; have _ := ha; have _ := hy; have _ := hl'; have _ := hb0;refine zr Tryz.func6 rfl Tryz.ntmps6 rfl ?_;have HF : Per (No) w (fun _ => True) := Per.true_;have LW := erx (No) w;have XLW := grx (No) w;have E := erx (No) w;replace HF := HF.on E;replace LW := LW.step E XLW;replace E := erx (No) w;replace HF := HF.and (Per.nums0 hx);replace HF := HF.on E
 replace LW := LW.step E XLW;replace E := erx (No) w;replace HF := HF.and (Per.nums0 hy);refine srx (za rfl (zx rfl ?_));intro gb1 w2 Bb1 Eb1 Gb1;have Gb1 : _ ≤ gb1 := Nat.le_trans E.size Gb1;have GLb1 := Nat.le_trans LW.size Gb1;replace E := E.trans Eb1.no;replace HF := HF.cons (zi Gb1);replace E := E.cons (some gb1)
 replace XLW := Mut.grow XLW (fun k e => Or.inr (Nat.le_trans LW.size ((zi Gb1) k e)));replace HF := HF.on E;replace LW := LW.step E XLW;have SB : ∀ q9, No q9 → Mut [(some gb1)] q9 := (Mut.skip Mut.nil_);replace HF := HF.less SB;replace XLW := fun k h => XLW k (SB k h);clear SB;replace E := erx (No) w2;replace HF := HF.and (Per.blkN Bb1 NotIn.nil);refine za rfl (zx rfl ?_)
 intro gb3 w4 Bb3 Eb3 Gb3;have Gb3 : _ ≤ gb3 := Nat.le_trans E.size Gb3;have GLb3 := Nat.le_trans LW.size Gb3;replace E := E.trans Eb3.no;replace HF := HF.cons (zi Gb3);replace E := E.cons (some gb3);replace XLW := Mut.grow XLW (fun k e => Or.inr (Nat.le_trans LW.size ((zi Gb3) k e)));replace HF := HF.on E;replace LW := LW.step E XLW
 have SB : ∀ q9, No q9 → Mut [(some gb3)] q9 := (Mut.skip Mut.nil_);replace HF := HF.less SB;replace XLW := fun k h => XLW k (SB k h);clear SB;replace E := erx (No) w4;replace HF := HF.and (Per.blkN Bb3 NotIn.nil)
 refine avx rfl (avx rfl (anx rfl (zj (srx (za rfl (zo Tryz.underlying28 rfl yk rfl (HF.on E).here.1.2 rfl (za rfl (zd jg rfl ((yu _ ua A1 B1 c1 d1 (HF.on E).here.1.1.1.2 hl true h1).mono ?_)))))))));rintro e w5 ⟨rfl, hb⟩;refine ⟨_, rfl, ?_⟩;replace E := blx E hb
 refine za rfl (yf rfl (mvx rfl (onx rfl (zo Tryz.underlying28 rfl yk rfl (HF.on E).here.2 rfl (onx rfl (zd jg rfl ((yu _ ub A2 B2 c2 d2 (HF.on E).here.1.1.2 hl' true h2).mono ?_)))))));rintro e w6 ⟨rfl, hb⟩;refine ⟨_, rfl, ?_⟩;replace E := blx E hb
 refine onx rfl (yf rfl (za rfl (zh rfl rfl (rnx (zp rfl (zq (zk (zj (srx (za rfl (zo Tryz.underlying28 rfl yk rfl (HF.on E).here.1.2 rfl (za rfl (zd en26 rfl ((xb _ ua A1 B1 c1 d1 true h3).mono ?_))))))))))))));rintro e w7 ⟨rfl, hb⟩;refine ⟨_, rfl, ?_⟩;replace E := blx E hb
 refine mvx rfl (onx rfl (zo Tryz.underlying28 rfl yk rfl (HF.on E).here.2 rfl (onx rfl (zd en26 rfl ((xb _ ub A2 B2 c2 d2 false h4).mono ?_)))));rintro e w8 ⟨rfl, hb⟩;refine ⟨_, rfl, ?_⟩;replace E := blx E hb
 refine za rfl (zt rfl rfl (rnx (zp rfl (zq (zk (zj (srx (za rfl (zb Tryz.underlying28 rfl sz3 (by decide) rfl (za rfl (zf Tryz.underlying3 rfl rfl (HF.on E).here.1.2 rfl (za rfl (ya rfl rfl (mvx rfl ?_))))))))))))));by_cases hk : (ua.k == 4) = true
 ·
  refine zz 34 (.bool true) rfl ((by rw [hk] : (.bool (ua.k == 4) : Value) = _)) (onx rfl (zb Tryz.underlying28 rfl sz3 (by decide) rfl (onx rfl (zf Tryz.underlying3 rfl rfl (HF.on E).here.2 rfl (onx rfl (ya rfl rfl (za rfl (zt rfl rfl (rnx (yx rfl (fun hj => ?_) (fun hj => ?_)))))))))))
  ·
   refine srx (za rfl (zb Tryz.underlying28 rfl sz9 (by decide) rfl (za rfl (zf Tryz.underlying9 rfl rfl (HF.on E).here.1.2 rfl (za rfl (zb Tryz.underlying28 rfl sz9 (by decide) rfl (za rfl (zf Tryz.underlying9 rfl rfl (HF.on E).here.2 rfl (za rfl (zd en28 rfl (((Tryz.strings_Compare ua.s ub.s _)).mono ?_)))))))))));rintro e w9 ⟨rfl, rfl⟩
   refine ⟨_, rfl, (avx rfl (avx rfl (anx rfl (zm (zg (zl (rs := [.tmp 4, .tmp 5, .tmp 6]) (vs := [_, _, _]) rfl ⟨rfl, rfl, rfl, trivial⟩ ?_))))))⟩;exact ⟨by unfold qh; rw [h1, h2, h3, h4, hk, hj]; rfl, (LW.step E XLW).toBelow⟩
  ·
   refine zq (zk (srx (avx rfl (avx rfl (anx rfl (zm (zl (rs := [.tmp 4, .tmp 5, .tmp 6]) (vs := [_, _, _]) rfl ⟨rfl, rfl, rfl, trivial⟩ ?_)))))));exact ⟨by unfold qh; rw [h1, h2, h3, h4, hk, hj]; rfl, (LW.step E XLW).toBelow⟩
 ·
  have hk := Bool.eq_false_iff.2 hk
  refine zz 34 (.bool false) rfl ((by rw [hk] : (.bool (ua.k == 4) : Value) = _)) (za rfl (zc rfl (za rfl (zc rfl (za rfl (zc rfl (za rfl (zh rfl rfl (rnx (zp rfl (zq (zk (srx (avx rfl (avx rfl (anx rfl (zm (zl (rs := [.tmp 4, .tmp 5, .tmp 6]) (vs := [_, _, _]) rfl ⟨rfl, rfl, rfl, trivial⟩ ?_))))))))))))))))))
  exact ⟨by unfold qh; rw [h1, h2, h3, h4, hk]; rfl, (LW.step E XLW).toBelow⟩
theorem zkx : Calls Tryz.prog 6 #[.agg #[.int .i64 ua.k, .bool ua.yes, .bool ua.neg, .slice A1 ua.xs.length c1, .int .u64 ((ua.bits : Nat) : Int), .string ua.s, .slice B1 ua.ni d1], .agg #[.int .i64 ub.k, .bool ub.yes, .bool ub.neg, .slice A2 ub.xs.length c2, .int .u64 ((ub.bits : Nat) : Int), .string ub.s, .slice B2 ub.ni d2]] w fun e w' => e = .returned (.tuple #[.int .i64 (qh ua ub).1, .bool (qh ua ub).2.1, .int .i64 (qh ua ub).2.2]) ∧ Below w.heap.size w w' := by
 cases h1 : ua.good
 · exact pl_or1 w ua ub A1 B1 A2 B2 c1 d1 c2 d2 hx hl ha hy hl' hb0 h1
 cases h2 : ub.good
 · exact pl_or2 w ua ub A1 B1 A2 B2 c1 d1 c2 d2 hx hl ha hy hl' hb0 h1 h2
 cases h3 : gi ua.k
 · exact pl_or4 w ua ub A1 B1 A2 B2 c1 d1 c2 d2 hx hl ha hy hl' hb0 h1 h2 h3
 cases h4 : gi ub.k
 · exact pl_or5 w ua ub A1 B1 A2 B2 c1 d1 c2 d2 hx hl ha hy hl' hb0 h1 h2 h3 h4
 · exact pl_or3 w ua ub A1 B1 A2 B2 c1 d1 c2 d2 hx hl ha hy hl' hb0 h1 h2 h3 h4
theorem pl_sm1 (h1 : ua.good = false) : Calls Tryz.prog 9 #[.agg #[.int .i64 ua.k, .bool ua.yes, .bool ua.neg, .slice A1 ua.xs.length c1, .int .u64 ((ua.bits : Nat) : Int), .string ua.s, .slice B1 ua.ni d1], .agg #[.int .i64 ub.k, .bool ub.yes, .bool ub.neg, .slice A2 ub.xs.length c2, .int .u64 ((ub.bits : Nat) : Int), .string ub.s, .slice B2 ub.ni d2]] w fun e w' => e = .returned (.bool (vd ua ub)) ∧ Below w.heap.size w w' := by
 have _ := hx; have _ := hl; have _ := ha; have _ := hy; have _ := hl'; have _ := hb0;refine zr Tryz.func9 rfl Tryz.ntmps9 rfl ?_;have HF : Per (No) w (fun _ => True) := Per.true_;have LW := erx (No) w;have XLW := grx (No) w;have E := erx (No) w;replace HF := HF.on E;replace LW := LW.step E XLW;replace E := erx (No) w;replace HF := HF.and (Per.nums0 hx);replace HF := HF.on E
 replace LW := LW.step E XLW;replace E := erx (No) w;replace HF := HF.and (Per.nums0 hy);refine srx (za rfl (zx rfl ?_));intro gb1 w2 Bb1 Eb1 Gb1;have Gb1 : _ ≤ gb1 := Nat.le_trans E.size Gb1;have GLb1 := Nat.le_trans LW.size Gb1;replace E := E.trans Eb1.no;replace HF := HF.cons (zi Gb1);replace E := E.cons (some gb1)
 replace XLW := Mut.grow XLW (fun k e => Or.inr (Nat.le_trans LW.size ((zi Gb1) k e)));replace HF := HF.on E;replace LW := LW.step E XLW;have SB : ∀ q9, No q9 → Mut [(some gb1)] q9 := (Mut.skip Mut.nil_);replace HF := HF.less SB;replace XLW := fun k h => XLW k (SB k h);clear SB;replace E := erx (No) w2;replace HF := HF.and (Per.blkN Bb1 NotIn.nil);refine za rfl (zx rfl ?_)
 intro gb3 w4 Bb3 Eb3 Gb3;have Gb3 : _ ≤ gb3 := Nat.le_trans E.size Gb3;have GLb3 := Nat.le_trans LW.size Gb3;replace E := E.trans Eb3.no;replace HF := HF.cons (zi Gb3);replace E := E.cons (some gb3);replace XLW := Mut.grow XLW (fun k e => Or.inr (Nat.le_trans LW.size ((zi Gb3) k e)));replace HF := HF.on E;replace LW := LW.step E XLW
 have SB : ∀ q9, No q9 → Mut [(some gb3)] q9 := (Mut.skip Mut.nil_);replace HF := HF.less SB;replace XLW := fun k h => XLW k (SB k h);clear SB;replace E := erx (No) w4;replace HF := HF.and (Per.blkN Bb3 NotIn.nil)
 refine anx rfl (zj (srx (za rfl (zo Tryz.underlying28 rfl yk rfl (HF.on E).here.1.2 rfl (za rfl (zd jg rfl ((yu _ ua A1 B1 c1 d1 (HF.on E).here.1.1.1.2 hl false h1).mono ?_)))))));rintro e w5 ⟨rfl, hb⟩;refine ⟨_, rfl, ?_⟩;replace E := blx E hb
 refine za rfl (yf rfl (mvx rfl (za rfl (zc rfl (za rfl (zc rfl (za rfl (zc rfl (za rfl (zt rfl rfl (mvx rfl (za rfl (zc rfl (za rfl (zc rfl (za rfl (zc rfl (za rfl (zc rfl (za rfl (zc rfl (za rfl (zt rfl rfl (rnx (yc rfl (srx (anx rfl (zm (zg (zl (rs := [.tmp 4]) (vs := [_]) rfl ⟨rfl, trivial⟩ ?_))))))))))))))))))))))))))))))
 exact ⟨by unfold vd; rw [h1]; rfl, (LW.step E XLW).toBelow⟩
theorem pl_sm2 (h1 : ua.good = true) (h2 : ub.good = false) : Calls Tryz.prog 9 #[.agg #[.int .i64 ua.k, .bool ua.yes, .bool ua.neg, .slice A1 ua.xs.length c1, .int .u64 ((ua.bits : Nat) : Int), .string ua.s, .slice B1 ua.ni d1], .agg #[.int .i64 ub.k, .bool ub.yes, .bool ub.neg, .slice A2 ub.xs.length c2, .int .u64 ((ub.bits : Nat) : Int), .string ub.s, .slice B2 ub.ni d2]] w fun e w' => e = .returned (.bool (vd ua ub)) ∧ Below w.heap.size w w' := by
 have _ := hx; have _ := hl; have _ := ha; have _ := hy; have _ := hl'; have _ := hb0;refine zr Tryz.func9 rfl Tryz.ntmps9 rfl ?_;have HF : Per (No) w (fun _ => True) := Per.true_;have LW := erx (No) w;have XLW := grx (No) w;have E := erx (No) w;replace HF := HF.on E;replace LW := LW.step E XLW;replace E := erx (No) w;replace HF := HF.and (Per.nums0 hx);replace HF := HF.on E
 replace LW := LW.step E XLW;replace E := erx (No) w;replace HF := HF.and (Per.nums0 hy);refine srx (za rfl (zx rfl ?_));intro gb1 w2 Bb1 Eb1 Gb1;have Gb1 : _ ≤ gb1 := Nat.le_trans E.size Gb1;have GLb1 := Nat.le_trans LW.size Gb1;replace E := E.trans Eb1.no;replace HF := HF.cons (zi Gb1);replace E := E.cons (some gb1)
 replace XLW := Mut.grow XLW (fun k e => Or.inr (Nat.le_trans LW.size ((zi Gb1) k e)));replace HF := HF.on E;replace LW := LW.step E XLW;have SB : ∀ q9, No q9 → Mut [(some gb1)] q9 := (Mut.skip Mut.nil_);replace HF := HF.less SB;replace XLW := fun k h => XLW k (SB k h);clear SB;replace E := erx (No) w2;replace HF := HF.and (Per.blkN Bb1 NotIn.nil);refine za rfl (zx rfl ?_)
 intro gb3 w4 Bb3 Eb3 Gb3;have Gb3 : _ ≤ gb3 := Nat.le_trans E.size Gb3;have GLb3 := Nat.le_trans LW.size Gb3;replace E := E.trans Eb3.no;replace HF := HF.cons (zi Gb3);replace E := E.cons (some gb3);replace XLW := Mut.grow XLW (fun k e => Or.inr (Nat.le_trans LW.size ((zi Gb3) k e)));replace HF := HF.on E;replace LW := LW.step E XLW
 have SB : ∀ q9, No q9 → Mut [(some gb3)] q9 := (Mut.skip Mut.nil_);replace HF := HF.less SB;replace XLW := fun k h => XLW k (SB k h);clear SB;replace E := erx (No) w4;replace HF := HF.and (Per.blkN Bb3 NotIn.nil)
 refine anx rfl (zj (srx (za rfl (zo Tryz.underlying28 rfl yk rfl (HF.on E).here.1.2 rfl (za rfl (zd jg rfl ((yu _ ua A1 B1 c1 d1 (HF.on E).here.1.1.1.2 hl true h1).mono ?_)))))));rintro e w5 ⟨rfl, hb⟩;refine ⟨_, rfl, ?_⟩;replace E := blx E hb
 refine za rfl (yf rfl (mvx rfl (onx rfl (zo Tryz.underlying28 rfl yk rfl (HF.on E).here.2 rfl (onx rfl (zd jg rfl ((yu _ ub A2 B2 c2 d2 (HF.on E).here.1.1.2 hl' false h2).mono ?_)))))));rintro e w6 ⟨rfl, hb⟩;refine ⟨_, rfl, ?_⟩;replace E := blx E hb
 refine onx rfl (yf rfl (za rfl (zh rfl rfl (mvx rfl (za rfl (zc rfl (za rfl (zc rfl (za rfl (zc rfl (za rfl (zc rfl (za rfl (zc rfl (za rfl (zt rfl rfl (rnx (yc rfl (srx (anx rfl (zm (zg (zl (rs := [.tmp 4]) (vs := [_]) rfl ⟨rfl, trivial⟩ ?_)))))))))))))))))))))))
 exact ⟨by unfold vd; rw [h1, h2]; rfl, (LW.step E XLW).toBelow⟩
theorem pl_sm3 (h1 : ua.good = true) (h2 : ub.good = true) (h3 : (ua.k == ub.k) = false) : Calls Tryz.prog 9 #[.agg #[.int .i64 ua.k, .bool ua.yes, .bool ua.neg, .slice A1 ua.xs.length c1, .int .u64 ((ua.bits : Nat) : Int), .string ua.s, .slice B1 ua.ni d1], .agg #[.int .i64 ub.k, .bool ub.yes, .bool ub.neg, .slice A2 ub.xs.length c2, .int .u64 ((ub.bits : Nat) : Int), .string ub.s, .slice B2 ub.ni d2]] w fun e w' => e = .returned (.bool (vd ua ub)) ∧ Below w.heap.size w w' := by
 have _ := hx; have _ := hl; have _ := ha; have _ := hy; have _ := hl'; have _ := hb0;refine zr Tryz.func9 rfl Tryz.ntmps9 rfl ?_;have HF : Per (No) w (fun _ => True) := Per.true_;have LW := erx (No) w;have XLW := grx (No) w;have E := erx (No) w;replace HF := HF.on E;replace LW := LW.step E XLW;replace E := erx (No) w;replace HF := HF.and (Per.nums0 hx);replace HF := HF.on E
 replace LW := LW.step E XLW;replace E := erx (No) w;replace HF := HF.and (Per.nums0 hy);refine srx (za rfl (zx rfl ?_));intro gb1 w2 Bb1 Eb1 Gb1;have Gb1 : _ ≤ gb1 := Nat.le_trans E.size Gb1;have GLb1 := Nat.le_trans LW.size Gb1;replace E := E.trans Eb1.no;replace HF := HF.cons (zi Gb1);replace E := E.cons (some gb1)
 replace XLW := Mut.grow XLW (fun k e => Or.inr (Nat.le_trans LW.size ((zi Gb1) k e)));replace HF := HF.on E;replace LW := LW.step E XLW;have SB : ∀ q9, No q9 → Mut [(some gb1)] q9 := (Mut.skip Mut.nil_);replace HF := HF.less SB;replace XLW := fun k h => XLW k (SB k h);clear SB;replace E := erx (No) w2;replace HF := HF.and (Per.blkN Bb1 NotIn.nil);refine za rfl (zx rfl ?_)
 intro gb3 w4 Bb3 Eb3 Gb3;have Gb3 : _ ≤ gb3 := Nat.le_trans E.size Gb3;have GLb3 := Nat.le_trans LW.size Gb3;replace E := E.trans Eb3.no;replace HF := HF.cons (zi Gb3);replace E := E.cons (some gb3);replace XLW := Mut.grow XLW (fun k e => Or.inr (Nat.le_trans LW.size ((zi Gb3) k e)));replace HF := HF.on E;replace LW := LW.step E XLW
 have SB : ∀ q9, No q9 → Mut [(some gb3)] q9 := (Mut.skip Mut.nil_);replace HF := HF.less SB;replace XLW := fun k h => XLW k (SB k h);clear SB;replace E := erx (No) w4;replace HF := HF.and (Per.blkN Bb3 NotIn.nil)
 refine anx rfl (zj (srx (za rfl (zo Tryz.underlying28 rfl yk rfl (HF.on E).here.1.2 rfl (za rfl (zd jg rfl ((yu _ ua A1 B1 c1 d1 (HF.on E).here.1.1.1.2 hl true h1).mono ?_)))))));rintro e w5 ⟨rfl, hb⟩;refine ⟨_, rfl, ?_⟩;replace E := blx E hb
 refine za rfl (yf rfl (mvx rfl (onx rfl (zo Tryz.underlying28 rfl yk rfl (HF.on E).here.2 rfl (onx rfl (zd jg rfl ((yu _ ub A2 B2 c2 d2 (HF.on E).here.1.1.2 hl' true h2).mono ?_)))))));rintro e w6 ⟨rfl, hb⟩;refine ⟨_, rfl, ?_⟩;replace E := blx E hb
 refine onx rfl (yf rfl (za rfl (zh rfl rfl (mvx rfl (onx rfl (zb Tryz.underlying28 rfl sz3 (by decide) rfl (onx rfl (zf Tryz.underlying3 rfl rfl (HF.on E).here.1.2 rfl (onx rfl (zb Tryz.underlying28 rfl sz3 (by decide) rfl (onx rfl (zf Tryz.underlying3 rfl rfl (HF.on E).here.2 rfl (onx rfl (qc rfl rfl (za rfl (zh rfl rfl (rnx (zu 19 (.bool true) rfl ((by show Value.bool (!(ua.k == ub.k)) = _; rw [h3]; rfl : (.bool (ua.k != ub.k) : Value) = _)) (yc rfl (srx (anx rfl (zm (zg (zl (rs := [.tmp 4]) (vs := [_]) rfl ⟨rfl, trivial⟩ ?_))))))))))))))))))))))))
 exact ⟨by unfold vd; rw [h1, h2, h3]; rfl, (LW.step E XLW).toBelow⟩
theorem pl_sm4 (h1 : ua.good = true) (h2 : ub.good = true) (h3 : (ua.k == ub.k) = true) (h4 : ua.k = 2) : Calls Tryz.prog 9 #[.agg #[.int .i64 ua.k, .bool ua.yes, .bool ua.neg, .slice A1 ua.xs.length c1, .int .u64 ((ua.bits : Nat) : Int), .string ua.s, .slice B1 ua.ni d1], .agg #[.int .i64 ub.k, .bool ub.yes, .bool ub.neg, .slice A2 ub.xs.length c2, .int .u64 ((ub.bits : Nat) : Int), .string ub.s, .slice B2 ub.ni d2]] w fun e w' => e = .returned (.bool (vd ua ub)) ∧ Below w.heap.size w w' := by
 have _ := hx; have _ := hl; have _ := ha; have _ := hy; have _ := hl'; have _ := hb0;refine zr Tryz.func9 rfl Tryz.ntmps9 rfl ?_;have HF : Per (No) w (fun _ => True) := Per.true_;have LW := erx (No) w;have XLW := grx (No) w;have E := erx (No) w;replace HF := HF.on E;replace LW := LW.step E XLW;replace E := erx (No) w;replace HF := HF.and (Per.nums0 hx);replace HF := HF.on E
 replace LW := LW.step E XLW;replace E := erx (No) w;replace HF := HF.and (Per.nums0 hy);refine srx (za rfl (zx rfl ?_));intro gb1 w2 Bb1 Eb1 Gb1;have Gb1 : _ ≤ gb1 := Nat.le_trans E.size Gb1;have GLb1 := Nat.le_trans LW.size Gb1;replace E := E.trans Eb1.no;replace HF := HF.cons (zi Gb1);replace E := E.cons (some gb1)
 replace XLW := Mut.grow XLW (fun k e => Or.inr (Nat.le_trans LW.size ((zi Gb1) k e)));replace HF := HF.on E;replace LW := LW.step E XLW;have SB : ∀ q9, No q9 → Mut [(some gb1)] q9 := (Mut.skip Mut.nil_);replace HF := HF.less SB;replace XLW := fun k h => XLW k (SB k h);clear SB;replace E := erx (No) w2;replace HF := HF.and (Per.blkN Bb1 NotIn.nil);refine za rfl (zx rfl ?_)
 intro gb3 w4 Bb3 Eb3 Gb3;have Gb3 : _ ≤ gb3 := Nat.le_trans E.size Gb3;have GLb3 := Nat.le_trans LW.size Gb3;replace E := E.trans Eb3.no;replace HF := HF.cons (zi Gb3);replace E := E.cons (some gb3);replace XLW := Mut.grow XLW (fun k e => Or.inr (Nat.le_trans LW.size ((zi Gb3) k e)));replace HF := HF.on E;replace LW := LW.step E XLW
 have SB : ∀ q9, No q9 → Mut [(some gb3)] q9 := (Mut.skip Mut.nil_);replace HF := HF.less SB;replace XLW := fun k h => XLW k (SB k h);clear SB;replace E := erx (No) w4;replace HF := HF.and (Per.blkN Bb3 NotIn.nil)
 refine anx rfl (zj (srx (za rfl (zo Tryz.underlying28 rfl yk rfl (HF.on E).here.1.2 rfl (za rfl (zd jg rfl ((yu _ ua A1 B1 c1 d1 (HF.on E).here.1.1.1.2 hl true h1).mono ?_)))))));rintro e w5 ⟨rfl, hb⟩;refine ⟨_, rfl, ?_⟩;replace E := blx E hb
 refine za rfl (yf rfl (mvx rfl (onx rfl (zo Tryz.underlying28 rfl yk rfl (HF.on E).here.2 rfl (onx rfl (zd jg rfl ((yu _ ub A2 B2 c2 d2 (HF.on E).here.1.1.2 hl' true h2).mono ?_)))))));rintro e w6 ⟨rfl, hb⟩;refine ⟨_, rfl, ?_⟩;replace E := blx E hb
 refine onx rfl (yf rfl (za rfl (zh rfl rfl (mvx rfl (onx rfl (zb Tryz.underlying28 rfl sz3 (by decide) rfl (onx rfl (zf Tryz.underlying3 rfl rfl (HF.on E).here.1.2 rfl (onx rfl (zb Tryz.underlying28 rfl sz3 (by decide) rfl (onx rfl (zf Tryz.underlying3 rfl rfl (HF.on E).here.2 rfl (onx rfl (qc rfl rfl (za rfl (zh rfl rfl (rnx (zu 19 (.bool false) rfl ((by show Value.bool (!(ua.k == ub.k)) = _; rw [h3]; rfl : (.bool (ua.k != ub.k) : Value) = _)) (zp rfl (zq (zk (zj (srx (za rfl (zb Tryz.underlying28 rfl sz3 (by decide) rfl (za rfl (zf Tryz.underlying3 rfl rfl (HF.on E).here.1.2 rfl (rnx (yi (srx (za rfl (ya rfl rfl (anx rfl (zu 22 (.bool true) rfl ((by simp [h4] : (.bool (ua.k == 2) : Value) = _)) (yc rfl (srx (za rfl (zb Tryz.underlying28 rfl yy (by decide) rfl (za rfl (zgq Tryz.underlying24 rfl yy rfl (HF.on E).here.1.2 rfl rfl (za rfl (zb Tryz.underlying28 rfl yy (by decide) rfl (za rfl (zgq Tryz.underlying24 rfl yy rfl (HF.on E).here.2 rfl rfl (za rfl (zd en29 rfl ((cmp_any A1 A2 c1 c2 ua.xs ub.xs _ ua.neg ub.neg (HF.on E).here.1.1.1.2 (HF.on E).here.1.1.2 hl hl').mono ?_)))))))))))))))))))))))))))))))))))))))))))))))
 rintro e w7 ⟨rfl, hb⟩;refine ⟨_, rfl, ?_⟩;replace E := blx E hb;refine za rfl (ya rfl rfl (anx rfl (zm (zv (zg (zl (rs := [.tmp 4]) (vs := [_]) rfl ⟨rfl, trivial⟩ ?_))))));exact ⟨by unfold vd; rw [h1, h2, h3, if_pos h4]; rfl, (LW.step E XLW).toBelow⟩
theorem pl_sm5 (h1 : ua.good = true) (h2 : ub.good = true) (h3 : (ua.k == ub.k) = true) (h4 : ua.k = 3) : Calls Tryz.prog 9 #[.agg #[.int .i64 ua.k, .bool ua.yes, .bool ua.neg, .slice A1 ua.xs.length c1, .int .u64 ((ua.bits : Nat) : Int), .string ua.s, .slice B1 ua.ni d1], .agg #[.int .i64 ub.k, .bool ub.yes, .bool ub.neg, .slice A2 ub.xs.length c2, .int .u64 ((ub.bits : Nat) : Int), .string ub.s, .slice B2 ub.ni d2]] w fun e w' => e = .returned (.bool (vd ua ub)) ∧ Below w.heap.size w w' := by
 have _ := hx; have _ := hl; have _ := ha; have _ := hy; have _ := hl'; have _ := hb0;refine zr Tryz.func9 rfl Tryz.ntmps9 rfl ?_;have HF : Per (No) w (fun _ => True) := Per.true_;have LW := erx (No) w;have XLW := grx (No) w;have E := erx (No) w;replace HF := HF.on E;replace LW := LW.step E XLW;replace E := erx (No) w;replace HF := HF.and (Per.nums0 hx);replace HF := HF.on E
 replace LW := LW.step E XLW;replace E := erx (No) w;replace HF := HF.and (Per.nums0 hy);refine srx (za rfl (zx rfl ?_));intro gb1 w2 Bb1 Eb1 Gb1;have Gb1 : _ ≤ gb1 := Nat.le_trans E.size Gb1;have GLb1 := Nat.le_trans LW.size Gb1;replace E := E.trans Eb1.no;replace HF := HF.cons (zi Gb1);replace E := E.cons (some gb1)
 replace XLW := Mut.grow XLW (fun k e => Or.inr (Nat.le_trans LW.size ((zi Gb1) k e)));replace HF := HF.on E;replace LW := LW.step E XLW;have SB : ∀ q9, No q9 → Mut [(some gb1)] q9 := (Mut.skip Mut.nil_);replace HF := HF.less SB;replace XLW := fun k h => XLW k (SB k h);clear SB;replace E := erx (No) w2;replace HF := HF.and (Per.blkN Bb1 NotIn.nil);refine za rfl (zx rfl ?_)
 intro gb3 w4 Bb3 Eb3 Gb3;have Gb3 : _ ≤ gb3 := Nat.le_trans E.size Gb3;have GLb3 := Nat.le_trans LW.size Gb3;replace E := E.trans Eb3.no;replace HF := HF.cons (zi Gb3);replace E := E.cons (some gb3);replace XLW := Mut.grow XLW (fun k e => Or.inr (Nat.le_trans LW.size ((zi Gb3) k e)));replace HF := HF.on E;replace LW := LW.step E XLW
 have SB : ∀ q9, No q9 → Mut [(some gb3)] q9 := (Mut.skip Mut.nil_);replace HF := HF.less SB;replace XLW := fun k h => XLW k (SB k h);clear SB;replace E := erx (No) w4;replace HF := HF.and (Per.blkN Bb3 NotIn.nil)
 refine anx rfl (zj (srx (za rfl (zo Tryz.underlying28 rfl yk rfl (HF.on E).here.1.2 rfl (za rfl (zd jg rfl ((yu _ ua A1 B1 c1 d1 (HF.on E).here.1.1.1.2 hl true h1).mono ?_)))))));rintro e w5 ⟨rfl, hb⟩;refine ⟨_, rfl, ?_⟩;replace E := blx E hb
 refine za rfl (yf rfl (mvx rfl (onx rfl (zo Tryz.underlying28 rfl yk rfl (HF.on E).here.2 rfl (onx rfl (zd jg rfl ((yu _ ub A2 B2 c2 d2 (HF.on E).here.1.1.2 hl' true h2).mono ?_)))))));rintro e w6 ⟨rfl, hb⟩;refine ⟨_, rfl, ?_⟩;replace E := blx E hb
 refine onx rfl (yf rfl (za rfl (zh rfl rfl (mvx rfl (onx rfl (zb Tryz.underlying28 rfl sz3 (by decide) rfl (onx rfl (zf Tryz.underlying3 rfl rfl (HF.on E).here.1.2 rfl (onx rfl (zb Tryz.underlying28 rfl sz3 (by decide) rfl (onx rfl (zf Tryz.underlying3 rfl rfl (HF.on E).here.2 rfl (onx rfl (qc rfl rfl (za rfl (zh rfl rfl (rnx (zu 19 (.bool false) rfl ((by show Value.bool (!(ua.k == ub.k)) = _; rw [h3]; rfl : (.bool (ua.k != ub.k) : Value) = _)) (zp rfl (zq (zk (zj (srx (za rfl (zb Tryz.underlying28 rfl sz3 (by decide) rfl (za rfl (zf Tryz.underlying3 rfl rfl (HF.on E).here.1.2 rfl (rnx (yi (srx (za rfl (ya rfl rfl (anx rfl (zu 22 (.bool false) rfl ((by simp [h4] : (.bool (ua.k == 2) : Value) = _)) (zp rfl (srx (za rfl (ya rfl rfl (anx rfl (zu 30 (.bool true) rfl ((by simp [h4] : (.bool (ua.k == 3) : Value) = _)) (yc rfl (zj ?_))))))))))))))))))))))))))))))))))))))))))
 have OY : ∀ q9, (Mut (outM [])) q9 → q9 < (World.drew w6).heap.size → (No) q9 := fun k h _ => (Mut.none_) k h;refine jb (No) Mut.none_ [] [] (zmq [Fx.of (.pointer (some ⟨gb1, 4, none⟩)),
  Fx.of (.int .u64 ((ua.bits : Nat) : Int)),
  Fx.of (.int .u64 ((qa (yj ua.bits) : Nat) : Int)),
  Fx.of (.pointer (some ⟨gb3, 4, none⟩)),
  Fx.of (.int .u64 ((ub.bits : Nat) : Int)),
  Fx.of (.int .u64 ((qa (yj ub.bits) : Nat) : Int)),
  Fx.of (.bool (((qa (yj ua.bits) : Nat) : Int) == ((qa (yj ub.bits) : Nat) : Int))),
  Fx.of (.bool (((qa (yj ua.bits) : Nat) : Int) == ((qa (yj ub.bits) : Nat) : Int)))]) mixed rfl trivial (fun _ h => by cases h) ?_ ?_
 · refine ⟨?_, ?_, ?_, ?_, ?_, ?_, ?_, ?_, trivial⟩
   · intro vs X wq K;exact zb Tryz.underlying28 rfl xa (by decide) rfl ⟨Below.refl _ _, Left.of rfl⟩
   · intro vs X wq K;have LE := K.1;obtain ⟨_, e0, k0⟩ := K.dep 0 rfl rfl rfl;refine ze 32 (.pointer (some ⟨gb1, 4, none⟩)) rfl e0 ?_;exact zf Tryz.underlying25 rfl rfl (HF.on (E.drew.trans (LE.mono OY))).here.1.2 rfl ⟨Below.refl _ _, Left.of rfl⟩
   · intro vs X wq K;obtain ⟨_, e1, k1⟩ := K.dep 1 rfl rfl rfl;refine ze 33 (.int .u64 ((ua.bits : Nat) : Int)) rfl e1 (zd en30 rfl ((neg_any_r _ ua.bits).mono ?_));rintro e w2 ⟨rfl, hb⟩;exact ⟨_, rfl, hb, Left.of rfl⟩
   · intro vs X wq K;exact zb Tryz.underlying28 rfl xa (by decide) rfl ⟨Below.refl _ _, Left.of rfl⟩
   · intro vs X wq K;have LE := K.1;obtain ⟨_, e3, k3⟩ := K.dep 3 rfl rfl rfl;refine ze 35 (.pointer (some ⟨gb3, 4, none⟩)) rfl e3 ?_;exact zf Tryz.underlying25 rfl rfl (HF.on (E.drew.trans (LE.mono OY))).here.2 rfl ⟨Below.refl _ _, Left.of rfl⟩
   · intro vs X wq K;obtain ⟨_, e4, k4⟩ := K.dep 4 rfl rfl rfl;refine ze 36 (.int .u64 ((ub.bits : Nat) : Int)) rfl e4 (zd en30 rfl ((neg_any_r _ ub.bits).mono ?_));rintro e w2 ⟨rfl, hb⟩;exact ⟨_, rfl, hb, Left.of rfl⟩
   · intro vs X wq K;obtain ⟨_, e2, k2⟩ := K.dep 2 rfl rfl rfl;refine ze 34 (.int .u64 ((qa (yj ua.bits) : Nat) : Int)) rfl e2 ?_;obtain ⟨_, e5, k5⟩ := K.dep 5 rfl rfl rfl;refine ze 37 (.int .u64 ((qa (yj ub.bits) : Nat) : Int)) rfl e5 ?_;exact ya rfl rfl ⟨Below.refl _ _, Left.of rfl⟩
   · intro vs X wq K;obtain ⟨_, e6, k6⟩ := K.dep 6 rfl rfl rfl;refine ze 38 (.bool (((qa (yj ua.bits) : Nat) : Int) == ((qa (yj ub.bits) : Nat) : Int))) rfl e6 ?_;exact qr rfl ⟨Below.refl _ _, Left.of rfl⟩
 intro vs w7 LE AO AL AF AA;replace E := E.drew.trans (LE.mono OY);obtain ⟨_, e7, k7⟩ := AL.2.2.2.2.2.2.2.1;refine gu (τ := [(2, _), (3, _), (4, .bool (((qa (yj ua.bits) : Nat) : Int) == ((qa (yj ub.bits) : Nat) : Int)))]) ⟨rfl, rfl, congrArg some e7, trivial⟩ ?_;clear AL AF AA LE AO OY e7 k7
 refine zk (zm (zv (zg (zl (rs := [.tmp 4]) (vs := [_]) rfl ⟨rfl, trivial⟩ ?_))));exact ⟨by unfold vd; rw [h1, h2, h3, if_neg (show ¬ ua.k = 2 by omega), if_pos h4]; rfl, (LW.step E XLW).toBelow⟩
theorem pl_sm6 (h1 : ua.good = true) (h2 : ub.good = true) (h3 : (ua.k == ub.k) = true) (h4 : ua.k ≠ 2) (h5 : ua.k ≠ 3) : Calls Tryz.prog 9 #[.agg #[.int .i64 ua.k, .bool ua.yes, .bool ua.neg, .slice A1 ua.xs.length c1, .int .u64 ((ua.bits : Nat) : Int), .string ua.s, .slice B1 ua.ni d1], .agg #[.int .i64 ub.k, .bool ub.yes, .bool ub.neg, .slice A2 ub.xs.length c2, .int .u64 ((ub.bits : Nat) : Int), .string ub.s, .slice B2 ub.ni d2]] w fun e w' => e = .returned (.bool (vd ua ub)) ∧ Below w.heap.size w w' := by
 have _ := hx; have _ := hl; have _ := ha; have _ := hy; have _ := hl'; have _ := hb0;refine zr Tryz.func9 rfl Tryz.ntmps9 rfl ?_;have HF : Per (No) w (fun _ => True) := Per.true_;have LW := erx (No) w;have XLW := grx (No) w;have E := erx (No) w;replace HF := HF.on E;replace LW := LW.step E XLW;replace E := erx (No) w;replace HF := HF.and (Per.nums0 hx);replace HF := HF.on E
 replace LW := LW.step E XLW;replace E := erx (No) w;replace HF := HF.and (Per.nums0 hy);refine srx (za rfl (zx rfl ?_));intro gb1 w2 Bb1 Eb1 Gb1;have Gb1 : _ ≤ gb1 := Nat.le_trans E.size Gb1;have GLb1 := Nat.le_trans LW.size Gb1;replace E := E.trans Eb1.no;replace HF := HF.cons (zi Gb1);replace E := E.cons (some gb1)
 replace XLW := Mut.grow XLW (fun k e => Or.inr (Nat.le_trans LW.size ((zi Gb1) k e)));replace HF := HF.on E;replace LW := LW.step E XLW;have SB : ∀ q9, No q9 → Mut [(some gb1)] q9 := (Mut.skip Mut.nil_);replace HF := HF.less SB;replace XLW := fun k h => XLW k (SB k h);clear SB;replace E := erx (No) w2;replace HF := HF.and (Per.blkN Bb1 NotIn.nil);refine za rfl (zx rfl ?_)
 intro gb3 w4 Bb3 Eb3 Gb3;have Gb3 : _ ≤ gb3 := Nat.le_trans E.size Gb3;have GLb3 := Nat.le_trans LW.size Gb3;replace E := E.trans Eb3.no;replace HF := HF.cons (zi Gb3);replace E := E.cons (some gb3);replace XLW := Mut.grow XLW (fun k e => Or.inr (Nat.le_trans LW.size ((zi Gb3) k e)));replace HF := HF.on E;replace LW := LW.step E XLW
 have SB : ∀ q9, No q9 → Mut [(some gb3)] q9 := (Mut.skip Mut.nil_);replace HF := HF.less SB;replace XLW := fun k h => XLW k (SB k h);clear SB;replace E := erx (No) w4;replace HF := HF.and (Per.blkN Bb3 NotIn.nil)
 refine anx rfl (zj (srx (za rfl (zo Tryz.underlying28 rfl yk rfl (HF.on E).here.1.2 rfl (za rfl (zd jg rfl ((yu _ ua A1 B1 c1 d1 (HF.on E).here.1.1.1.2 hl true h1).mono ?_)))))));rintro e w5 ⟨rfl, hb⟩;refine ⟨_, rfl, ?_⟩;replace E := blx E hb
 refine za rfl (yf rfl (mvx rfl (onx rfl (zo Tryz.underlying28 rfl yk rfl (HF.on E).here.2 rfl (onx rfl (zd jg rfl ((yu _ ub A2 B2 c2 d2 (HF.on E).here.1.1.2 hl' true h2).mono ?_)))))));rintro e w6 ⟨rfl, hb⟩;refine ⟨_, rfl, ?_⟩;replace E := blx E hb
 refine onx rfl (yf rfl (za rfl (zh rfl rfl (mvx rfl (onx rfl (zb Tryz.underlying28 rfl sz3 (by decide) rfl (onx rfl (zf Tryz.underlying3 rfl rfl (HF.on E).here.1.2 rfl (onx rfl (zb Tryz.underlying28 rfl sz3 (by decide) rfl (onx rfl (zf Tryz.underlying3 rfl rfl (HF.on E).here.2 rfl (onx rfl (qc rfl rfl (za rfl (zh rfl rfl (rnx (zu 19 (.bool false) rfl ((by show Value.bool (!(ua.k == ub.k)) = _; rw [h3]; rfl : (.bool (ua.k != ub.k) : Value) = _)) (zp rfl (zq (zk (zj (srx (za rfl (zb Tryz.underlying28 rfl sz3 (by decide) rfl (za rfl (zf Tryz.underlying3 rfl rfl (HF.on E).here.1.2 rfl (rnx (yi (srx (za rfl (ya rfl rfl (anx rfl (zu 22 (.bool false) rfl ((by simp [h4] : (.bool (ua.k == 2) : Value) = _)) (zp rfl (srx (za rfl (ya rfl rfl (anx rfl (zu 30 (.bool false) rfl ((by simp [h5] : (.bool (ua.k == 3) : Value) = _)) (zp rfl (zq ?_))))))))))))))))))))))))))))))))))))))))))
 refine zw (zk (srx (za rfl (zb Tryz.underlying28 rfl sz4 (by decide) rfl (za rfl (zf Tryz.underlying4 rfl rfl (HF.on E).here.1.2 rfl (za rfl (zb Tryz.underlying28 rfl sz4 (by decide) rfl (za rfl (zf Tryz.underlying4 rfl rfl (HF.on E).here.2 rfl (za rfl (ow_eqlB Tryz.underlying4 rfl rfl (mvx rfl ?_)))))))))))))
 by_cases ho : (ua.yes == ub.yes) = true
 ·
  refine zz 44 (.bool true) rfl ((by rw [ho] : (.bool (ua.yes == ub.yes) : Value) = _)) (onx rfl (zb Tryz.underlying28 rfl sz9 (by decide) rfl (onx rfl (zf Tryz.underlying9 rfl rfl (HF.on E).here.1.2 rfl (onx rfl (zb Tryz.underlying28 rfl sz9 (by decide) rfl (onx rfl (zf Tryz.underlying9 rfl rfl (HF.on E).here.2 rfl (onx rfl (xg rfl rfl (za rfl (zt rfl rfl (anx rfl (zm (zl (rs := [.tmp 4]) (vs := [_]) rfl ⟨rfl, trivial⟩ ?_)))))))))))))))
  exact ⟨by unfold vd; rw [h1, h2, h3, if_neg h4, if_neg h5, ho]; rfl, (LW.step E XLW).toBelow⟩
 ·
  have ho := Bool.eq_false_iff.2 ho;refine zz 44 (.bool false) rfl ((by rw [ho] : (.bool (ua.yes == ub.yes) : Value) = _)) (za rfl (zc rfl (za rfl (zc rfl (za rfl (zc rfl (za rfl (zc rfl (za rfl (zc rfl (za rfl (zh rfl rfl (anx rfl (zm (zl (rs := [.tmp 4]) (vs := [_]) rfl ⟨rfl, trivial⟩ ?_)))))))))))))))
  exact ⟨by unfold vd; rw [h1, h2, h3, if_neg h4, if_neg h5, ho]; rfl, (LW.step E XLW).toBelow⟩
theorem oa : Calls Tryz.prog 9 #[.agg #[.int .i64 ua.k, .bool ua.yes, .bool ua.neg, .slice A1 ua.xs.length c1, .int .u64 ((ua.bits : Nat) : Int), .string ua.s, .slice B1 ua.ni d1], .agg #[.int .i64 ub.k, .bool ub.yes, .bool ub.neg, .slice A2 ub.xs.length c2, .int .u64 ((ub.bits : Nat) : Int), .string ub.s, .slice B2 ub.ni d2]] w fun e w' => e = .returned (.bool (vd ua ub)) ∧ Below w.heap.size w w' := by
 cases h1 : ua.good
 · exact pl_sm1 w ua ub A1 B1 A2 B2 c1 d1 c2 d2 hx hl ha hy hl' hb0 h1
 cases h2 : ub.good
 · exact pl_sm2 w ua ub A1 B1 A2 B2 c1 d1 c2 d2 hx hl ha hy hl' hb0 h1 h2
 cases h3 : (ua.k == ub.k)
 · exact pl_sm3 w ua ub A1 B1 A2 B2 c1 d1 c2 d2 hx hl ha hy hl' hb0 h1 h2 h3
 by_cases h4 : ua.k = 2
 · exact pl_sm4 w ua ub A1 B1 A2 B2 c1 d1 c2 d2 hx hl ha hy hl' hb0 h1 h2 h3 h4
 by_cases h5 : ua.k = 3
 · exact pl_sm5 w ua ub A1 B1 A2 B2 c1 d1 c2 d2 hx hl ha hy hl' hb0 h1 h2 h3 h5
 · exact pl_sm6 w ua ub A1 B1 A2 B2 c1 d1 c2 d2 hx hl ha hy hl' hb0 h1 h2 h3 h4 h5
end
end Go.Proofs.YtaleikoeklemmaaGreatDoor
namespace Go.Proofs.YtaleikoeklemmaaGreatDoor
open Go.RowKit
set_option maxRecDepth 100000
theorem num_1 : num false [1] = 1 := by
 have h := jj 1;rw [zgz] at h;exact h
theorem num_0 : num false [] = 0 := by
 have h := jj 0;rwa [show limbs 0 = [] from va] at h
theorem numK_at {k : Int} (h : gi k = true) : 1 ≤ k ∧ k ≤ 3 := by
 unfold gi at h;simp only [Bool.and_eq_true, decide_eq_true_eq] at h
 exact h
theorem PV.good2 {v : PV} (h : v.good = true) (hk : v.k = 2) : yb v.neg v.xs = true := by
 unfold PV.good at h;rw [if_neg (by omega), if_neg (by omega), if_pos hk] at h;simp only [Bool.and_eq_true] at h
 exact h.2.1.1.1
theorem PV.canon {v : PV} (h : v.good = true) (hk : v.k = 1 ∨ v.k = 2) : v.cn = decide (num v.cn v.cx < 0) ∧ v.cx = limbs (num v.cn v.cx) ∧ (num v.cn v.cx).natAbs < B18 ^ 30 := by
 have hg : yb v.cn v.cx = true := by
  unfold PV.cn PV.cx;by_cases h1 : v.k = 1
  · rw [if_pos h1, if_pos h1];split
    · have := ve (i := 1) (by decide);rwa [zgz] at this
    · have := ve (i := 0) (by decide);rwa [va] at this
  · rw [if_neg h1, if_neg h1];exact PV.good2 h (by omega)
 obtain ⟨i, e1, e2, e3⟩ := good_is hg;have e : num v.cn v.cx = i := by rw [e1, e2, jj]
 rw [e];exact ⟨e1, e2, e3⟩
theorem PV.kinds {v : PV} (h : v.good = true) : v.k = 0 ∨ v.k = 1 ∨ v.k = 2 ∨ v.k = 3 ∨ v.k = 4 := by
 unfold PV.good at h;by_cases h0 : v.k = 0
 · exact Or.inl h0
 by_cases h1 : v.k = 1
 · exact Or.inr (Or.inl h1)
 by_cases h2 : v.k = 2
 · exact Or.inr (Or.inr (Or.inl h2))
 by_cases h3 : v.k = 3
 · exact Or.inr (Or.inr (Or.inr (Or.inl h3)))
 by_cases h4 : v.k = 4
 · exact Or.inr (Or.inr (Or.inr (Or.inr h4)))
 rw [if_neg h0, if_neg h1, if_neg h2, if_neg h3, if_neg h4] at h;simp at h
theorem PV.str {v : PV} (h : v.good = true) (hn : gi v.k = false) (h0 : v.k ≠ 0) : v.k = 4 := by
 rcases PV.kinds h with e | e | e | e | e
 · exact absurd e h0
 · rw [e] at hn; exact absurd hn (by decide)
 · rw [e] at hn; exact absurd hn (by decide)
 · rw [e] at hn; exact absurd hn (by decide)
 · exact e
theorem PV.s0 {v : PV} (h : v.good = true) (hk : v.k = 0 ∨ v.k = 1 ∨ v.k = 2 ∨ v.k = 3) : v.s.toList = (⟨#[]⟩ : ByteArray).toList := by
 unfold PV.good at h;rcases hk with e | e | e | e <;> simp [e] at h <;> simp [h]
theorem PV.s_max {v : PV} (h : v.good = true) (hk : v.k = 4) : v.s.size ≤ 20000 := by
 unfold PV.good at h;simp [hk] at h
 omega
theorem PV.y0 {v : PV} (h : v.good = true) (hk : v.k ≠ 1) : v.yes = false := by
 unfold PV.good at h;rcases PV.kinds h with e | e | e | e | e <;> simp [e] at h <;> first | exact absurd e hk | simp [h]
theorem PV.b0 {v : PV} (h : v.good = true) (hk : v.k ≠ 2) : v.neg = false ∧ v.xs = [] := by
 unfold PV.good at h;rcases PV.kinds h with e | e | e | e | e <;> simp [e] at h <;> first | exact absurd e hk | simp [h]
theorem neg_bare {b : Nat} (hb : b < 18446744073709551616) : qa (yj (qa b)) = qa (yj b) := by
 have e1 : isN (yj b) = isN b := xu hb;by_cases h : isN b = true
 · have e2 : isN (yj 9221120237041090560) = true := by rw [xu (by decide)]; decide
   unfold qa;rw [if_pos h, if_pos e2, if_pos (e1.trans h)]
 · have h2 : ¬ isN (yj b) = true := by rw [e1]; exact h
   rw [show qa b = b from if_neg h]
theorem neg_same {a b : Nat} (ha : a < 18446744073709551616) (hb : b < 18446744073709551616) : (((qa (yj a) : Nat) : Int) == ((qa (yj b) : Nat) : Int)) = (((qa a : Nat) : Int) == ((qa b : Nat) : Int)) := by
 have h1 : ((qa (yj a) : Nat) : Int) = ((qa (yj b) : Nat) : Int) ↔ ((qa a : Nat) : Int) = ((qa b : Nat) : Int) := by
  constructor
  · intro h;have h : qa (yj a) = qa (yj b) := by omega
    have h2 := congrArg (fun z => qa (yj z)) h;have h2 : qa (yj (qa (yj a))) = qa (yj (qa (yj b))) := h2;rw [neg_twice ha, neg_twice hb] at h2;rw [h2]
  · intro h;have h : qa a = qa b := by omega
    have h2 : qa (yj (qa a)) = qa (yj (qa b)) := by rw [h]
    rw [neg_bare ha, neg_bare hb] at h2;rw [h2]
 exact Bool.eq_iff_iff.2 (by rw [beq_iff_eq, beq_iff_eq]; exact h1)
section
variable {u v : PV} (g1 : u.good = true) (g2 : v.good = true) (h3 : (u.k == v.k) = true) (h5 : u.k ≠ 3)
include g1 g2 h3 h5
end
end Go.Proofs.YtaleikoeklemmaaGreatDoor
namespace Go.Proofs.YtaleikoeklemmaaGreatDoor
open Go.RowKit
set_option maxRecDepth 100000
attribute [local irreducible] OW RS
def xv (h : Nat) (x : UInt8) : Nat := (31 * h + x.toNat + 1) % 2147483647
def hashN (l : List UInt8) : Nat := l.foldl xv l.length
noncomputable def jl (v : PV) : Int := if v.good then (if v.k = 0 then 1 else if v.k = 3 then kb v.bits else if v.k = 4 then ((hashN v.s.data.toList : Nat) : Int) else yav v.cn v.cx) else 0
def vo (v : PV) : Bool := if v.good then (if v.k = 1 then v.yes else if v.k = 2 then decide ((0 : Int) < ((v.xs.length : Nat) : Int)) else if v.k = 3 then (IntKind.u64.wrap (((v.bits : Nat) : Int) * 2) != 0) else !(v.s.toList == (⟨#[]⟩ : ByteArray).toList)) else false
theorem fold_lt (l : List UInt8) (h : Nat) (hh : h < 2147483647) : l.foldl xv h < 2147483647 := by
 induction l generalizing h with
 | nil => exact hh
 | cons x l ih => exact ih _ (Nat.mod_lt _ (by decide))
theorem fold_step {l : List UInt8} {i : Nat} {x : UInt8} (h : l[i]? = some x) (n : Nat) : (l.take (i + 1)).foldl xv n = xv ((l.take i).foldl xv n) x := by
 obtain ⟨hi, he⟩ := List.getElem?_eq_some_iff.1 h;rw [List.take_succ_eq_append_getElem hi, List.foldl_append, he];rfl
theorem rem_at (m x : Nat) : (31 * ((m : Nat) : Int) + ((x : Nat) : Int) + 1).tmod 2147483647 = (((31 * m + x + 1) % 2147483647 : Nat) : Int) := by
 rw [Int.tmod_eq_emod_of_nonneg (by omega)]; omega
section
variable (w : World) (ua : PV) (A1 B1 : Option Addr) (c1 d1 : Nat) (hx : Nums w A1 ua.xs) (hl : ua.xs.length ≤ 9223372036854775807) (ha : ua.bits < 18446744073709551616)
include hx hl ha
theorem ph0 (g1 : ua.good = false) : Calls Tryz.prog 13 #[.agg #[.int .i64 ua.k, .bool ua.yes, .bool ua.neg, .slice A1 ua.xs.length c1, .int .u64 ((ua.bits : Nat) : Int), .string ua.s, .slice B1 ua.ni d1]] w fun e w' => e = .returned (.int .i64 (jl ua)) ∧ Below w.heap.size w w' := by
 have _ := hx; have _ := hl; have _ := ha;refine zr Tryz.func13 rfl Tryz.ntmps13 rfl ?_;have HF : Per (No) w (fun _ => True) := Per.true_;have LW := erx (No) w;have XLW := grx (No) w;have E := erx (No) w;replace HF := HF.on E;replace LW := LW.step E XLW;replace E := erx (No) w;replace HF := HF.and (Per.nums0 hx);refine srx (za rfl (zx rfl ?_));intro gb1 w2 Bb1 Eb1 Gb1
 have Gb1 : _ ≤ gb1 := Nat.le_trans E.size Gb1;have GLb1 := Nat.le_trans LW.size Gb1;replace E := E.trans Eb1.no;replace HF := HF.cons (zi Gb1);replace E := E.cons (some gb1);replace XLW := Mut.grow XLW (fun k e => Or.inr (Nat.le_trans LW.size ((zi Gb1) k e)));replace HF := HF.on E;replace LW := LW.step E XLW;have SB : ∀ q9, No q9 → Mut [(some gb1)] q9 := (Mut.skip Mut.nil_)
 replace HF := HF.less SB;replace XLW := fun k h => XLW k (SB k h);clear SB;replace E := erx (No) w2;replace HF := HF.and (Per.blkN Bb1 NotIn.nil);refine anx rfl (zj (srx (za rfl (zo Tryz.underlying28 rfl yk rfl (HF.on E).here.2 rfl (za rfl (zd jg rfl ((yu _ ua A1 B1 c1 d1 (HF.on E).here.1.2 hl false g1).mono ?_)))))));rintro e w3 ⟨rfl, hb⟩;refine ⟨_, rfl, ?_⟩
 replace E := blx E hb;refine za rfl (yf rfl (rnx (yc rfl (srx (anx rfl (zm (zg (zl (rs := [.tmp 2]) (vs := [_]) rfl ⟨rfl, trivial⟩ ?_))))))));exact ⟨by unfold jl; rw [g1]; rfl, (LW.step E XLW).toBelow⟩
theorem ph1 (g1 : ua.good = true) (h0 : ua.k = 0) : Calls Tryz.prog 13 #[.agg #[.int .i64 ua.k, .bool ua.yes, .bool ua.neg, .slice A1 ua.xs.length c1, .int .u64 ((ua.bits : Nat) : Int), .string ua.s, .slice B1 ua.ni d1]] w fun e w' => e = .returned (.int .i64 (jl ua)) ∧ Below w.heap.size w w' := by
 have _ := hx; have _ := hl; have _ := ha;refine zr Tryz.func13 rfl Tryz.ntmps13 rfl ?_;have HF : Per (No) w (fun _ => True) := Per.true_;have LW := erx (No) w;have XLW := grx (No) w;have E := erx (No) w;replace HF := HF.on E;replace LW := LW.step E XLW;replace E := erx (No) w;replace HF := HF.and (Per.nums0 hx);refine srx (za rfl (zx rfl ?_));intro gb1 w2 Bb1 Eb1 Gb1
 have Gb1 : _ ≤ gb1 := Nat.le_trans E.size Gb1;have GLb1 := Nat.le_trans LW.size Gb1;replace E := E.trans Eb1.no;replace HF := HF.cons (zi Gb1);replace E := E.cons (some gb1);replace XLW := Mut.grow XLW (fun k e => Or.inr (Nat.le_trans LW.size ((zi Gb1) k e)));replace HF := HF.on E;replace LW := LW.step E XLW;have SB : ∀ q9, No q9 → Mut [(some gb1)] q9 := (Mut.skip Mut.nil_)
 replace HF := HF.less SB;replace XLW := fun k h => XLW k (SB k h);clear SB;replace E := erx (No) w2;replace HF := HF.and (Per.blkN Bb1 NotIn.nil);refine anx rfl (zj (srx (za rfl (zo Tryz.underlying28 rfl yk rfl (HF.on E).here.2 rfl (za rfl (zd jg rfl ((yu _ ua A1 B1 c1 d1 (HF.on E).here.1.2 hl true g1).mono ?_)))))));rintro e w3 ⟨rfl, hb⟩;refine ⟨_, rfl, ?_⟩
 replace E := blx E hb
 refine za rfl (yf rfl (rnx (zp rfl (zq (zk (zj (srx (za rfl (zb Tryz.underlying28 rfl sz3 (by decide) rfl (za rfl (zf Tryz.underlying3 rfl rfl (HF.on E).here.2 rfl (rnx (yi (srx (za rfl (ya rfl rfl (anx rfl (zu 11 (.bool true) rfl ((by simp [h0] : (.bool (ua.k == 0) : Value) = _)) (yc rfl (srx (anx rfl (zm (zv (zg (zl (rs := [.tmp 2]) (vs := [_]) rfl ⟨rfl, trivial⟩ ?_)))))))))))))))))))))))))
 exact ⟨by unfold jl; rw [g1, if_pos rfl, if_pos h0]; rfl, (LW.step E XLW).toBelow⟩
theorem ph2 (g1 : ua.good = true) (h0 : ¬ ua.k = 0) (h3 : ua.k = 3) : Calls Tryz.prog 13 #[.agg #[.int .i64 ua.k, .bool ua.yes, .bool ua.neg, .slice A1 ua.xs.length c1, .int .u64 ((ua.bits : Nat) : Int), .string ua.s, .slice B1 ua.ni d1]] w fun e w' => e = .returned (.int .i64 (jl ua)) ∧ Below w.heap.size w w' := by
 have _ := hx; have _ := hl; have _ := ha;refine zr Tryz.func13 rfl Tryz.ntmps13 rfl ?_;have HF : Per (No) w (fun _ => True) := Per.true_;have LW := erx (No) w;have XLW := grx (No) w;have E := erx (No) w;replace HF := HF.on E;replace LW := LW.step E XLW;replace E := erx (No) w;replace HF := HF.and (Per.nums0 hx);refine srx (za rfl (zx rfl ?_));intro gb1 w2 Bb1 Eb1 Gb1
 have Gb1 : _ ≤ gb1 := Nat.le_trans E.size Gb1;have GLb1 := Nat.le_trans LW.size Gb1;replace E := E.trans Eb1.no;replace HF := HF.cons (zi Gb1);replace E := E.cons (some gb1);replace XLW := Mut.grow XLW (fun k e => Or.inr (Nat.le_trans LW.size ((zi Gb1) k e)));replace HF := HF.on E;replace LW := LW.step E XLW;have SB : ∀ q9, No q9 → Mut [(some gb1)] q9 := (Mut.skip Mut.nil_)
 replace HF := HF.less SB;replace XLW := fun k h => XLW k (SB k h);clear SB;replace E := erx (No) w2;replace HF := HF.and (Per.blkN Bb1 NotIn.nil);refine anx rfl (zj (srx (za rfl (zo Tryz.underlying28 rfl yk rfl (HF.on E).here.2 rfl (za rfl (zd jg rfl ((yu _ ua A1 B1 c1 d1 (HF.on E).here.1.2 hl true g1).mono ?_)))))));rintro e w3 ⟨rfl, hb⟩;refine ⟨_, rfl, ?_⟩
 replace E := blx E hb
 refine za rfl (yf rfl (rnx (zp rfl (zq (zk (zj (srx (za rfl (zb Tryz.underlying28 rfl sz3 (by decide) rfl (za rfl (zf Tryz.underlying3 rfl rfl (HF.on E).here.2 rfl (rnx (yi (srx (za rfl (ya rfl rfl (anx rfl (zu 11 (.bool false) rfl ((by simp [h0] : (.bool (ua.k == 0) : Value) = _)) (zp rfl (srx (za rfl (ya rfl rfl (anx rfl (zu 13 (.bool true) rfl ((by simp [h3] : (.bool (ua.k == 3) : Value) = _)) (yc rfl (srx (za rfl (zb Tryz.underlying28 rfl xa (by decide) rfl (za rfl (zf Tryz.underlying25 rfl rfl (HF.on E).here.2 rfl (za rfl (zd en35 rfl ((hash_any _ ua.bits ha).mono ?_)))))))))))))))))))))))))))))))))
 rintro e w4 ⟨rfl, hb⟩;refine ⟨_, rfl, ?_⟩;replace E := blx E hb;refine anx rfl (zm (zv (zg (zl (rs := [.tmp 2]) (vs := [_]) rfl ⟨rfl, trivial⟩ ?_))));exact ⟨by unfold jl; rw [g1, if_pos rfl, if_neg h0, if_pos h3]; rfl, (LW.step E XLW).toBelow⟩
theorem ph4 (g1 : ua.good = true) (h0 : ¬ ua.k = 0) (h3 : ¬ ua.k = 3) (h4 : ¬ ua.k = 4) : Calls Tryz.prog 13 #[.agg #[.int .i64 ua.k, .bool ua.yes, .bool ua.neg, .slice A1 ua.xs.length c1, .int .u64 ((ua.bits : Nat) : Int), .string ua.s, .slice B1 ua.ni d1]] w fun e w' => e = .returned (.int .i64 (jl ua)) ∧ Below w.heap.size w w' := by
 have _ := hx; have _ := hl; have _ := ha;have hcl := PV.cx_len hl;refine zr Tryz.func13 rfl Tryz.ntmps13 rfl ?_;have HF : Per (No) w (fun _ => True) := Per.true_;have LW := erx (No) w;have XLW := grx (No) w;have E := erx (No) w;replace HF := HF.on E;replace LW := LW.step E XLW;replace E := erx (No) w;replace HF := HF.and (Per.nums0 hx);refine srx (za rfl (zx rfl ?_))
 intro gb1 w2 Bb1 Eb1 Gb1;have Gb1 : _ ≤ gb1 := Nat.le_trans E.size Gb1;have GLb1 := Nat.le_trans LW.size Gb1;replace E := E.trans Eb1.no;replace HF := HF.cons (zi Gb1);replace E := E.cons (some gb1);replace XLW := Mut.grow XLW (fun k e => Or.inr (Nat.le_trans LW.size ((zi Gb1) k e)));replace HF := HF.on E;replace LW := LW.step E XLW
 have SB : ∀ q9, No q9 → Mut [(some gb1)] q9 := (Mut.skip Mut.nil_);replace HF := HF.less SB;replace XLW := fun k h => XLW k (SB k h);clear SB;replace E := erx (No) w2;replace HF := HF.and (Per.blkN Bb1 NotIn.nil)
 refine anx rfl (zj (srx (za rfl (zo Tryz.underlying28 rfl yk rfl (HF.on E).here.2 rfl (za rfl (zd jg rfl ((yu _ ua A1 B1 c1 d1 (HF.on E).here.1.2 hl true g1).mono ?_)))))));rintro e w3 ⟨rfl, hb⟩;refine ⟨_, rfl, ?_⟩;replace E := blx E hb
 refine za rfl (yf rfl (rnx (zp rfl (zq (zk (zj (srx (za rfl (zb Tryz.underlying28 rfl sz3 (by decide) rfl (za rfl (zf Tryz.underlying3 rfl rfl (HF.on E).here.2 rfl (rnx (yi (srx (za rfl (ya rfl rfl (anx rfl (zu 11 (.bool false) rfl ((by simp [h0] : (.bool (ua.k == 0) : Value) = _)) (zp rfl (srx (za rfl (ya rfl rfl (anx rfl (zu 13 (.bool false) rfl ((by simp [h3] : (.bool (ua.k == 3) : Value) = _)) (zp rfl (srx (za rfl (ya rfl rfl (anx rfl (zu 18 (.bool false) rfl ((by simp [h4] : (.bool (ua.k == 4) : Value) = _)) (zp rfl (zq (zw ?_)))))))))))))))))))))))))))))))))
 refine zk (srx (za rfl (zo Tryz.underlying28 rfl yk rfl (HF.on E).here.2 rfl (za rfl (zd en37 rfl ((oq _ ua A1 B1 c1 d1).mono ?_))))));rintro e w4 ⟨A3, c3, rfl, hN, hb⟩;refine ⟨_, rfl, ?_⟩;replace E := blx E hb;have hN3 : Nums w4 A3 ua.cx := hN.elim (fun h => by rw [h.1, h.2]; exact (HF.on E).here.1.2) (fun h => h.nums)
 refine za rfl (zd en36 rfl ((hashbig_any ua.cn A3 c3 ua.cx _ hN3 hcl).mono ?_));rintro e w5 ⟨rfl, hb⟩;refine ⟨_, rfl, ?_⟩;replace E := blx E hb;refine anx rfl (zm (zl (rs := [.tmp 2]) (vs := [_]) rfl ⟨rfl, trivial⟩ ?_));exact ⟨by unfold jl; rw [g1, if_pos rfl, if_neg h0, if_neg h3, if_neg h4]; rfl, (LW.step E XLW).toBelow⟩
theorem ph3 (g1 : ua.good = true) (h0 : ¬ ua.k = 0) (h3 : ¬ ua.k = 3) (h4 : ua.k = 4) (hsl : ua.s.size ≤ 20000) : Calls Tryz.prog 13 #[.agg #[.int .i64 ua.k, .bool ua.yes, .bool ua.neg, .slice A1 ua.xs.length c1, .int .u64 ((ua.bits : Nat) : Int), .string ua.s, .slice B1 ua.ni d1]] w fun e w' => e = .returned (.int .i64 (jl ua)) ∧ Below w.heap.size w w' := by
 have _ := ha;have hsn : ua.s.data.toList.length = ua.s.size := by rw [Array.length_toList]; rfl
 have hbx : ∀ x : UInt8, x.toNat < 256 := fun x => x.toNat_lt;refine zr Tryz.func13 rfl Tryz.ntmps13 rfl (srx (za rfl (zx rfl ?_)));rintro gv wA BX E1 G1
 refine anx rfl (zj (srx (za rfl (yh (cs := #[.int .i64 ua.k, .bool ua.yes, .bool ua.neg, .slice A1 ua.xs.length c1, .int .u64 ((ua.bits : Nat) : Int), .string ua.s, .slice B1 ua.ni d1]) Tryz.underlying28 rfl yk rfl rfl (fun j v hj ↦ by have h := (BX.cell j).trans hj; rw [Nat.zero_add]; exact h) (za rfl (zd jg rfl ((yu _ ua A1 B1 c1 d1 (Per.nums0 hx _ E1) hl true g1).mono ?_)))))))
 rintro e w1 ⟨rfl, hb⟩;refine ⟨_, rfl, ?_⟩;have E2 := E1.trans (Ext.of_below hb No);have BX2 := BX.ext (Ext.of_below hb No) (fun h => h.elim)
 refine za rfl (yf rfl (rnx (zp rfl (zq (zk (zj (srx (za rfl (zb Tryz.underlying28 rfl sz3 (by decide) rfl (za rfl (zf Tryz.underlying3 rfl rfl BX2 rfl (rnx (yi (srx (za rfl (ya rfl rfl (anx rfl (zu 11 (.bool false) rfl ((by simp [h0] : (.bool (ua.k == 0) : Value) = _)) (zp rfl (srx (za rfl (ya rfl rfl (anx rfl (zu 13 (.bool false) rfl ((by simp [h3] : (.bool (ua.k == 3) : Value) = _)) (zp rfl (srx (za rfl (ya rfl rfl (anx rfl (zu 18 (.bool true) rfl ((by simp [h4] : (.bool (ua.k == 4) : Value) = _)) (yc rfl (srx ?_))))))))))))))))))))))))))))))))
 refine za rfl (zb Tryz.underlying28 rfl sz9 (by decide) rfl (za rfl (zf Tryz.underlying9 rfl rfl BX2 rfl (za rfl (zcv Tryz.underlying9 rfl (anx rfl (zj (srx (za rfl (zb Tryz.underlying28 rfl sz9 (by decide) rfl (za rfl (zf Tryz.underlying9 rfl rfl BX2 rfl (za rfl (yak Tryz.underlying9 Tryz.underlying43 Tryz.underlying5 rfl rfl rfl ?_))))))))))))))
 rintro gx cx wC RX E5 GX;have E6 := E2.trans E5
 refine za rfl (vq Tryz.underlying43 rfl (mvx rfl (rnx (yi (ztk (ι := Nat) (fun i => [(3, .int .i64 (((ua.s.data.toList.take i).foldl xv ua.s.size : Nat) : Int)), (25, .slice (some ⟨gx, 0, none⟩) ua.s.size cx), (26, .int .i64 ((ua.s.size : Nat) : Int)), (27, .int .i64 ((i : Nat) : Int))]) (fun i w' => i ≤ ua.s.size ∧ Ext No wC w') (fun i => ua.s.size - i) 0 ⟨rfl, rfl, rfl, rfl, trivial⟩ (⟨Nat.zero_le _, Ext.refl _ _⟩) ?_)))))
 rintro i w3 ⟨hin, XI⟩;refine srx (za rfl (jy rfl rfl (rnx (zj (yx rfl (fun hic => ?_) (fun hic => ?_))))))
 ·
  have hic := of_decide_eq_true hic;have hil : i < ua.s.size := by omega
  obtain ⟨x, hxl⟩ : ∃ x, ua.s.data.toList[i]? = some x := ⟨_, List.getElem?_eq_getElem (by omega)⟩;have hxb := hbx x;obtain ⟨m, hm⟩ : ∃ m, m = (ua.s.data.toList.take i).foldl xv ua.s.size := ⟨_, rfl⟩;have hml : m < 2147483647 := by rw [hm]; exact fold_lt _ _ (by omega)
  have hcell : ∀ z, Ext No wC z → z.cell? ⟨gx, 0 + i, none⟩ = some (.int .u8 ((x.toNat : Nat) : Int)) := fun z hz => by
   rw [Nat.zero_add];exact Per.rowL RX z hz i (.int .u8 ((x.toNat : Nat) : Int)) (by rw [List.getElem?_map, hxl]; rfl)
  rw [← hm]
  refine zu 3 (.int .i64 ((m : Nat) : Int)) rfl (rfl) (zq (zk (zj (yi (srx (za rfl (jt (j := i) Tryz.underlying43 sz5 rfl rfl rfl hil (za rfl (xr Tryz.underlying5 rfl rfl (hcell _ XI) (anx rfl (yo (mvx rfl (za rfl (jd rfl rfl (yg (by omega)) (mvx rfl (za rfl (jn Tryz.underlying3 Tryz.underlying5 rfl (yg (by omega)) (za rfl (qp rfl rfl (yg (by omega)) (za rfl (qp rfl rfl (yg (by omega)) (za rfl (kh rfl rfl (by decide) (rem_at m x.toNat) (avx rfl (qz (zw (zk (yo (za rfl (qp rfl rfl (yg (by omega)) (mvx rfl (qz ?_))))))))))))))))))))))))))))))))
  exact gp (i + 1) (by show ua.s.size - (i + 1) < ua.s.size - i; omega) ⟨by rw [fold_step hxl, ← hm]; rfl, rfl, rfl, rfl, trivial⟩ (⟨by omega, XI⟩)
 ·
  have hic := of_decide_eq_false hic;obtain rfl : i = ua.s.size := by omega
  refine oe (qg (qg (vu (zk (srx (mvx rfl (anx rfl (zm (zv (zg (zl (rs := [.tmp 2]) (vs := [_]) rfl ⟨rfl, trivial⟩ ?_)))))))))));exact ⟨by unfold jl hashN; rw [g1, if_pos rfl, if_neg h0, if_neg h3, if_pos h4, hsn, List.take_of_length_le (by omega)]; rfl, (E6.trans XI).toBelow⟩
theorem pl_hash : Calls Tryz.prog 13 #[.agg #[.int .i64 ua.k, .bool ua.yes, .bool ua.neg, .slice A1 ua.xs.length c1, .int .u64 ((ua.bits : Nat) : Int), .string ua.s, .slice B1 ua.ni d1]] w fun e w' => e = .returned (.int .i64 (jl ua)) ∧ Below w.heap.size w w' := by
 cases g1 : ua.good
 · exact ph0 w ua A1 B1 c1 d1 hx hl ha g1
 by_cases h0 : ua.k = 0
 · exact ph1 w ua A1 B1 c1 d1 hx hl ha g1 h0
 by_cases h3 : ua.k = 3
 · exact ph2 w ua A1 B1 c1 d1 hx hl ha g1 h0 h3
 by_cases h4 : ua.k = 4
 · exact ph3 w ua A1 B1 c1 d1 hx hl ha g1 h0 h3 h4 (PV.s_max g1 h4)
 · exact ph4 w ua A1 B1 c1 d1 hx hl ha g1 h0 h3 h4
end
end Go.Proofs.YtaleikoeklemmaaGreatDoor
namespace Go.Proofs.YtaleikoeklemmaaGreatDoor
open Go.RowKit
set_option maxRecDepth 100000
theorem ordI_anti (x y : Int) : ordI x y = 0 - ordI y x := by unfold ordI; repeat' split
                                                              all_goals omega
theorem cmpI_anti (x y : Int) :   ky x y = 0 -   ky y x := by unfold   ky; repeat' split
                                                              all_goals omega
theorem zqv (a b : Nat) : vr a b = vr b a := by unfold vr; exact Bool.and_comm _ _
theorem cmpF_anti (a b : Nat) : zeq a b = 0 - zeq b a := by
 unfold zeq;rw [zqv b a];split
 · exact ordI_anti _ _
 · rfl
theorem cmpO_anti (p : Bool) (x y : Int) : cmpO p x y = 0 - cmpO p y x := by
 unfold cmpO;split
 · exact cmpI_anti _ _
 · rfl
theorem bytes_anti : ∀ (s t : List UInt8), Lib.compareBytes s t = 0 - Lib.compareBytes t s
 | [], [] => rfl
 | [], _ :: _ => rfl
 | _ :: _, [] => rfl
 | x :: s, y :: t => by
  have ih := bytes_anti s t;unfold Lib.compareBytes;by_cases h1 : x < y
  · rw [if_pos h1, if_neg (UInt8.lt_asymm h1), if_pos h1]; rfl
  · rw [if_neg h1];by_cases h2 : y < x
    · rw [if_pos h2, if_pos h2]; rfl
    · rw [if_neg h2, if_neg h2, if_neg h1]; exact ih
theorem bytes_in : ∀ (s t : List UInt8), -1 ≤ Lib.compareBytes s t ∧ Lib.compareBytes s t ≤ 1
 | [], [] => by decide
 | [], _ :: _ => ⟨by show (-1 : Int) ≤ -1; decide, by show (-1 : Int) ≤ 1; decide⟩
 | _ :: _, [] => ⟨by show (-1 : Int) ≤ 1; decide, by show (1 : Int) ≤ 1; decide⟩
 | x :: s, y :: t => by
  have ih := bytes_in s t;unfold Lib.compareBytes;split
  · decide
  · split
    · decide
    · exact ih
theorem bytes_self : ∀ (s : List UInt8), Lib.compareBytes s s = 0
 | [] => rfl
 | x :: s => by unfold Lib.compareBytes; rw [if_neg (UInt8.lt_irrefl x), if_neg (UInt8.lt_irrefl x)]; exact bytes_self s
theorem ordC_anti (a b : PV) : ow a b = 0 - ow b a := by
 unfold ow;by_cases h1 : a.k = 3 <;> by_cases h2 : b.k = 3
 · rw [if_pos h1, if_pos h2, if_pos h2, if_pos h1]; exact cmpF_anti _ _
 · rw [if_pos h1, if_neg h2, if_neg h2, if_pos h1]; omega
 · rw [if_neg h1, if_pos h2, if_pos h2, if_neg h1]
 · rw [if_neg h1, if_neg h2, if_neg h2, if_neg h1, Bool.and_comm]; exact cmpO_anti _ _ _
theorem ordI_in (x y : Int) : -1 ≤ ordI x y ∧ ordI x y ≤ 1 := by unfold ordI; repeat' split
                                                                 all_goals omega
theorem ordC_in (a b : PV) : -1 ≤ ow a b ∧ ow a b ≤ 1 := by
 unfold ow;split
 · split
   · unfold zeq; split
     · exact ordI_in _ _
     · omega
   · exact cmpV_in _ _ _
 · split
   · have := cmpV_in b.bits a.cn a.cx; omega
   · unfold cmpO; split
     · exact cmpI_in _ _
     · omega
theorem ordO_comm (a b : PV) : xy a b = xy b a := by
 unfold xy;by_cases h1 : a.k = 3 <;> by_cases h2 : b.k = 3
 · rw [if_pos h1, if_pos h2, if_pos h2, if_pos h1]; exact zqv _ _
 · rw [if_pos h1, if_neg h2, if_neg h2, if_pos h1]
 · rw [if_neg h1, if_pos h2, if_pos h2, if_neg h1]
 · rw [if_neg h1, if_neg h2, if_neg h2, if_neg h1]
theorem ordV_anti (a b : PV) : (qh a b).1 = 0 - (qh b a).1 ∧ (qh a b).2 = (qh b a).2 := by
 unfold qh;rw [Bool.and_comm b.good, Bool.and_comm (gi b.k), Bool.and_comm (b.k == 4)];split
 · split
   · exact ⟨ordC_anti a b, by rw [ordO_comm]⟩
   · split
     · exact ⟨bytes_anti _ _, rfl⟩
     · exact ⟨rfl, rfl⟩
 · exact ⟨rfl, rfl⟩
theorem ordV_in (a b : PV) : -1 ≤ (qh a b).1 ∧ (qh a b).1 ≤ 1 := by
 unfold qh;split
 · split
   · exact ordC_in a b
   · split
     · exact bytes_in _ _
     · decide
 · decide
theorem eq0_neg {x y : Int} (h : x = 0 - y) : (x == 0) = (y == 0) := Bool.eq_iff_iff.2 (by rw [beq_iff_eq, beq_iff_eq]; omega)
theorem eqS_comm (a b : PV) : eqS a b = eqS b a := by
 unfold eqS;rw [Bool.beq_comm (a := a.k), Bool.beq_comm (a := a.s.toList)]
theorem eqV_comm (a b : PV) : eqV a b = eqV b a := by
 unfold eqV;rw [Bool.and_comm b.good, Bool.and_comm (gi b.k), ordO_comm b a, eq0_neg (ordC_anti b a), eqS_comm b a]
theorem sameV_comm (a b : PV) : vd a b = vd b a := by
 unfold vd;rw [Bool.and_comm b.good, Bool.beq_comm (a := b.k)];by_cases h : a.k = b.k
 · rw [← h];by_cases h2 : a.k = 2
   · rw [if_pos h2, if_pos h2, Bool.and_comm (yb b.neg b.xs), eq0_neg (cmpO_anti _ (num b.neg b.xs) _)]
   · rw [if_neg h2, if_neg h2];by_cases h3 : a.k = 3
     · rw [if_pos h3, if_pos h3, Bool.beq_comm (a := ((qa (yj b.bits) : Nat) : Int))]
     · rw [if_neg h3, if_neg h3, Bool.beq_comm (a := b.yes), Bool.beq_comm (a := b.s.toList)]
 · have e : (a.k == b.k) = false := beq_eq_false_iff_ne.2 h;rw [e, Bool.and_false, if_neg (by decide), if_neg (by decide)]
theorem truth_f {b : Nat} (hb : b < 18446744073709551616) : (IntKind.u64.wrap (((b : Nat) : Int) * 2) != 0) = decide (rg b ≠ 0) := by
 have h : IntKind.u64.wrap (((b : Nat) : Int) * 2) = ((2 * rg b : Nat) : Int) := by
  unfold IntKind.wrap rg;simp only [IntKind.bits, IntKind.signed, Bool.false_and, Bool.false_eq_true, if_false]
  omega
 rw [h];refine Bool.eq_iff_iff.2 ?_;rw [bne_iff_ne, decide_eq_true_eq];omega
theorem div_none {v P : Nat} (hP : P ∣ v) (hw : v / P = 0) : v = 0 := by
 have h := Nat.div_mul_cancel hP;rw [hw, Nat.zero_mul] at h;exact h.symm
theorem none_div {v P : Nat} (h : v = 0) : v / P = 0 := by rw [h, Nat.zero_div]
theorem vl_nought {r : Nat} (h : vl r = 0) : r = 0 := by
 rcases Nat.eq_zero_or_pos r with h0 | h0
 · exact h0
 · have := zzv h0;omega
theorem truth_fb {a : Nat} {n : Bool} {xs : List Nat} (ho : jf a n xs = true) (hz : kl a n xs = 0) : (rg a ≠ 0) ↔ (num n xs ≠ 0) := by
 unfold kl at hz;rw [if_pos ho] at hz;by_cases hi : rg a = 9218868437227405312
 · rw [if_pos hi] at hz; exact absurd hz (infV_ne a)
 rw [if_neg hi] at hz;unfold cmpB at hz;by_cases h0 : ky (jh a) (num n xs) = 0
 · rw [if_neg (fun h => h h0)] at hz;have he := zyx h0;cases hl : zrk a with
   | true => rw [hl, if_pos rfl] at hz; split at hz <;> cases hz
   | false =>
    have hw : isWh (rg a) := by
     unfold zrk at hl;exact Classical.byContradiction fun h => @of_decide_eq_false _ (Classical.propDecidable _) hl h
    have h1 := wholeI_abs a;rw [he] at h1;have hz0 : qk a = 0 ↔ rg a = 0 := by
     constructor
     · intro h;exact vl_nought (div_none hw h)
     · intro h;exact none_div (show vl (rg a) = 0 by rw [h]; decide)
    rw [← h1] at hz0;rw [ne_eq, ne_eq, ← hz0];omega
 · rw [if_pos h0] at hz; exact absurd hz h0
theorem num_of {m : Bool} {i : Int} {xs : List Nat} (h1 : m = decide (i < 0)) (h2 : xs = limbs i) : num m (limbs i) = i := by
 rw [h1, jj]
theorem limbs_some (i : Int) : decide ((0 : Int) < (((limbs i).length : Nat) : Int)) = decide (i ≠ 0) := by
 refine decide_eq_decide.2 ⟨fun h e => ?_, fun h => ?_⟩
 · rw [e, va] at h; simp at h
 · rcases Nat.eq_zero_or_pos (limbs i).length with h0 | h0
   · have h1 := List.eq_nil_of_length_eq_zero h0;have h2 := jj i;rw [h1] at h2;have h3 : num (decide (i < 0)) [] = 0 := by
      cases decide (i < 0) with
      | true => rw [vw]; rfl
      | false => exact num_0
     rw [h3] at h2;exact absurd h2.symm h
   · omega
theorem PV.goodC {v : PV} (h : v.good = true) (hk : v.k = 1 ∨ v.k = 2) : yb v.cn v.cx = true := by
 have hc := PV.canon h hk;generalize num v.cn v.cx = i at hc
 rw [hc.1, hc.2.1];exact ve hc.2.2
theorem zjz {v : PV} (h : v.good = true) (hk : v.k = 1 ∨ v.k = 2) : vo v = decide (num v.cn v.cx ≠ 0) := by
 unfold vo;rw [h, if_pos rfl];by_cases h1 : v.k = 1
 · rw [if_pos h1];unfold PV.cn PV.cx;rw [if_pos h1, if_pos h1];cases v.yes with
   | true => rw [if_pos rfl, num_1]; rfl
   | false => rw [if_neg (by decide), num_0]; rfl
 · have h2 : v.k = 2 := by omega
   rw [if_neg h1, if_pos h2];have hc := PV.canon h hk;have e1 : v.cx = v.xs := by unfold PV.cx; rw [if_neg h1]
   rw [← e1, hc.2.1, num_of hc.1 hc.2.1];exact limbs_some _
theorem agree_eq {a b : PV} (ha : a.bits < 18446744073709551616) (hb : b.bits < 18446744073709551616) (h : eqV a b = true) : jl a = jl b ∧ vo a = vo b ∧ (qh a b).1 = 0 := by
 unfold eqV at h;cases g1 : a.good
 · rw [g1] at h; cases h
 cases g2 : b.good
 · rw [g1, g2] at h; cases h
 rw [g1, g2, Bool.and_self, if_pos rfl] at h;cases hn : (gi a.k && gi b.k)
 · rw [hn, if_neg Bool.false_ne_true] at h;unfold eqS at h;cases hk : (a.k == b.k)
   · rw [hk] at h; cases h
   · rw [hk, if_pos rfl] at h;have hk := eq_of_beq hk;have hs := eq_of_beq h;rw [hk, Bool.and_self] at hn;have hd : a.s.data.toList = b.s.data.toList := by
      have h1 := congrArg List.toArray hs;rw [ByteArray.toList_eq, ByteArray.toList_eq] at hs;exact hs
     have k4 : b.k = 0 ∨ b.k = 4 := by
      by_cases h0 : b.k = 0
      · exact Or.inl h0
      · exact Or.inr (PV.str g2 hn h0)
     refine ⟨?_, ?_, ?_⟩
     · unfold jl;rw [g1, g2, if_pos rfl, if_pos rfl, hk, hd];rcases k4 with e | e
       · rw [if_pos e, if_pos e]
       · rw [if_neg (by omega), if_neg (by omega), if_pos e, if_neg (by omega), if_neg (by omega), if_pos e]
     · unfold vo;rw [g1, g2, if_pos rfl, if_pos rfl, hk, hs];rw [if_neg (by omega), if_neg (by omega), if_neg (by omega), if_neg (by omega), if_neg (by omega), if_neg (by omega)]
     · unfold qh;rw [g1, g2, Bool.and_self, if_pos rfl, hk, hn, Bool.and_self, if_neg Bool.false_ne_true, hd];split
       · exact bytes_self _
       · rfl
 · rw [hn, if_pos rfl] at h;cases ho : xy a b
   · rw [ho] at h; cases h
   rw [ho, if_pos rfl] at h;have hc := eq_of_beq h;simp only [Bool.and_eq_true] at hn
   have n1 := numK_at hn.1;have n2 := numK_at hn.2;have hov : (qh a b).1 = 0 := by
    unfold qh;rw [g1, g2, Bool.and_self, if_pos rfl, hn.1, hn.2, Bool.and_self, if_pos rfl];exact hc
   have hbig : ∀ {v : PV}, v.good = true → 1 ≤ v.k ∧ v.k ≤ 3 → ¬ v.k = 3 → jl v = yav v.cn v.cx := fun g n h3 => by
    unfold jl;rw [g, if_pos rfl, if_neg (by omega), if_neg h3, if_neg (by omega)]
   have hflt : ∀ {v : PV}, v.good = true → v.k = 3 → jl v = kb v.bits := fun g h3 => by
    unfold jl;rw [g, if_pos rfl, if_neg (by omega), if_pos h3]
   have tflt : ∀ {v : PV}, v.good = true → v.bits < 18446744073709551616 → v.k = 3 → vo v = decide (rg v.bits ≠ 0) := fun g hb h3 => by
    unfold vo;rw [g, if_pos rfl, if_neg (by omega), if_neg (by omega), if_pos h3];exact truth_f hb
   unfold ow at hc;unfold xy at ho;by_cases h1 : a.k = 3 <;> by_cases h2 : b.k = 3
   · rw [if_pos h1, if_pos h2] at hc ho;refine ⟨?_, ?_, hov⟩
     · rw [hflt g1 h1, hflt g2 h2]; exact agree_cmp ho hc
     · rw [tflt g1 ha h1, tflt g2 hb h2];unfold zeq at hc;rw [if_pos ho] at hc;have hp : pc a.bits = pc b.bits := by
        unfold ordI at hc;split at hc
        · cases hc
        · split at hc
          · cases hc
          · omega
       unfold pc at hp;have hr : rg a.bits = rg b.bits := by split at hp <;> split at hp <;> omega
       rw [hr]
   · rw [if_pos h1, if_neg h2] at hc ho;have hkb : b.k = 1 ∨ b.k = 2 := by omega
     refine ⟨?_, ?_, hov⟩
     · rw [hflt g1 h1, hbig g2 n2 h2]; exact agree_any ho hc
     · rw [tflt g1 ha h1, zjz g2 hkb]; exact decide_eq_decide.2 (truth_fb ho hc)
   · rw [if_neg h1, if_pos h2] at hc ho;have hka : a.k = 1 ∨ a.k = 2 := by omega
     refine ⟨?_, ?_, hov⟩
     · rw [hflt g2 h2, hbig g1 n1 h1]; exact (agree_any ho (by omega)).symm
     · rw [tflt g2 hb h2, zjz g1 hka]; exact (decide_eq_decide.2 (truth_fb ho (by omega))).symm
   · rw [if_neg h1, if_neg h2] at hc;have hka : a.k = 1 ∨ a.k = 2 := by omega
     have hkb : b.k = 1 ∨ b.k = 2 := by omega
     have q1 := PV.canon g1 hka;have q2 := PV.canon g2 hkb;have gb1 : yb a.cn a.cx = true := PV.goodC g1 hka;have gb2 : yb b.cn b.cx = true := PV.goodC g2 hkb;rw [gb1, gb2] at hc;have hc : ky (num a.cn a.cx) (num b.cn b.cx) = 0 := by unfold cmpO at hc; exact hc
     have he := zyx hc;refine ⟨?_, ?_, hov⟩
     · rw [hbig g1 n1 h1, hbig g2 n2 h2];unfold yav;rw [gb1, gb2, he]
     · rw [zjz g1 hka, zjz g2 hkb, he]
theorem zek {a b : PV} (ha : a.bits < 18446744073709551616) (hb : b.bits < 18446744073709551616) (h : vd a b = true) (hnan : ¬ (a.k = 3 ∧ isN a.bits = true)) : eqV a b = true := by
 unfold vd at h;cases g1 : a.good
 · rw [g1] at h; cases h
 cases g2 : b.good
 · rw [g1, g2] at h; cases h
 cases hk : (a.k == b.k)
 · rw [g1, g2, hk] at h; cases h
 rw [g1, g2, hk, Bool.and_self, Bool.and_self, if_pos rfl] at h;have hkk := eq_of_beq hk;unfold eqV;rw [g1, g2, Bool.and_self, if_pos rfl];have hz : ∀ {m n : Bool} {xs ys : List Nat}, num m xs = num n ys → cmpO (yb m xs && yb n ys) (num m xs) (num n ys) = 0 := fun e => by
  unfold cmpO;split
  · rw [e]; unfold ky; rw [if_neg (Int.lt_irrefl _), if_neg (Int.lt_irrefl _)]
  · rfl
 rcases PV.kinds g1 with e | e | e | e | e
 · rw [e, show gi 0 = false from rfl, Bool.false_and, if_neg Bool.false_ne_true];unfold eqS;rw [hk, if_pos rfl, PV.s0 g1 (Or.inl e), PV.s0 g2 (Or.inl (by omega)), beq_self_eq_true]
 · rw [if_neg (by omega), if_neg (by omega)] at h;cases hy : (a.yes == b.yes)
   · rw [hy] at h; cases h
   have hy := eq_of_beq hy;have eb : b.k = 1 := by omega
   rw [e, eb, show gi 1 = true from rfl, Bool.and_self, if_pos rfl];have ho : xy a b = true := by unfold xy; rw [if_neg (by omega), if_neg (by omega)]
   have hc : ow a b = 0 := by
    unfold ow;rw [if_neg (by omega), if_neg (by omega)];exact hz (by unfold PV.cn PV.cx; rw [if_pos e, if_pos e, if_pos eb, if_pos eb, hy])
   rw [ho, hc]; rfl
 · rw [if_pos e] at h;have eb : b.k = 2 := by omega
   rw [e, eb, show gi 2 = true from rfl, Bool.and_self, if_pos rfl];have ho : xy a b = true := by unfold xy; rw [if_neg (by omega), if_neg (by omega)]
   have hc : ow a b = 0 := by
    unfold ow PV.cn PV.cx;rw [if_neg (by omega), if_neg (by omega), if_neg (by omega), if_neg (by omega), if_neg (by omega), if_neg (by omega)];exact eq_of_beq h
   rw [ho, hc]; rfl
 · rw [if_neg (by omega), if_pos e] at h;have eb : b.k = 3 := by omega
   rw [neg_same ha hb] at h;have h := eq_of_beq h;have h : qa a.bits = qa b.bits := by omega
   have na : isN a.bits = false := Bool.eq_false_iff.2 (fun hh => hnan ⟨e, hh⟩);have nb : isN b.bits = false := by
    cases hb2 : isN b.bits with
    | false => rfl
    | true =>
     unfold qa at h;rw [if_neg (by rw [na]; decide), if_pos hb2] at h;rw [h] at na;exact absurd na (by decide)
   unfold qa at h;rw [if_neg (by rw [na]; decide), if_neg (by rw [nb]; decide)] at h;rw [e, eb, show gi 3 = true from rfl, Bool.and_self, if_pos rfl];have ho : xy a b = true := by unfold xy vr; rw [if_pos e, if_pos eb, na, nb]; rfl
   have hc : ow a b = 0 := by
    unfold ow;rw [if_pos e, if_pos eb, h];unfold zeq;split
    · unfold ordI; rw [if_neg (Int.lt_irrefl _), if_neg (Int.lt_irrefl _)]
    · rfl
   rw [ho, hc]; rfl
 · rw [if_neg (by omega), if_neg (by omega)] at h;rw [e, show gi 4 = false from rfl, Bool.false_and, if_neg Bool.false_ne_true];unfold eqS;rw [hk, if_pos rfl];split at h
   · exact h
   · cases h
end Go.Proofs.YtaleikoeklemmaaGreatDoor
namespace Go.Proofs.YtaleikoeklemmaaGreatDoor
open Go.RowKit
set_option maxRecDepth 100000
attribute [local irreducible] OW RS
def hexL : List UInt8 := [48, 49, 50, 51, 52, 53, 54, 55, 56, 57, 97, 98, 99, 100, 101, 102]
def zmz (n : Nat) : UInt8 := hexL.getD n 0
def qb (x : UInt8) : List UInt8 :=
 if x.toNat = 10 then [92, 110] else if x.toNat = 9 then [92, 116] else if x.toNat = 92 then [92, x] else if x.toNat = 39 then [92, x]
 else if x.toNat < 32 then [92, 120, zmz (x.toNat / 16), zmz (x.toNat % 16)] else if 126 < x.toNat then [92, 120, zmz (x.toNat / 16), zmz (x.toNat % 16)] else [x]
def gc (l : List UInt8) : List UInt8 := 39 :: l.flatMap qb
theorem qb_len (x : UInt8) : (qb x).length ≤ 4 := by unfold qb; (repeat' split) <;> simp
theorem qList_len : ∀ (l : List UInt8), (gc l).length ≤ 1 + 4 * l.length
 | [] => by decide
 | x :: l => by
  have h := qList_len l;have h2 := qb_len x;unfold gc at h ⊢;simp only [List.length_cons, List.flatMap_cons, List.length_append] at h ⊢
  omega
theorem gq {l : List UInt8} {i : Nat} {x : UInt8} (h : l[i]? = some x) : gc (l.take (i + 1)) = gc (l.take i) ++ qb x := by
 unfold gc;obtain ⟨hi, he⟩ := List.getElem?_eq_some_iff.1 h;rw [List.take_succ_eq_append_getElem hi, List.flatMap_append, he];simp
theorem shr4 (x : UInt8) : ((x.toNat : Nat) : Int).fdiv (2 ^ (min (4 : Int).toNat IntKind.u8.bits)) = ((x.toNat / 16 : Nat) : Int) := by
 have key : ∀ n : Fin 256, ((n.val : Nat) : Int).fdiv (2 ^ (min (4 : Int).toNat IntKind.u8.bits)) = ((n.val / 16 : Nat) : Int) := by decide +kernel
 exact key ⟨x.toNat, x.toNat_lt⟩
theorem and15 (x : UInt8) : IntKind.u8.wrap (BitVec.ofInt IntKind.u8.bits ((x.toNat : Nat) : Int) &&& BitVec.ofInt IntKind.u8.bits 15).toNat = ((x.toNat % 16 : Nat) : Int) := by
 have key : ∀ n : Fin 256, IntKind.u8.wrap (BitVec.ofInt IntKind.u8.bits ((n.val : Nat) : Int) &&& BitVec.ofInt IntKind.u8.bits 15).toNat = ((n.val % 16 : Nat) : Int) := by decide +kernel
 exact key ⟨x.toNat, x.toNat_lt⟩
theorem hex_at {j : Nat} (h : j < 16) : (⟨#[48, 49, 50, 51, 52, 53, 54, 55, 56, 57, 97, 98, 99, 100, 101, 102]⟩ : ByteArray)[j]? = some (zmz j) := by
 have key : ∀ n : Fin 16, (#[48, 49, 50, 51, 52, 53, 54, 55, 56, 57, 97, 98, 99, 100, 101, 102] : Array UInt8)[n.val]? = some (zmz n.val) := by decide +kernel
 exact key ⟨j, h⟩
section
variable (w : World) (ua : PV) (A1 B1 : Option Addr) (c1 d1 : Nat) (hx : Nums w A1 ua.xs) (hl : ua.xs.length ≤ 9223372036854775807) (g1 : ua.good = true) (h4 : ua.k = 4) (hsl : ua.s.size ≤ 20000)
include hx hl g1 h4 hsl
theorem pl_quote : Calls Tryz.prog 22 #[.agg #[.int .i64 ua.k, .bool ua.yes, .bool ua.neg, .slice A1 ua.xs.length c1, .int .u64 ((ua.bits : Nat) : Int), .string ua.s, .slice B1 ua.ni d1]] w fun e w' => e = .returned (.string ⟨(gc ua.s.data.toList ++ [39]).toArray⟩) ∧ Below w.heap.size w w' := by
 have hsn : ua.s.data.toList.length = ua.s.size := by rw [Array.length_toList]; rfl
 obtain ⟨lo, hlo⟩ : ∃ lo, lo = w.heap.size := ⟨_, rfl⟩;refine zr Tryz.func22 rfl Tryz.ntmps22 rfl (srx (za rfl (zx rfl ?_)));rintro gv wA BX E1 G1
 refine anx rfl (zj (srx (za rfl (zb Tryz.underlying28 rfl sz3 (by decide) rfl (za rfl (zf Tryz.underlying3 rfl rfl BX rfl (za rfl (qc rfl rfl (mvx rfl (zz 9 (.bool false) rfl ((by rw [h4]; rfl : (.bool (ua.k != 4) : Value) = _)) (onx rfl (yh (cs := #[.int .i64 ua.k, .bool ua.yes, .bool ua.neg, .slice A1 ua.xs.length c1, .int .u64 ((ua.bits : Nat) : Int), .string ua.s, .slice B1 ua.ni d1]) Tryz.underlying28 rfl yk rfl rfl (fun j v hj ↦ by have h := (BX.cell j).trans hj; rw [Nat.zero_add]; exact h) (onx rfl (zd jg rfl ((yu _ ua A1 B1 c1 d1 (Per.nums0 hx _ E1) hl true g1).mono ?_)))))))))))))))
 rintro e w1 ⟨rfl, hb⟩;refine ⟨_, rfl, ?_⟩;have E2 := E1.trans (Ext.of_below hb No);have BX2 := BX.ext (Ext.of_below hb No) (fun h => h.elim);refine onx rfl (yf rfl (za rfl (zh rfl rfl (rnx (zp rfl (zq (zk (srx (za rfl (qd zr65 ?_))))))))));rintro gb wB BB E3 G3;have E4 := E2.trans E3;have BX3 := BX2.ext E3 (fun h => h.elim);have hs2 := E2.size
 have hgb : lo ≤ gb := by omega
 obtain ⟨hi, hhi⟩ : ∃ hi, hi = wB.heap.size := ⟨_, rfl⟩;have hs4 := E4.size;have hlh : lo ≤ hi := by omega
 refine rnx (srx (za rfl (zd en44 rfl ((xw _ lo gb (.pointer none) (Or.inl rfl) [] (by decide) (fun q => hi ≤ q) ⟨none, 0, BB, owns_nil, fun q hq => (by cases hq)⟩ hgb (fun q hq => by show hi ≤ q; omega) 39).mono ?_))));rintro e w2 ⟨rfl, M0, X0⟩;refine ⟨_, rfl, ?_⟩
 have T0 : Ext (fun q => lo ≤ q) w w2 := (E4.noL lo).step X0 (fun q hq => Or.inl (hq.elim (fun h => by show lo ≤ q; omega) (fun h => by have h : hi ≤ q := h; show lo ≤ q; omega)));obtain ⟨A3, c3, MB, MO, MF⟩ := M0;have hvb : gv < gb := by have := BX2.lt; omega
 have hbh : gb < hi := by have := BB.lt; omega
 have BX4 := BX3.ext X0 (fun hq => hq.elim (fun h => by omega) (fun h => by have h : hi ≤ gv := h; omega));refine rnx (zj (srx (za rfl (zb Tryz.underlying28 rfl sz9 (by decide) rfl (za rfl (zf Tryz.underlying9 rfl rfl BX4 rfl (za rfl (yak Tryz.underlying9 Tryz.underlying43 Tryz.underlying5 rfl rfl rfl ?_))))))));rintro gx cx wC RX E5 GX
 have T1 := T0.step E5 (fun _ h => h.elim);have hsX := X0.size;have M1 : Bld wC lo gb (.pointer (some ⟨gb, 0, none⟩)) (gc (ua.s.data.toList.take 0)) (fun q => hi ≤ q ∧ (0 < ua.s.size → q ≠ gx)) := Bld.no ⟨A3, c3, MB, MO, fun q hq => ⟨MF q hq, fun _ e => by have := owns_lt MO q hq; omega⟩⟩ E5
 have hgxl : 0 < ua.s.size → gx < wC.heap.size := fun h0 => World.block_lt_of_cell? _ _ (RX 0 _ (by rw [List.getElem?_map, List.getElem?_eq_getElem (show 0 < ua.s.data.toList.length by omega)]; rfl));have hFz : ∀ {z}, Ext (fun q => q = gb ∨ (hi ≤ q ∧ (0 < ua.s.size → q ≠ gx))) wC z → ∀ q, z.heap.size ≤ q → hi ≤ q ∧ (0 < ua.s.size → q ≠ gx) := fun h q hq => by
  have h1 := h.size;have h2 := E5.size;exact ⟨by omega, fun h0 e => by have := hgxl h0; omega⟩
 refine za rfl (vq Tryz.underlying43 rfl (mvx rfl (rnx (yi (ztk (ι := Nat) (fun i => [(3, .pointer (some ⟨gb, 0, none⟩)), (19, .slice (some ⟨gx, 0, none⟩) ua.s.size cx), (20, .int .i64 ((ua.s.size : Nat) : Int)), (21, .int .i64 ((i : Nat) : Int))]) (fun i w' => i ≤ ua.s.size ∧ Ext (fun q => q = gb ∨ (hi ≤ q ∧ (0 < ua.s.size → q ≠ gx))) wC w' ∧ Bld w' lo gb (.pointer (some ⟨gb, 0, none⟩)) (gc (ua.s.data.toList.take i)) (fun q => hi ≤ q ∧ (0 < ua.s.size → q ≠ gx))) (fun i => ua.s.size - i) 0 ⟨rfl, rfl, rfl, rfl, trivial⟩ (⟨Nat.zero_le _, Ext.refl _ _, M1⟩) ?_)))))
 rintro i w4 ⟨hin, XI, MI⟩;have hML := qList_len (ua.s.data.toList.take i);rw [List.length_take] at hML;have hM0 : 0 < (gc (ua.s.data.toList.take i)).length := Nat.zero_lt_succ _;refine srx (za rfl (jy rfl rfl (rnx (zj (yx rfl (fun hic => ?_) (fun hic => ?_))))))
 ·
  have hic := of_decide_eq_true hic;have hil : i < ua.s.size := by omega
  obtain ⟨x, hxl⟩ : ∃ x, ua.s.data.toList[i]? = some x := ⟨_, List.getElem?_eq_getElem (by omega)⟩;have hcell : ∀ z, Ext (fun q => q = gb ∨ (hi ≤ q ∧ (0 < ua.s.size → q ≠ gx))) wC z → z.cell? ⟨gx, 0 + i, none⟩ = some (.int .u8 ((x.toNat : Nat) : Int)) := fun z hz => by
   have h1 := RX i (.int .u8 ((x.toNat : Nat) : Int)) (by rw [List.getElem?_map, hxl]; rfl);rw [Nat.zero_add];refine (hz.cell (World.block_lt_of_cell? _ _ h1) (fun hq => hq.elim (fun h => ?_) (fun h => h.2 (by omega) rfl))).trans h1;have h : gx = gb := h;have := hsX;omega
  refine zq (zk (zj (yi (srx (za rfl (jt (j := i) Tryz.underlying43 sz5 rfl rfl rfl hil (za rfl (xr Tryz.underlying5 rfl rfl (hcell _ XI) (anx rfl (yi (srx (mvx rfl (za rfl (ya rfl rfl (anx rfl ?_)))))))))))))));by_cases h10 : x.toNat = 10
  ·
   refine zu 27 (.bool true) rfl ((by rw [h10]; rfl : (.bool (((x.toNat : Nat) : Int) == 10) : Value) = _)) (yc rfl (yo (za rfl (zd en45 rfl ((ydv _ lo gb _ (Or.inr rfl) (gc (ua.s.data.toList.take i)) (by first | omega | (simp only [List.length_append, List.length_cons, List.length_nil]; omega)) (fun q => hi ≤ q ∧ (0 < ua.s.size → q ≠ gx)) MI hgb (hFz XI) ⟨#[92, 110]⟩ (by decide) (by first | omega | (simp only [List.length_append]; omega))).mono ?_)))))
   rintro e w5 ⟨rfl, M1, X1⟩;refine ⟨_, rfl, ?_⟩;have T1 := XI.step X1 (fun q hq => Or.inl hq);refine qz (zw (zw (zk (yo (za rfl (qp rfl rfl (yg (by omega)) (mvx rfl (qz ?_))))))))
   exact gp (i + 1) (by show ua.s.size - (i + 1) < ua.s.size - i; omega) ⟨rfl, rfl, rfl, rfl, trivial⟩ (⟨by omega, T1, by rw [gq hxl]; rw [show qb x = [92, 110] from (by unfold qb; rw [if_pos h10])]; first | exact M1 | (have h := M1; simp only [List.append_assoc] at h; exact h)⟩)
  ·
   refine zu 27 (.bool false) rfl (congrArg Value.bool (beq_eq_false_iff_ne.2 (fun h => h10 (by omega)))) (zp rfl (srx (mvx rfl (za rfl (ya rfl rfl (anx rfl ?_))))));by_cases h9 : x.toNat = 9
   ·
    refine zu 31 (.bool true) rfl ((by rw [h9]; rfl : (.bool (((x.toNat : Nat) : Int) == 9) : Value) = _)) (yc rfl (yo (za rfl (zd en45 rfl ((ydv _ lo gb _ (Or.inr rfl) (gc (ua.s.data.toList.take i)) (by first | omega | (simp only [List.length_append, List.length_cons, List.length_nil]; omega)) (fun q => hi ≤ q ∧ (0 < ua.s.size → q ≠ gx)) MI hgb (hFz XI) ⟨#[92, 116]⟩ (by decide) (by first | omega | (simp only [List.length_append]; omega))).mono ?_)))))
    rintro e w6 ⟨rfl, M2, X2⟩;refine ⟨_, rfl, ?_⟩;have T2 := XI.step X2 (fun q hq => Or.inl hq);refine qz (zw (zw (zk (yo (za rfl (qp rfl rfl (yg (by omega)) (mvx rfl (qz ?_))))))))
    exact gp (i + 1) (by show ua.s.size - (i + 1) < ua.s.size - i; omega) ⟨rfl, rfl, rfl, rfl, trivial⟩ (⟨by omega, T2, by rw [gq hxl]; rw [show qb x = [92, 116] from (by unfold qb; rw [if_neg h10, if_pos h9])]; first | exact M2 | (have h := M2; simp only [List.append_assoc] at h; exact h)⟩)
   ·
    refine zu 31 (.bool false) rfl (congrArg Value.bool (beq_eq_false_iff_ne.2 (fun h => h9 (by omega)))) (zp rfl (srx (mvx rfl (za rfl (ya rfl rfl (mvx rfl ?_))))));by_cases h92 : x.toNat = 92
    ·
     refine zz 38 (.bool true) rfl ((by rw [h92]; rfl : (.bool (((x.toNat : Nat) : Int) == 92) : Value) = _)) (za rfl (zc rfl (za rfl (zc rfl (za rfl (zt rfl rfl (anx rfl (yc rfl (srx (za rfl (zd en44 rfl ((xw _ lo gb _ (Or.inr rfl) (gc (ua.s.data.toList.take i)) (by first | omega | (simp only [List.length_append, List.length_cons, List.length_nil]; omega)) (fun q => hi ≤ q ∧ (0 < ua.s.size → q ≠ gx)) MI hgb (hFz XI) 92).mono ?_))))))))))))
     rintro e w7 ⟨rfl, M3, X3⟩;refine ⟨_, rfl, ?_⟩;have T3 := XI.step X3 (fun q hq => Or.inl hq)
     refine rnx (yo (mvx rfl (za rfl (zd en44 rfl ((xw _ lo gb _ (Or.inr rfl) ((gc (ua.s.data.toList.take i)) ++ [92]) (by first | omega | (simp only [List.length_append, List.length_cons, List.length_nil]; omega)) (fun q => hi ≤ q ∧ (0 < ua.s.size → q ≠ gx)) M3 hgb (hFz T3) x).mono ?_)))));rintro e w8 ⟨rfl, M4, X4⟩;refine ⟨_, rfl, ?_⟩
     have T4 := T3.step X4 (fun q hq => Or.inl hq);refine qz (zw (zw (zk (yo (za rfl (qp rfl rfl (yg (by omega)) (mvx rfl (qz ?_))))))))
     exact gp (i + 1) (by show ua.s.size - (i + 1) < ua.s.size - i; omega) ⟨rfl, rfl, rfl, rfl, trivial⟩ (⟨by omega, T4, by rw [gq hxl]; rw [show qb x = [92, x] from (by unfold qb; rw [if_neg h10, if_neg h9, if_pos h92])]; first | exact M4 | (have h := M4; simp only [List.append_assoc] at h; exact h)⟩)
    ·
     refine zz 38 (.bool false) rfl (congrArg Value.bool (beq_eq_false_iff_ne.2 (fun h => h92 (by omega)))) (onx rfl (zy rfl (onx rfl (ya rfl rfl (za rfl (zh rfl rfl (anx rfl ?_)))))));by_cases h39 : x.toNat = 39
     ·
      refine zu 35 (.bool true) rfl ((by rw [h39]; rfl : (.bool (((x.toNat : Nat) : Int) == 39) : Value) = _)) (yc rfl (srx (za rfl (zd en44 rfl ((xw _ lo gb _ (Or.inr rfl) (gc (ua.s.data.toList.take i)) (by first | omega | (simp only [List.length_append, List.length_cons, List.length_nil]; omega)) (fun q => hi ≤ q ∧ (0 < ua.s.size → q ≠ gx)) MI hgb (hFz XI) 92).mono ?_)))))
      rintro e w9 ⟨rfl, M5, X5⟩;refine ⟨_, rfl, ?_⟩;have T5 := XI.step X5 (fun q hq => Or.inl hq)
      refine rnx (yo (mvx rfl (za rfl (zd en44 rfl ((xw _ lo gb _ (Or.inr rfl) ((gc (ua.s.data.toList.take i)) ++ [92]) (by first | omega | (simp only [List.length_append, List.length_cons, List.length_nil]; omega)) (fun q => hi ≤ q ∧ (0 < ua.s.size → q ≠ gx)) M5 hgb (hFz T5) x).mono ?_)))));rintro e w10 ⟨rfl, M6, X6⟩;refine ⟨_, rfl, ?_⟩
      have T6 := T5.step X6 (fun q hq => Or.inl hq);refine qz (zw (zw (zk (yo (za rfl (qp rfl rfl (yg (by omega)) (mvx rfl (qz ?_))))))))
      exact gp (i + 1) (by show ua.s.size - (i + 1) < ua.s.size - i; omega) ⟨rfl, rfl, rfl, rfl, trivial⟩ (⟨by omega, T6, by rw [gq hxl]; rw [show qb x = [92, x] from (by unfold qb; rw [if_neg h10, if_neg h9, if_neg h92, if_pos h39])]; first | exact M6 | (have h := M6; simp only [List.append_assoc] at h; exact h)⟩)
     ·
      refine zu 35 (.bool false) rfl (congrArg Value.bool (beq_eq_false_iff_ne.2 (fun h => h39 (by omega)))) (zp rfl (srx (mvx rfl (za rfl (jy rfl rfl (mvx rfl ?_))))));by_cases h32 : x.toNat < 32
      ·
       refine zz 48 (.bool true) rfl (congrArg Value.bool (decide_eq_true (show ((x.toNat : Nat) : Int) < 32 by omega))) (za rfl (zc rfl (za rfl (zc rfl (za rfl (zt rfl rfl (anx rfl (yc rfl (srx (za rfl (zd en45 rfl ((ydv _ lo gb _ (Or.inr rfl) (gc (ua.s.data.toList.take i)) (by first | omega | (simp only [List.length_append, List.length_cons, List.length_nil]; omega)) (fun q => hi ≤ q ∧ (0 < ua.s.size → q ≠ gx)) MI hgb (hFz XI) ⟨#[92, 120]⟩ (by decide) (by first | omega | (simp only [List.length_append]; omega))).mono ?_))))))))))))
       rintro e w11 ⟨rfl, M7, X7⟩;refine ⟨_, rfl, ?_⟩;have T7 := XI.step X7 (fun q hq => Or.inl hq)
       refine rnx (srx (mvx rfl (za rfl (gm rfl rfl (by decide) (shr4 x) (za rfl (ou (j := x.toNat / 16) Tryz.underlying9 rfl rfl rfl (hex_at (by have := x.toNat_lt; omega)) (za rfl (zd en44 rfl ((xw _ lo gb _ (Or.inr rfl) ((gc (ua.s.data.toList.take i)) ++ [92, 120]) (by first | omega | (simp only [List.length_append, List.length_cons, List.length_nil]; omega)) (fun q => hi ≤ q ∧ (0 < ua.s.size → q ≠ gx)) M7 hgb (hFz T7) (zmz (x.toNat / 16))).mono ?_)))))))))
       rintro e w12 ⟨rfl, M8, X8⟩;refine ⟨_, rfl, ?_⟩;have T8 := T7.step X8 (fun q hq => Or.inl hq)
       refine rnx (yo (mvx rfl (za rfl (xc rfl rfl (and15 x) (za rfl (ou (j := x.toNat % 16) Tryz.underlying9 rfl rfl rfl (hex_at (by omega)) (za rfl (zd en44 rfl ((xw _ lo gb _ (Or.inr rfl) (((gc (ua.s.data.toList.take i)) ++ [92, 120]) ++ [(zmz (x.toNat / 16))]) (by first | omega | (simp only [List.length_append, List.length_cons, List.length_nil]; omega)) (fun q => hi ≤ q ∧ (0 < ua.s.size → q ≠ gx)) M8 hgb (hFz T8) (zmz (x.toNat % 16))).mono ?_)))))))))
       rintro e w13 ⟨rfl, M9, X9⟩;refine ⟨_, rfl, ?_⟩;have T9 := T8.step X9 (fun q hq => Or.inl hq);refine qz (zw (zw (zk (yo (za rfl (qp rfl rfl (yg (by omega)) (mvx rfl (qz ?_))))))))
       exact gp (i + 1) (by show ua.s.size - (i + 1) < ua.s.size - i; omega) ⟨rfl, rfl, rfl, rfl, trivial⟩ (⟨by omega, T9, by rw [gq hxl]; rw [show qb x = [92, 120, zmz (x.toNat / 16), zmz (x.toNat % 16)] from (by unfold qb; rw [if_neg h10, if_neg h9, if_neg h92, if_neg h39, if_pos h32])]; first | exact M9 | (have h := M9; simp only [List.append_assoc] at h; exact h)⟩)
      ·
       refine zz 48 (.bool false) rfl (congrArg Value.bool (decide_eq_false (show ¬ ((x.toNat : Nat) : Int) < 32 by omega))) (onx rfl (zy rfl (onx rfl (gg rfl rfl (za rfl (zh rfl rfl (anx rfl ?_)))))));by_cases h126 : 126 < x.toNat
       ·
        refine zu 45 (.bool true) rfl (congrArg Value.bool (decide_eq_true (show (126 : Int) < ((x.toNat : Nat) : Int) by omega))) (yc rfl (srx (za rfl (zd en45 rfl ((ydv _ lo gb _ (Or.inr rfl) (gc (ua.s.data.toList.take i)) (by first | omega | (simp only [List.length_append, List.length_cons, List.length_nil]; omega)) (fun q => hi ≤ q ∧ (0 < ua.s.size → q ≠ gx)) MI hgb (hFz XI) ⟨#[92, 120]⟩ (by decide) (by first | omega | (simp only [List.length_append]; omega))).mono ?_)))))
        rintro e w14 ⟨rfl, M10, X10⟩;refine ⟨_, rfl, ?_⟩;have T10 := XI.step X10 (fun q hq => Or.inl hq)
        refine rnx (srx (mvx rfl (za rfl (gm rfl rfl (by decide) (shr4 x) (za rfl (ou (j := x.toNat / 16) Tryz.underlying9 rfl rfl rfl (hex_at (by have := x.toNat_lt; omega)) (za rfl (zd en44 rfl ((xw _ lo gb _ (Or.inr rfl) ((gc (ua.s.data.toList.take i)) ++ [92, 120]) (by first | omega | (simp only [List.length_append, List.length_cons, List.length_nil]; omega)) (fun q => hi ≤ q ∧ (0 < ua.s.size → q ≠ gx)) M10 hgb (hFz T10) (zmz (x.toNat / 16))).mono ?_)))))))))
        rintro e w15 ⟨rfl, M11, X11⟩;refine ⟨_, rfl, ?_⟩;have T11 := T10.step X11 (fun q hq => Or.inl hq)
        refine rnx (yo (mvx rfl (za rfl (xc rfl rfl (and15 x) (za rfl (ou (j := x.toNat % 16) Tryz.underlying9 rfl rfl rfl (hex_at (by omega)) (za rfl (zd en44 rfl ((xw _ lo gb _ (Or.inr rfl) (((gc (ua.s.data.toList.take i)) ++ [92, 120]) ++ [(zmz (x.toNat / 16))]) (by first | omega | (simp only [List.length_append, List.length_cons, List.length_nil]; omega)) (fun q => hi ≤ q ∧ (0 < ua.s.size → q ≠ gx)) M11 hgb (hFz T11) (zmz (x.toNat % 16))).mono ?_)))))))))
        rintro e w16 ⟨rfl, M12, X12⟩;refine ⟨_, rfl, ?_⟩;have T12 := T11.step X12 (fun q hq => Or.inl hq);refine qz (zw (zw (zk (yo (za rfl (qp rfl rfl (yg (by omega)) (mvx rfl (qz ?_))))))))
        exact gp (i + 1) (by show ua.s.size - (i + 1) < ua.s.size - i; omega) ⟨rfl, rfl, rfl, rfl, trivial⟩ (⟨by omega, T12, by rw [gq hxl]; rw [show qb x = [92, 120, zmz (x.toNat / 16), zmz (x.toNat % 16)] from (by unfold qb; rw [if_neg h10, if_neg h9, if_neg h92, if_neg h39, if_neg h32, if_pos h126])]; first | exact M12 | (have h := M12; simp only [List.append_assoc] at h; exact h)⟩)
       ·
        refine zu 45 (.bool false) rfl (congrArg Value.bool (decide_eq_false (show ¬ (126 : Int) < ((x.toNat : Nat) : Int) by omega))) (zp rfl (yo (mvx rfl (za rfl (zd en44 rfl ((xw _ lo gb _ (Or.inr rfl) (gc (ua.s.data.toList.take i)) (by first | omega | (simp only [List.length_append, List.length_cons, List.length_nil]; omega)) (fun q => hi ≤ q ∧ (0 < ua.s.size → q ≠ gx)) MI hgb (hFz XI) x).mono ?_))))))
        rintro e w17 ⟨rfl, M13, X13⟩;refine ⟨_, rfl, ?_⟩;have T13 := XI.step X13 (fun q hq => Or.inl hq);refine qz (zw (zw (zk (yo (za rfl (qp rfl rfl (yg (by omega)) (mvx rfl (qz ?_))))))))
        exact gp (i + 1) (by show ua.s.size - (i + 1) < ua.s.size - i; omega) ⟨rfl, rfl, rfl, rfl, trivial⟩ (⟨by omega, T13, by rw [gq hxl]; rw [show qb x = [x] from (by unfold qb; rw [if_neg h10, if_neg h9, if_neg h92, if_neg h39, if_neg h32, if_neg h126])]; first | exact M13 | (have h := M13; simp only [List.append_assoc] at h; exact h)⟩)
 ·
  have hic := of_decide_eq_false hic;obtain rfl : i = ua.s.size := by omega
  rw [List.take_of_length_le (by omega)] at MI hML hM0;refine oe (qg (qg (vu (zk (srx (za rfl (zd en44 rfl ((xw _ lo gb _ (Or.inr rfl) (gc ua.s.data.toList) (by first | omega | (simp only [List.length_append, List.length_cons, List.length_nil]; omega)) (fun q => hi ≤ q ∧ (0 < ua.s.size → q ≠ gx)) MI hgb (hFz XI) 39).mono ?_))))))))
  rintro e w18 ⟨rfl, M14, X14⟩;refine ⟨_, rfl, ?_⟩;have T14 := XI.step X14 (fun q hq => Or.inl hq);refine rnx (srx (za rfl (zd en46 rfl (((Tryz.Builder_String_any lo gb _ _ (Bld.lib M14 (Or.inr rfl) hgb) (by have := T14.size; have := T1.size; omega))).mono ?_))));rintro e w19 ⟨rfl, hb⟩;refine ⟨_, rfl, (anx rfl (zm (zl (rs := [.tmp 2]) (vs := [_]) rfl ⟨rfl, trivial⟩ ?_)))⟩
  exact ⟨rfl, ((T1.step T14 (fun q hq => Or.inl (hq.elim (fun h => by show lo ≤ q; omega) (fun h => by show lo ≤ q; omega)))).step (show Ext (fun q => lo ≤ q) _ _ from ⟨hb.os, hb.tape, hb.output, hb.size, fun k _ hk => hb.block k (Nat.lt_of_not_le hk)⟩) (fun q hq => Or.inl hq)).below (fun q hq => by rw [← hlo]; exact hq)⟩
end
end Go.Proofs.YtaleikoeklemmaaGreatDoor
namespace Go.Proofs.YtaleikoeklemmaaGreatDoor
open Go.RowKit
set_option maxRecDepth 100000
attribute [local irreducible] OW RS
section
variable (w : World) (ua ub : PV) (A1 B1 A2 B2 : Option Addr) (c1 d1 c2 d2 : Nat) (hx : Nums w A1 ua.xs) (hl : ua.xs.length ≤ 9223372036854775807) (ha : ua.bits < 18446744073709551616) (hy : Nums w A2 ub.xs) (hl' : ub.xs.length ≤ 9223372036854775807) (hb0 : ub.bits < 18446744073709551616) (g1 : ua.good = true) (g2 : ub.good = true)
include hx g1
include hl ha hy hl' hb0 g2
end
end Go.Proofs.YtaleikoeklemmaaGreatDoor
namespace Go.Proofs.YtaleikoeklemmaaGreatDoor
open Go.RowKit
set_option maxRecDepth 100000
attribute [local irreducible] OW RS
theorem add_v : (2 : Int) = outV (yb false [1] && yb false [1]) (num false [1] + num false [1]) := by
 have h := ve (i := 1) (by decide);rw [zgz] at h;have h : yb false [1] = true := h;rw [h, num_1];exact (oc (by decide)).symm
theorem add_f : (0 : Int) = outE (yb false [1] && yb false [1]) (num false [1] + num false [1]) := by
 have h := ve (i := 1) (by decide);rw [zgz] at h;have h : yb false [1] = true := h;rw [h, num_1];exact (od (by decide)).symm
theorem CntV.own {w : World} {A1 A : Option Addr} {xs ys : List Nat} (h : CntV w A1 A xs ys) (hne : ys ≠ xs) : Nums w A ys := h.resolve_left (fun e => hne e.2)
def pvT : PV := ⟨1, true, false, [], 0, ⟨#[]⟩, 0⟩
def pvO : PV := ⟨2, false, false, [1], 0, ⟨#[]⟩, 0⟩
theorem sameB_self (n : Bool) (xs : List Nat) : zfv n xs n xs = true := by unfold zfv; simp
theorem pvT_good : PV.good pvT = true := by unfold PV.good pvT; simp
theorem pvO_good : PV.good pvO = true := by
 have h := ve (i := 1) (by decide);rw [zgz] at h;have h : yb false [1] = true := h;unfold PV.good pvO;simp [h]
theorem per_ownB {X : Nat → Prop} {w : World} {lo base c : Nat} {A : Option Addr} {xs : List Nat} (h : Own w base A c xs) (hX : ∀ k, X k → k < base) (hb : lo ≤ base) : Per X w (fun b => Own b lo A c xs) := fun b E => ⟨owns_base (gy h.1 E (fun q hq hx => by have := owns_ge h.1 q hq; have := hX q hx; omega)) hb, h.2⟩
section
variable (w : World)
theorem pl_cnt (ua : PV) (A1 B1 : Option Addr) (c1 d1 : Nat) (n : Bool) (xs : List Nat) (hn : ua.cn = n) (hc : ua.cx = xs) : Calls Tryz.prog 37 #[.agg #[.int .i64 ua.k, .bool ua.yes, .bool ua.neg, .slice A1 ua.xs.length c1, .int .u64 ((ua.bits : Nat) : Int), .string ua.s, .slice B1 ua.ni d1]] w (RetCnt w A1 n ua.xs xs) := by
 subst hn hc;exact oq w ua A1 B1 c1 d1
theorem rl_boolv (b : Bool) : Calls Tryz.prog 18 #[.bool b] w fun e w' => e = .returned (.agg #[.int .i64 1, .bool b, .bool false, .slice none 0 0, .int .u64 0, .string ⟨#[]⟩, .slice none 0 0]) ∧ Below w.heap.size w w' := by
 refine zr Tryz.func18 rfl Tryz.ntmps18 rfl (srx (za rfl (qd zr28 ?_)));rintro gR wB BY E2 G2;refine rnx (srx (mvx rfl (za rfl (kt (cs := #[.int .i64 1, .bool b, .bool false, .slice none 0 0, .int .u64 0, .string ⟨#[]⟩, .slice none 0 0]) pl28 zr28 rfl rfl (qo (vv yk rfl rfl BY rfl rfl rfl ?_))))));rintro wC BYd E4
 refine rnx (zm (zl (rs := [.cell 2 28]) (vs := [_]) rfl ⟨⟨_, rfl, jc Tryz.underlying28 rfl yk BYd rfl⟩, trivial⟩ ?_));exact ⟨rfl, (E2.step E4 (fun q hq => Or.inr (by have := zaz hq; omega))).toBelow⟩
theorem rl_strv (s : ByteArray) : Calls Tryz.prog 23 #[.string s] w fun e w' => e = .returned (.agg #[.int .i64 4, .bool false, .bool false, .slice none 0 0, .int .u64 0, .string s, .slice none 0 0]) ∧ Below w.heap.size w w' := by
 refine zr Tryz.func23 rfl Tryz.ntmps23 rfl (srx (za rfl (qd zr28 ?_)));rintro gR wB BY E2 G2;refine rnx (srx (mvx rfl (za rfl (kt (cs := #[.int .i64 4, .bool false, .bool false, .slice none 0 0, .int .u64 0, .string s, .slice none 0 0]) pl28 zr28 rfl rfl (qo (vv yk rfl rfl BY rfl rfl rfl ?_))))));rintro wC BYd E4
 refine rnx (zm (zl (rs := [.cell 2 28]) (vs := [_]) rfl ⟨⟨_, rfl, jc Tryz.underlying28 rfl yk BYd rfl⟩, trivial⟩ ?_));exact ⟨rfl, (E2.step E4 (fun q hq => Or.inr (by have := zaz hq; omega))).toBelow⟩
def RetIV (W : World) (i : Int) (e : Ending) (w' : World) : Prop := ∃ A c, e = .returned (.agg #[.int .i64 2, .bool false, .bool (decide (i < 0)), .slice A (limbs i).length c, .int .u64 0, .string ⟨#[]⟩, .slice none 0 0]) ∧ Own w' W.heap.size A c (limbs i) ∧ Below W.heap.size W w'
theorem rl_intv (A : Option Addr) (c : Nat) (i : Int) (hx : Nums8 w A (tens i)) (hl : (tens i).length ≤ 1048576) : Calls Tryz.prog 19 #[.agg #[.bool (decide (i < 0)), .slice A (tens i).length c]] w (RetIV w i) := by
 refine zr Tryz.func19 rfl Tryz.ntmps19 rfl (srx (za rfl (zx rfl ?_)));rintro gA wA BX E1 G1;refine za rfl (qd zr28 ?_);rintro gR wB BY E2 G2;have BXb := BX.ext E2 (fun h => h.elim);have E12 := E1.trans E2;have hs := E12.size
 refine rnx (srx (za rfl (zo Tryz.underlying45 rfl sz45 rfl BXb rfl (za rfl (zd en42 rfl ((rto_any A c i _ (Per.nums80 hx _ E12) hl).mono ?_))))));rintro e w1 ⟨A3, c3, rfl, hO, hb⟩;refine ⟨_, rfl, ?_⟩;have E3 := Ext.of_below hb No;have BYc := BY.ext E3 (fun h => h.elim)
 refine za rfl (kt (cs := #[.int .i64 2, .bool false, .bool (decide (i < 0)), .slice A3 (limbs i).length c3, .int .u64 0, .string ⟨#[]⟩, .slice none 0 0]) pl28 zr28 rfl rfl (qo (vv yk rfl rfl BYc rfl rfl rfl ?_)));rintro wC BYd E4;refine rnx (zm (zl (rs := [.cell 2 28]) (vs := [_]) rfl ⟨⟨_, rfl, jc Tryz.underlying28 rfl yk BYd rfl⟩, trivial⟩ ?_))
 exact ⟨A3, c3, rfl, ot hO E4 BY.lt hs, ((E12.trans E3).step E4 (fun q hq => Or.inr (by have := zaz hq; have := E1.size; omega))).toBelow⟩
theorem pl_ofint (A : Option Addr) (c : Nat) (n : Bool) (xs : List Nat) : Calls Tryz.prog 67 #[.agg #[.bool n, .slice A xs.length c]] w fun e w' => e = .returned (.agg #[.int .i64 2, .bool false, .bool n, .slice A xs.length c, .int .u64 0, .string ⟨#[]⟩, .slice none 0 0]) ∧ Below w.heap.size w w' := by
 refine zr Tryz.func67 rfl Tryz.ntmps67 rfl (srx (za rfl (zx rfl ?_)));rintro gA wA BX E1 G1;refine za rfl (qd zr28 ?_);rintro gR wB BY E2 G2;have BXb := BX.ext E2 (fun h => h.elim);have E12 := E1.trans E2;have hs := E12.size
 refine rnx (srx (za rfl (zo Tryz.underlying24 rfl yy rfl BXb rfl (za rfl (kt (cs := #[.int .i64 2, .bool false, .bool n, .slice A xs.length c, .int .u64 0, .string ⟨#[]⟩, .slice none 0 0]) pl28 zr28 rfl rfl (qo (vv yk rfl rfl BY rfl rfl rfl ?_)))))));rintro wC BYd E4
 refine rnx (zm (zl (rs := [.cell 2 28]) (vs := [_]) rfl ⟨⟨_, rfl, jc Tryz.underlying28 rfl yk BYd rfl⟩, trivial⟩ ?_));exact ⟨rfl, (E12.step E4 (fun q hq => Or.inr (by have := zaz hq; have := E1.size; omega))).toBelow⟩
theorem pl_wadd (A B : Option Addr) (c d : Nat) (xs ys : List Nat) (n1 n2 : Bool) (v f : Int) (hv : v = outV (yb n1 xs && yb n2 ys) (num n1 xs + num n2 ys)) (hf : f = outE (yb n1 xs && yb n2 ys) (num n1 xs + num n2 ys)) (hx : Nums w A xs) (hy : Nums w B ys) (hl : xs.length ≤ 9223372036854775807) (hl' : ys.length ≤ 9223372036854775807) :
 Calls Tryz.prog 66 #[.int .i64 1, .agg #[.bool n1, .slice A xs.length c], .agg #[.bool n2, .slice B ys.length d]] w (yw w v f) := by
 refine zr Tryz.func66 rfl Tryz.ntmps66 rfl (srx (za rfl (zx rfl ?_)));rintro gA wA BX E1 G1;refine za rfl (zx rfl ?_);rintro gC wC BZ E2 G2;refine za rfl (qd xe ?_);rintro gR wB BY E3 G3;have BXb := (BX.ext E2 (fun h => h.elim)).ext E3 (fun h => h.elim);have BZb := BZ.ext E3 (fun h => h.elim);have E12 := (E1.trans E2).trans E3;have hs := E12.size
 refine anx rfl (zj (srx (mvx rfl (rnx (yi (srx (za rfl (ya rfl rfl (anx rfl (yc rfl (srx (za rfl (zo Tryz.underlying24 rfl yy rfl BXb rfl (za rfl (zo Tryz.underlying24 rfl yy rfl BZb rfl ?_)))))))))))))));have hadd := add_any A B c d xs ys wB n1 n2 (Per.nums0 hx _ E12) (Per.nums0 hy _ E12) hl hl';rw [← hv, ← hf] at hadd
 refine za rfl (zd en95 rfl ((hadd).mono ?_));rintro e w1 ⟨A3, c3, rfl, hO, hb⟩;refine ⟨_, rfl, ?_⟩;have E4 := Ext.of_below hb No;have BYc := BY.ext E4 (fun h => h.elim);refine za rfl (zn rfl rfl (za rfl (zn rfl rfl (qo (vv yy rfl rfl BYc rfl rfl rfl ?_)))));rintro wD BYd E5
 refine anx rfl (zm (zv (zg (zl (rs := [.cell 6 24, .tmp 7]) (vs := [_, _]) rfl ⟨⟨_, rfl, jc Tryz.underlying24 rfl yy BYd rfl⟩, rfl, trivial⟩ ?_))));exact ⟨A3, c3, rfl, ot hO E5 BY.lt hs, ((E12.trans E4).step E5 (fun q hq => Or.inr (by have := zaz hq; have := E1.size; have := E2.size; omega))).toBelow⟩
theorem num_known (A : Option Addr) (c : Nat) (hx : Nums w A [1]) : Calls Tryz.prog 39 #[.int .i64 1, .agg #[.int .i64 1, .bool true, .bool false, .slice none 0 0, .int .u64 0, .string ⟨#[]⟩, .slice none 0 0], .agg #[.int .i64 2, .bool false, .bool false, .slice A 1 c, .int .u64 0, .string ⟨#[]⟩, .slice none 0 0]] w fun e w' => ∃ A4 c4, e = .returned (.tuple #[.agg #[.int .i64 2, .bool false, .bool (decide (2 < 0)), .slice A4 (limbs 2).length c4, .int .u64 0, .string ⟨#[]⟩, .slice none 0 0], .int .i64 0]) ∧ Own w' w.heap.size A4 c4 (limbs 2) ∧ Below w.heap.size w w' := by
 refine zr Tryz.func39 rfl Tryz.ntmps39 rfl (srx (za rfl (zx rfl ?_)));rintro gA wA BX E1 G1;refine za rfl (zx rfl ?_);rintro gC wC BZ E2 G2;refine za rfl (qd zr28 ?_);rintro gR wB BY E3 G3;have BXb := (BX.ext E2 (fun h => h.elim)).ext E3 (fun h => h.elim);have BZb := BZ.ext E3 (fun h => h.elim);have E12 := (E1.trans E2).trans E3;have hs := E12.size
 refine anx rfl (srx (za rfl (zb Tryz.underlying28 rfl sz3 (by decide) rfl (za rfl (zf Tryz.underlying3 rfl rfl BXb rfl (za rfl (ya rfl rfl (mvx rfl (onx rfl (zb Tryz.underlying28 rfl sz3 (by decide) rfl (onx rfl (zf Tryz.underlying3 rfl rfl BZb rfl (onx rfl (ya rfl rfl (za rfl (zh rfl rfl (anx rfl (zj (srx (mvx rfl (mvx rfl (za rfl (zc rfl (za rfl (zc rfl (za rfl (zh rfl rfl (rnx (zp rfl (zq (zk (zj (srx (mvx rfl (za rfl (yf rfl (mvx rfl (onx rfl (zy rfl (onx rfl (qc rfl rfl (za rfl (zt rfl rfl (rnx ?_))))))))))))))))))))))))))))))))))))))))))))
 refine yc rfl (zj ?_);refine jb (No) Mut.none_ [⟨9, 10, 24, #[.bool false, .slice none 0 0]⟩] [] (zmq [Fx.of (.int .i64 1),
  Fx.of (.agg #[.int .i64 1, .bool true, .bool false, .slice none 0 0, .int .u64 0, .string ⟨#[]⟩, .slice none 0 0]),
  ⟨(Option Addr × Nat), fun (A5, c5) => .agg #[.bool false, .slice A5 1 c5], fun (A5, c5) b => (CntV b none A5 [] [1])⟩,
  Fx.of (.agg #[.int .i64 2, .bool false, .bool false, .slice A 1 c, .int .u64 0, .string ⟨#[]⟩, .slice none 0 0]),
  ⟨(Option Addr × Nat), fun (A6, c6) => .agg #[.bool false, .slice A6 1 c6], fun (A6, c6) b => (CntV b A A6 [1] [1])⟩,
  ⟨(Option Addr × Nat), fun (A7, c7) => .tuple #[.agg #[.bool (decide ((2 : Int) < 0)), .slice A7 (limbs 2).length c7], .int .i64 0], fun (A7, c7) b => (Own b wB.heap.size A7 c7 (limbs 2))⟩,
  ⟨(Option Addr × Nat), fun (A7, c7) => .tuple #[.agg #[.bool (decide ((2 : Int) < 0)), .slice A7 (limbs 2).length c7], .int .i64 0], fun (A7, c7) b => (Own b wB.heap.size A7 c7 (limbs 2))⟩,
  ⟨(Option Addr × Nat), fun (A7, c7) => .agg #[.bool (decide ((2 : Int) < 0)), .slice A7 (limbs 2).length c7], fun (A7, c7) b => (Own b wB.heap.size A7 c7 (limbs 2))⟩,
  Fx.of (.int .i64 0),
  Fx.of undef,
  Fx.of undef,
  Fx.of (.int .i64 0)]) mixed rfl trivial (fun _ h => by cases h) ?_ ?_
 · refine ⟨?_, ?_, ?_, ?_, ?_, ?_, ?_, ?_, ?_, ?_, ?_, ?_, trivial⟩
   · intro vs X wq K;exact zy rfl ⟨Below.refl _ _, Left.of rfl⟩
   · intro vs X wq K;have LE := K.1;exact zo Tryz.underlying28 rfl yk rfl (BXb.ext ((Ext.refl No _).drew.trans LE) (fun h ↦ h.elim)) rfl ⟨Below.refl _ _, Left.of rfl⟩
   · intro vs X wq K;have XN := K.2.1;obtain ⟨_, e1, k1⟩ := K.dep 1 rfl rfl rfl;refine ze 37 (.agg #[.int .i64 1, .bool true, .bool false, .slice none 0 0, .int .u64 0, .string ⟨#[]⟩, .slice none 0 0]) rfl e1 (zd en37 rfl ((pl_cnt _ pvT none none 0 0 false [1] rfl rfl).mono ?_));rintro e w2 ⟨A5, c5, rfl, hN, hb⟩;exact ⟨_, rfl, hb, ⟨(A5, c5), rfl, zkz hN XN⟩⟩
   · intro vs X wq K;have LE := K.1;exact zo Tryz.underlying28 rfl yk rfl (BZb.ext ((Ext.refl No _).drew.trans LE) (fun h ↦ h.elim)) rfl ⟨Below.refl _ _, Left.of rfl⟩
   · intro vs X wq K;have XN := K.2.1;obtain ⟨_, e3, k3⟩ := K.dep 3 rfl rfl rfl;refine ze 39 (.agg #[.int .i64 2, .bool false, .bool false, .slice A 1 c, .int .u64 0, .string ⟨#[]⟩, .slice none 0 0]) rfl e3 (zd en37 rfl ((pl_cnt _ pvO A none c 0 false [1] rfl rfl).mono ?_));rintro e w2 ⟨A6, c6, rfl, hN, hb⟩;exact ⟨_, rfl, hb, ⟨(A6, c6), rfl, zkz hN XN⟩⟩
   · intro vs X wq K;have LE := K.1;have XN := K.2.1;obtain ⟨_, e0, k0⟩ := K.dep 0 rfl rfl rfl;refine ze 36 (.int .i64 1) rfl e0 ?_;obtain ⟨⟨A5, c5⟩, e2, k2⟩ := K.dep 2 rfl rfl rfl;refine ze 38 (.agg #[.bool false, .slice A5 1 c5]) rfl e2 ?_;obtain ⟨⟨A6, c6⟩, e4, k4⟩ := K.dep 4 rfl rfl rfl
     refine ze 40 (.agg #[.bool false, .slice A6 1 c6]) rfl e4 (zd en66 rfl ((pl_wadd _ A5 A6 c5 c6 [1] [1] false false 2 0 add_v add_f ((k2.here).own (by decide)) ((k4.here).nums (Per.nums0 hx _ (E12.trans ((Ext.refl No _).drew.trans LE)))) (by decide) (by decide)).mono ?_));rintro e w2 ⟨A7, c7, rfl, hO, hb⟩;exact ⟨_, rfl, hb, ⟨(A7, c7), rfl, per_ownB hO XN LE.size⟩⟩
   · intro vs X wq K;obtain ⟨⟨A7, c7⟩, e5, k5⟩ := K.dep 5 rfl rfl rfl;refine ze 41 (.tuple #[.agg #[.bool (decide ((2 : Int) < 0)), .slice A7 (limbs 2).length c7], .int .i64 0]) rfl e5 ?_;exact zy rfl ⟨Below.refl _ _, ⟨⟨A7, c7⟩, rfl, (k5.map (fun _ h => h))⟩⟩
   · intro vs X wq K;obtain ⟨⟨A7, c7⟩, e6, k6⟩ := K.dep 6 rfl rfl rfl;refine ze 35 (.tuple #[.agg #[.bool (decide ((2 : Int) < 0)), .slice A7 (limbs 2).length c7], .int .i64 0]) rfl e6 ?_;exact zn rfl rfl ⟨Below.refl _ _, ⟨⟨A7, c7⟩, rfl, (k6.map (fun _ h => h))⟩⟩
   · intro vs X wq K;obtain ⟨⟨A7, c7⟩, e6, k6⟩ := K.dep 6 rfl rfl rfl;refine ze 35 (.tuple #[.agg #[.bool (decide ((2 : Int) < 0)), .slice A7 (limbs 2).length c7], .int .i64 0]) rfl e6 ?_;exact zn rfl rfl ⟨Below.refl _ _, Left.of rfl⟩
   · exact ⟨_, _, _, _, _, rfl, xe, rfl⟩
   · refine ⟨_, _, _, _, _, rfl, rfl, rfl, yy, fun vs X wq K => ?_⟩;obtain ⟨⟨A7, c7⟩, e0, _⟩ := K.dep 7 rfl rfl rfl;exact ⟨vs 7, rfl, by rw [e0]; rfl, by rw [e0]; rfl⟩
   · intro vs X wq K;obtain ⟨_, e8, k8⟩ := K.dep 8 rfl rfl rfl;refine ze 43 (.int .i64 0) rfl e8 ?_;exact qr rfl ⟨Below.refl _ _, Left.of rfl⟩
 intro vs w1 LE AO AL AF AA;have hbd : Below (wB).heap.size (wB) w1 := (((Ext.refl No (wB)).drew).trans LE).toBelow;obtain ⟨⟨A7, c7⟩, e7, k7⟩ := AL.2.2.2.2.2.2.2.1;obtain ⟨_, e11, k11⟩ := AL.2.2.2.2.2.2.2.2.2.2.2.1;have Wc5 := k7.here;obtain ⟨gX0, v0, y0, qX0, GX0, BX0, ey, ev0⟩ := AF.1;cases ey
 obtain rfl : vs 7 = v0 := Option.some.inj ev0;rw [e7] at BX0;have BX0 : Blk w1 gX0 24 #[.bool (decide ((2 : Int) < 0)), .slice A7 (limbs 2).length c7] := BX0;have e9 := qX0;refine gu (τ := [(0, _), (4, _), (5, _), (6, _), (7, _), (8, _), (9, .pointer (some ⟨gX0, 0, none⟩)), (10, .int .i64 0)]) ⟨rfl, rfl, rfl, rfl, rfl, rfl, congrArg some e9, congrArg some e11, trivial⟩ ?_;clear AL AF AA AO
 have E5 := Ext.of_below hbd No;have BYc := BY.ext E5 (fun h => h.elim);refine zk (zj (srx (mvx rfl (za rfl (qc rfl rfl (rnx (zp rfl (zq (zk (srx (za rfl (zo Tryz.underlying24 rfl yy rfl BX0 rfl (za rfl (zd en67 rfl ((pl_ofint _ A7 c7 (decide ((2 : Int) < 0)) (limbs 2)).mono ?_)))))))))))))));rintro e w2 ⟨rfl, hb⟩;refine ⟨_, rfl, ?_⟩
 have E6 := Ext.of_below hb No;have BYd := BYc.ext E6 (fun h => h.elim);have hN7 : Own w2 wB.heap.size A7 c7 (limbs 2) := ⟨gy Wc5.1 E6 (fun _ _ h => h.elim), Wc5.2⟩;refine qo (vv yk rfl rfl BYd rfl rfl rfl ?_);rintro wD BYe E7
 refine anx rfl (zm (zg (zl (rs := [.cell 6 28, .tmp 7]) (vs := [_, _]) rfl ⟨⟨_, rfl, jc Tryz.underlying28 rfl yk BYe rfl⟩, rfl, trivial⟩ ?_)));exact ⟨A7, c7, rfl, ot hN7 E7 BY.lt hs, (((E12.trans E5).trans E6).step E7 (fun q hq => Or.inr (by have := zaz hq; have := E1.size; have := E2.size; omega))).toBelow⟩
theorem bin_known (A : Option Addr) (c : Nat) (hx : Nums w A [1]) : Calls Tryz.prog 17 #[.int .i64 1, .agg #[.int .i64 1, .bool true, .bool false, .slice none 0 0, .int .u64 0, .string ⟨#[]⟩, .slice none 0 0], .agg #[.int .i64 2, .bool false, .bool false, .slice A 1 c, .int .u64 0, .string ⟨#[]⟩, .slice none 0 0]] w fun e w' => ∃ A4 c4, e = .returned (.tuple #[.agg #[.int .i64 2, .bool false, .bool (decide (2 < 0)), .slice A4 (limbs 2).length c4, .int .u64 0, .string ⟨#[]⟩, .slice none 0 0], .int .i64 0]) ∧ Own w' w.heap.size A4 c4 (limbs 2) ∧ Below w.heap.size w w' := by
 refine zr Tryz.func17 rfl Tryz.ntmps17 rfl (srx (za rfl (zx rfl ?_)));rintro gA wA BX E1 G1;refine za rfl (zx rfl ?_);rintro gC wC BZ E2 G2;refine za rfl (qd zr28 ?_);rintro gR wB BY E3 G3;have BXb := (BX.ext E2 (fun h => h.elim)).ext E3 (fun h => h.elim);have BZb := BZ.ext E3 (fun h => h.elim);have E12 := (E1.trans E2).trans E3;have hs := E12.size
 refine anx rfl (zj (srx (za rfl (zo Tryz.underlying28 rfl yk rfl BXb rfl (za rfl (zd jg rfl ((yu _ pvT none none 0 0 zhx (by decide) true pvT_good).mono ?_)))))));rintro e w1 ⟨rfl, hb⟩;refine ⟨_, rfl, ?_⟩;have F1 := Ext.of_below hb No;have E13 := E12.trans F1;have BX1 := BXb.ext F1 (fun h => h.elim);have BZ1 := BZb.ext F1 (fun h => h.elim)
 have BY1 := BY.ext F1 (fun h => h.elim);refine za rfl (yf rfl (mvx rfl (onx rfl (zo Tryz.underlying28 rfl yk rfl BZ1 rfl (onx rfl (zd jg rfl ((yu _ pvO A none c 0 (Per.nums0 hx _ E13) (by decide) true pvO_good).mono ?_)))))));rintro e w2 ⟨rfl, hb⟩;refine ⟨_, rfl, ?_⟩;have F2 := Ext.of_below hb No;have E14 := E13.trans F2;have BX2 := BX1.ext F2 (fun h => h.elim)
 have BZ2 := BZ1.ext F2 (fun h => h.elim);have BY2 := BY1.ext F2 (fun h => h.elim)
 refine onx rfl (yf rfl (za rfl (zh rfl rfl (rnx (zp rfl (zq (zk (zj (srx (mvx rfl (za rfl (jy rfl rfl (mvx rfl (onx rfl (zy rfl (onx rfl (gg rfl rfl (za rfl (zh rfl rfl (rnx (zp rfl (zq (zk (zj (yi (srx (za rfl (zo Tryz.underlying28 rfl yk rfl BX2 rfl (za rfl (zd en26 rfl ((xb _ pvT none none 0 0 true rfl).mono ?_)))))))))))))))))))))))))))))))
 rintro e w3 ⟨rfl, hb⟩;refine ⟨_, rfl, ?_⟩;have F3 := Ext.of_below hb No;have E15 := E14.trans F3;have BX3 := BX2.ext F3 (fun h => h.elim);have BZ3 := BZ2.ext F3 (fun h => h.elim);have BY3 := BY2.ext F3 (fun h => h.elim);refine mvx rfl (onx rfl (zo Tryz.underlying28 rfl yk rfl BZ3 rfl (onx rfl (zd en26 rfl ((xb _ pvO A none c 0 true rfl).mono ?_)))));rintro e w4 ⟨rfl, hb⟩
 refine ⟨_, rfl, ?_⟩;have F4 := Ext.of_below hb No;have E16 := E15.trans F4;have BX4 := BX3.ext F4 (fun h => h.elim);have BZ4 := BZ3.ext F4 (fun h => h.elim);have BY4 := BY3.ext F4 (fun h => h.elim)
 refine za rfl (zt rfl rfl (anx rfl (yc rfl (srx (mvx rfl (za rfl (zo Tryz.underlying28 rfl yk rfl BX4 rfl (za rfl (zo Tryz.underlying28 rfl yk rfl BZ4 rfl (za rfl (zd en39 rfl ((num_known _ A c (Per.nums0 hx _ E16)).mono ?_))))))))))));rintro e w5 ⟨A4, c4, rfl, hO, hb⟩;refine ⟨_, rfl, ?_⟩;have F5 := Ext.of_below hb No
 have BY5 := BY4.ext F5 (fun h => h.elim);refine za rfl (zn rfl rfl (za rfl (zn rfl rfl (qo (vv yk rfl rfl BY5 rfl rfl rfl ?_)))));rintro wD BYe E7;refine anx rfl (zm (zv (zg (zl (rs := [.cell 6 28, .tmp 7]) (vs := [_, _]) rfl ⟨⟨_, rfl, jc Tryz.underlying28 rfl yk BYe rfl⟩, rfl, trivial⟩ ?_))))
 exact ⟨A4, c4, rfl, ot hO E7 BY4.lt E16.size, ((E16.trans F5).step E7 (fun q hq => Or.inr (by have := zaz hq; have := E1.size; have := E2.size; omega))).toBelow⟩
theorem rl_is (A B : Option Addr) (c d : Nat) (n : Bool) (xs : List Nat) (hx : Nums w A xs) (hy : Nums w B xs) (hl : xs.length ≤ 1048576) : Calls Tryz.prog 21 #[.agg #[.int .i64 2, .bool false, .bool n, .slice A xs.length c, .int .u64 0, .string ⟨#[]⟩, .slice none 0 0], .agg #[.int .i64 2, .bool false, .bool n, .slice B xs.length d, .int .u64 0, .string ⟨#[]⟩, .slice none 0 0]] w fun e w' => e = .returned (.bool true) ∧ Below w.heap.size w w' := by
 refine zr Tryz.func21 rfl Tryz.ntmps21 rfl (srx (za rfl (zx rfl ?_)));rintro gA wA BX E1 G1;refine za rfl (zx rfl ?_);rintro gC wC BZ E2 G2;have BXb := BX.ext E2 (fun h => h.elim);have E12 := E1.trans E2;have hs := E12.size
 refine anx rfl (zj (srx (za rfl (zb Tryz.underlying28 rfl sz3 (by decide) rfl (za rfl (zf Tryz.underlying3 rfl rfl BXb rfl (za rfl (zb Tryz.underlying28 rfl sz3 (by decide) rfl (za rfl (zf Tryz.underlying3 rfl rfl BZ rfl (za rfl (qc rfl rfl (mvx rfl (onx rfl (zb Tryz.underlying28 rfl sz4 (by decide) rfl (onx rfl (zf Tryz.underlying4 rfl rfl BXb rfl (onx rfl (zb Tryz.underlying28 rfl sz4 (by decide) rfl (onx rfl (zf Tryz.underlying4 rfl rfl BZ rfl (onx rfl (ob Tryz.underlying4 rfl rfl (za rfl (zh rfl rfl (mvx rfl (onx rfl (zb Tryz.underlying28 rfl xa (by decide) rfl (onx rfl (zf Tryz.underlying25 rfl rfl BXb rfl (onx rfl (zb Tryz.underlying28 rfl xa (by decide) rfl (onx rfl (zf Tryz.underlying25 rfl rfl BZ rfl (onx rfl (qc rfl rfl (za rfl (zh rfl rfl (mvx rfl (onx rfl (zb Tryz.underlying28 rfl sz9 (by decide) rfl (onx rfl (zf Tryz.underlying9 rfl rfl BXb rfl (onx rfl (zb Tryz.underlying28 rfl sz9 (by decide) rfl (onx rfl (zf Tryz.underlying9 rfl rfl BZ rfl (onx rfl (zkq rfl rfl (zz 30 (.bool false) rfl (by simp only [bytes_list]; rfl : (.bool (!((⟨#[]⟩ : ByteArray).toList == (⟨#[]⟩ : ByteArray).toList)) : Value) = _) (za rfl (zh rfl rfl (mvx rfl (onx rfl (zb Tryz.underlying28 rfl yy (by decide) rfl (onx rfl (yh (cs := #[.bool n, .slice A xs.length c]) Tryz.underlying24 rfl yy rfl rfl (zvq (BXb.cell 2) (BXb.cell 3)) (onx rfl (zb Tryz.underlying28 rfl yy (by decide) rfl (onx rfl (yh (cs := #[.bool n, .slice B xs.length d]) Tryz.underlying24 rfl yy rfl rfl (zvq (BZ.cell 2) (BZ.cell 3)) (onx rfl (zd en34 rfl ((sameB_self n xs ▸ rsame_any A B c d xs xs _ n n (Per.nums0 hx _ E12) (Per.nums0 hy _ E12) hl hl).mono ?_))))))))))))))))))))))))))))))))))))))))))))))))))))))))))))))))
 rintro e w1 ⟨rfl, hb⟩;refine ⟨_, rfl, ?_⟩;have F1 := Ext.of_below hb No;have BX1 := BXb.ext F1 (fun h => h.elim);have BZ1 := BZ.ext F1 (fun h => h.elim)
 refine onx rfl (yf rfl (za rfl (zh rfl rfl (mvx rfl (onx rfl (zb Tryz.underlying28 rfl sz26 (by decide) rfl (onx rfl (zf Tryz.underlying26 rfl rfl BX1 rfl (onx rfl (vq Tryz.underlying26 rfl (zz 43 (.int .i64 0) rfl (by kernel_rfl : (.int .i64 (0 : Nat) : Value) = _) (onx rfl (zb Tryz.underlying28 rfl sz26 (by decide) rfl (onx rfl (zf Tryz.underlying26 rfl rfl BZ1 rfl (onx rfl (vq Tryz.underlying26 rfl (zz 46 (.int .i64 0) rfl (by kernel_rfl : (.int .i64 (0 : Nat) : Value) = _) (onx rfl (qc rfl rfl (za rfl (zh rfl rfl (rnx (zp rfl (zq (zk (zj (srx (anx rfl (yi (ztk (ι := Unit) (fun _ => [(2, .pointer (some ⟨gA, 0, none⟩)), (5, .int .i64 0)]) (fun _ z => Ext No w z ∧ Blk z gA 28 #[.int .i64 2, .bool false, .bool n, .slice A xs.length c, .int .u64 0, .string ⟨#[]⟩, .slice none 0 0]) (fun _ => 0) () ⟨rfl, rfl, trivial⟩ (⟨E12.trans F1, BX1⟩) ?_)))))))))))))))))))))))))))))))
 rintro _ w3 ⟨E13, BX3⟩
 refine zj (srx (mvx rfl (za rfl (zb Tryz.underlying28 rfl sz26 (by decide) rfl (za rfl (zf Tryz.underlying26 rfl rfl BX3 rfl (za rfl (vq Tryz.underlying26 rfl (zz 52 (.int .i64 0) rfl (by kernel_rfl : (.int .i64 (0 : Nat) : Value) = _) (za rfl (jy rfl rfl (rnx (zp rfl (oe (qg (qg (vu (zk (srx (anx rfl (zm (zl (rs := [.tmp 4]) (vs := [_]) rfl ⟨rfl, trivial⟩ ?_))))))))))))))))))))))
 exact ⟨rfl, E13.toBelow⟩
theorem bin_known2 (A : Option Addr) (c : Nat) (hx : Nums w A (limbs 1)) : Calls Tryz.prog 17 #[.int .i64 1, .agg #[.int .i64 1, .bool true, .bool false, .slice none 0 0, .int .u64 0, .string ⟨#[]⟩, .slice none 0 0], .agg #[.int .i64 2, .bool false, .bool (decide (1 < 0)), .slice A (limbs 1).length c, .int .u64 0, .string ⟨#[]⟩, .slice none 0 0]] w fun e w' => ∃ A4 c4, e = .returned (.tuple #[.agg #[.int .i64 2, .bool false, .bool (decide (2 < 0)), .slice A4 (limbs 2).length c4, .int .u64 0, .string ⟨#[]⟩, .slice none 0 0], .int .i64 0]) ∧ Own w' w.heap.size A4 c4 (limbs 2) ∧ Below w.heap.size w w' := by
 rw [zgz] at hx ⊢;exact bin_known w A c hx
theorem quote_k : Calls Tryz.prog 22 #[.agg #[.int .i64 4, .bool false, .bool false, .slice none 0 0, .int .u64 0, .string ⟨#[97, 39, 10, 200]⟩, .slice none 0 0]] w fun e w' => e = .returned (.string ⟨#[39, 97, 92, 39, 92, 110, 92, 120, 99, 56, 39]⟩) ∧ Below w.heap.size w w' :=
 pl_quote w ⟨4, false, false, [], 0, ⟨#[97, 39, 10, 200]⟩, 0⟩ none none 0 0 zhx (by decide) (by unfold PV.good; simp; decide) rfl (by decide)
theorem hash_k : Calls Tryz.prog 13 #[.agg #[.int .i64 4, .bool false, .bool false, .slice none 0 0, .int .u64 0, .string ⟨#[97]⟩, .slice none 0 0]] w fun e w' => e = .returned (.int .i64 129) ∧ Below w.heap.size w w' := by
 have h := pl_hash w ⟨4, false, false, [], 0, ⟨#[97]⟩, 0⟩ none none 0 0 zhx (by decide) (by decide);have e : jl ⟨4, false, false, [], 0, ⟨#[97]⟩, 0⟩ = 129 := by
  have hg : PV.good ⟨4, false, false, [], 0, ⟨#[97]⟩, 0⟩ = true := by unfold PV.good; simp; decide
  unfold jl;rw [hg, if_pos rfl, if_neg (by decide), if_neg (by decide), if_pos rfl];rfl
 rw [e] at h;exact h
theorem nan_k : qa 9221120237041090560 = 9221120237041090560 := by decide
theorem float_k : Calls Tryz.prog 24 #[.int .u64 9221120237041090560] w fun e w' => e = .returned (.agg #[.int .i64 3, .bool false, .bool false, .slice none 0 0, .int .u64 9221120237041090560, .string ⟨#[]⟩, .slice none 0 0]) ∧ Below w.heap.size w w' := by
 have h := rfloat_any w 9221120237041090560 (by decide);rw [nan_k] at h;exact h
theorem equal_k : Calls Tryz.prog 8 #[.agg #[.int .i64 3, .bool false, .bool false, .slice none 0 0, .int .u64 9221120237041090560, .string ⟨#[]⟩, .slice none 0 0], .agg #[.int .i64 3, .bool false, .bool false, .slice none 0 0, .int .u64 9221120237041090560, .string ⟨#[]⟩, .slice none 0 0]] w fun e w' => e = .returned (.bool false) ∧ Below w.heap.size w w' := by
 have h := kf w ⟨3, false, false, [], 9221120237041090560, ⟨#[]⟩, 0⟩ ⟨3, false, false, [], 9221120237041090560, ⟨#[]⟩, 0⟩ none none none none 0 0 0 0 zhx (by decide) (by decide) zhx (by decide) (by decide);have e : eqV ⟨3, false, false, [], 9221120237041090560, ⟨#[]⟩, 0⟩ ⟨3, false, false, [], 9221120237041090560, ⟨#[]⟩, 0⟩ = false := by
  have hg : PV.good ⟨3, false, false, [], 9221120237041090560, ⟨#[]⟩, 0⟩ = true := by unfold PV.good; simp
  have ho : xy ⟨3, false, false, [], 9221120237041090560, ⟨#[]⟩, 0⟩ ⟨3, false, false, [], 9221120237041090560, ⟨#[]⟩, 0⟩ = false := by decide
  unfold eqV;rw [hg, ho];rfl
 rw [e] at h;exact h
theorem pl_known : Calls Tryz.prog 5 #[] w fun e w' => e = .returned (.bool true) ∧ Below w.heap.size w w' := by
 have ht : ∀ i : Int, i.natAbs < B18 ^ 30 → (tens i).length ≤ 1048576 := fun i h => by have := (tens_540 i).2 h; omega
 have hlb : (limbs 2).length ≤ 1048576 := by have := jp (i := 2) (by decide); omega
 refine zr Tryz.func5 rfl Tryz.ntmps5 rfl (srx (anx rfl (srx (za rfl (zd en18 rfl ((rl_boolv _ true).mono ?_))))));rintro e w1 ⟨rfl, hb⟩;refine ⟨_, rfl, ?_⟩;have E1 := Ext.of_below hb No;refine za rfl (zd en20 rfl ((rint_any 1 _ (by decide) (by decide)).mono ?_));rintro e w2 ⟨A1, c1, rfl, hO1, hb⟩;refine ⟨_, rfl, ?_⟩;have E2 := E1.trans (Ext.of_below hb No)
 refine za rfl (zd en19 rfl ((rl_intv _ A1 c1 1 hO1.nums (ht 1 (by decide))).mono ?_));rintro e w3 ⟨A2, c2, rfl, hO2, hb⟩;refine ⟨_, rfl, ?_⟩;have E3 := E2.trans (Ext.of_below hb No);refine za rfl (zd en17 rfl ((bin_known2 _ A2 c2 hO2.nums).mono ?_));rintro e w4 ⟨A4, c4, rfl, hO4, hb⟩;refine ⟨_, rfl, ?_⟩;have E4 := E3.trans (Ext.of_below hb No)
 refine mvx rfl (za rfl (zn rfl rfl (za rfl (zn rfl rfl (za rfl (qd zr28 ?_))))));rintro gR wB BY E5 G2;refine qo (vv yk rfl rfl BY rfl rfl rfl ?_);rintro wC BZ E6;have hO5 : Own wC _ A4 c4 (limbs 2) := ⟨gy (gy hO4.1 E5 (fun _ _ h => h.elim)) E6 (fun q hq hm => by have := zaz hm; have := owns_lt hO4.1 q hq; omega), hO4.2⟩
 have hN4 := hO5.nums;have E7 : Ext No w wC := (E4.trans E5).step E6 (fun q hq => Or.inr (by have := zaz hq; have := E4.size; omega));refine anx rfl (zj ?_);refine jb (No) Mut.none_ [] [] (zmq [Fx.of (.int .i64 0),
  Fx.of (.bool true),
  Fx.of (.bool true),
  Fx.of (.agg #[.int .i64 2, .bool false, .bool (decide (2 < 0)), .slice A4 (limbs 2).length c4, .int .u64 0, .string ⟨#[]⟩, .slice none 0 0]),
  ⟨(Option Addr × Nat), fun (A5, c5) => .agg #[.bool (decide ((2 : Int) < 0)), .slice A5 (tens 2).length c5], fun (A5, c5) b => (Nums8 b A5 (tens 2))⟩,
  ⟨(Option Addr × Nat), fun (A6, c6) => .agg #[.int .i64 2, .bool false, .bool (decide (2 < 0)), .slice A6 (limbs 2).length c6, .int .u64 0, .string ⟨#[]⟩, .slice none 0 0], fun (A6, c6) b => (Nums b A6 (limbs 2))⟩,
  Fx.of (.bool true),
  Fx.of (.bool true),
  Fx.of (.bool true),
  Fx.of (.agg #[.int .i64 4, .bool false, .bool false, .slice none 0 0, .int .u64 0, .string ⟨#[97, 39, 10, 200]⟩, .slice none 0 0]),
  Fx.of (.string ⟨#[39, 97, 92, 39, 92, 110, 92, 120, 99, 56, 39]⟩),
  Fx.of (.bool true),
  Fx.of (.bool true),
  Fx.of (.bool true),
  Fx.of (.agg #[.int .i64 4, .bool false, .bool false, .slice none 0 0, .int .u64 0, .string ⟨#[97]⟩, .slice none 0 0]),
  Fx.of (.int .i64 129),
  Fx.of (.bool true),
  Fx.of (.bool true),
  Fx.of (.bool true),
  Fx.of (.agg #[.int .i64 3, .bool false, .bool false, .slice none 0 0, .int .u64 9221120237041090560, .string ⟨#[]⟩, .slice none 0 0]),
  Fx.of (.agg #[.int .i64 3, .bool false, .bool false, .slice none 0 0, .int .u64 9221120237041090560, .string ⟨#[]⟩, .slice none 0 0]),
  Fx.of (.bool false),
  Fx.of (.bool true),
  Fx.of (.bool true),
  Fx.of (.bool true)]) mixed rfl trivial (fun _ h => by cases h) ?_ ?_
 · refine ⟨?_, ?_, ?_, ?_, ?_, ?_, ?_, ?_, ?_, ?_, ?_, ?_, ?_, ?_, ?_, ?_, ?_, ?_, ?_, ?_, ?_, ?_, ?_, ?_, ?_, trivial⟩
   · intro vs X wq K;exact zy rfl ⟨Below.refl _ _, Left.of rfl⟩
   · intro vs X wq K;obtain ⟨_, e0, k0⟩ := K.dep 0 rfl rfl rfl;refine ze 10 (.int .i64 0) rfl e0 ?_;exact ya rfl rfl ⟨Below.refl _ _, Left.of rfl⟩
   · intro vs X wq K;obtain ⟨_, e1, k1⟩ := K.dep 1 rfl rfl rfl;refine ze 11 (.bool true) rfl e1 ?_;exact zy rfl ⟨Below.refl _ _, Left.of rfl⟩
   · intro vs X wq K;have LE := K.1;obtain ⟨_, e2, k2⟩ := K.dep 2 rfl rfl rfl;refine ze 12 (.bool true) rfl e2 ?_;exact yt rfl (zo Tryz.underlying28 rfl yk rfl (BZ.ext ((Ext.refl No _).drew.trans LE) (fun h ↦ h.elim)) rfl ⟨Below.refl _ _, Left.of rfl⟩)
   · intro vs X wq K;have XN := K.2.1;obtain ⟨_, e2, k2⟩ := K.dep 2 rfl rfl rfl;refine ze 12 (.bool true) rfl e2 (yt rfl (zd en20 rfl ((rint_any 2 _ (by decide) (by decide)).mono ?_)));rintro e w2 ⟨A5, c5, rfl, hO, hb⟩;exact ⟨_, rfl, hb, ⟨(A5, c5), rfl, Per.own8X hO XN⟩⟩
   · intro vs X wq K;have XN := K.2.1;obtain ⟨⟨A5, c5⟩, e4, k4⟩ := K.dep 4 rfl rfl rfl;refine ze 14 (.agg #[.bool (decide ((2 : Int) < 0)), .slice A5 (tens 2).length c5]) rfl e4 ?_;obtain ⟨_, e2, k2⟩ := K.dep 2 rfl rfl rfl;refine ze 12 (.bool true) rfl e2 (yt rfl (zd en19 rfl ((rl_intv _ A5 c5 2 (k4.here) (ht 2 (by decide))).mono ?_)));rintro e w2 ⟨A6, c6, rfl, hO, hb⟩
     exact ⟨_, rfl, hb, ⟨(A6, c6), rfl, Per.own hO XN⟩⟩
   · intro vs X wq K;have LE := K.1;obtain ⟨_, e3, k3⟩ := K.dep 3 rfl rfl rfl;refine ze 13 (.agg #[.int .i64 2, .bool false, .bool (decide (2 < 0)), .slice A4 (limbs 2).length c4, .int .u64 0, .string ⟨#[]⟩, .slice none 0 0]) rfl e3 ?_;obtain ⟨⟨A6, c6⟩, e5, k5⟩ := K.dep 5 rfl rfl rfl
     refine ze 15 (.agg #[.int .i64 2, .bool false, .bool (decide (2 < 0)), .slice A6 (limbs 2).length c6, .int .u64 0, .string ⟨#[]⟩, .slice none 0 0]) rfl e5 ?_;obtain ⟨_, e2, k2⟩ := K.dep 2 rfl rfl rfl
     refine ze 12 (.bool true) rfl e2 (yt rfl (zd en21 rfl ((rl_is _ A4 A6 c4 c6 (decide ((2 : Int) < 0)) (limbs 2) (Per.nums0 hN4 _ ((Ext.refl No _).drew.trans LE)) (k5.here) hlb).mono ?_)));rintro e w2 ⟨rfl, hb⟩;exact ⟨_, rfl, hb, Left.of rfl⟩
   · intro vs X wq K;obtain ⟨_, e2, k2⟩ := K.dep 2 rfl rfl rfl;refine ze 12 (.bool true) rfl e2 ?_;obtain ⟨_, e6, k6⟩ := K.dep 6 rfl rfl rfl;refine ze 16 (.bool true) rfl e6 ?_;exact zt rfl rfl ⟨Below.refl _ _, Left.of rfl⟩
   · intro vs X wq K;obtain ⟨_, e7, k7⟩ := K.dep 7 rfl rfl rfl;refine ze 17 (.bool true) rfl e7 ?_;exact zy rfl ⟨Below.refl _ _, Left.of rfl⟩
   · intro vs X wq K;obtain ⟨_, e8, k8⟩ := K.dep 8 rfl rfl rfl;refine ze 18 (.bool true) rfl e8 (yt rfl (zd en23 rfl ((rl_strv _ ⟨#[97, 39, 10, 200]⟩).mono ?_)));rintro e w2 ⟨rfl, hb⟩;exact ⟨_, rfl, hb, Left.of rfl⟩
   · intro vs X wq K;obtain ⟨_, e9, k9⟩ := K.dep 9 rfl rfl rfl;refine ze 19 (.agg #[.int .i64 4, .bool false, .bool false, .slice none 0 0, .int .u64 0, .string ⟨#[97, 39, 10, 200]⟩, .slice none 0 0]) rfl e9 ?_;obtain ⟨_, e8, k8⟩ := K.dep 8 rfl rfl rfl;refine ze 18 (.bool true) rfl e8 (yt rfl (zd en22 rfl ((quote_k _).mono ?_)));rintro e w2 ⟨rfl, hb⟩
     exact ⟨_, rfl, hb, Left.of rfl⟩
   · intro vs X wq K;obtain ⟨_, e10, k10⟩ := K.dep 10 rfl rfl rfl;refine ze 20 (.string ⟨#[39, 97, 92, 39, 92, 110, 92, 120, 99, 56, 39]⟩) rfl e10 ?_;obtain ⟨_, e8, k8⟩ := K.dep 8 rfl rfl rfl;refine ze 18 (.bool true) rfl e8 ?_
     exact yt rfl (xg rfl rfl ⟨Below.refl _ _, Left.of (by simp only [bytes_list]; rfl : (.bool ((⟨#[39, 97, 92, 39, 92, 110, 92, 120, 99, 56, 39]⟩ : ByteArray).toList == (⟨#[39, 97, 92, 39, 92, 110, 92, 120, 99, 56, 39]⟩ : ByteArray).toList) : Value) = _)⟩)
   · intro vs X wq K;obtain ⟨_, e8, k8⟩ := K.dep 8 rfl rfl rfl;refine ze 18 (.bool true) rfl e8 ?_;obtain ⟨_, e11, k11⟩ := K.dep 11 rfl rfl rfl;refine ze 21 (.bool true) rfl e11 ?_;exact zt rfl rfl ⟨Below.refl _ _, Left.of rfl⟩
   · intro vs X wq K;obtain ⟨_, e12, k12⟩ := K.dep 12 rfl rfl rfl;refine ze 22 (.bool true) rfl e12 ?_;exact zy rfl ⟨Below.refl _ _, Left.of rfl⟩
   · intro vs X wq K;obtain ⟨_, e13, k13⟩ := K.dep 13 rfl rfl rfl;refine ze 23 (.bool true) rfl e13 (yt rfl (zd en23 rfl ((rl_strv _ ⟨#[97]⟩).mono ?_)));rintro e w2 ⟨rfl, hb⟩;exact ⟨_, rfl, hb, Left.of rfl⟩
   · intro vs X wq K;obtain ⟨_, e14, k14⟩ := K.dep 14 rfl rfl rfl;refine ze 24 (.agg #[.int .i64 4, .bool false, .bool false, .slice none 0 0, .int .u64 0, .string ⟨#[97]⟩, .slice none 0 0]) rfl e14 ?_;obtain ⟨_, e13, k13⟩ := K.dep 13 rfl rfl rfl;refine ze 23 (.bool true) rfl e13 (yt rfl (zd en13 rfl ((hash_k _).mono ?_)));rintro e w2 ⟨rfl, hb⟩;exact ⟨_, rfl, hb, Left.of rfl⟩
   · intro vs X wq K;obtain ⟨_, e15, k15⟩ := K.dep 15 rfl rfl rfl;refine ze 25 (.int .i64 129) rfl e15 ?_;obtain ⟨_, e13, k13⟩ := K.dep 13 rfl rfl rfl;refine ze 23 (.bool true) rfl e13 ?_;exact yt rfl (ya rfl rfl ⟨Below.refl _ _, Left.of rfl⟩)
   · intro vs X wq K;obtain ⟨_, e13, k13⟩ := K.dep 13 rfl rfl rfl;refine ze 23 (.bool true) rfl e13 ?_;obtain ⟨_, e16, k16⟩ := K.dep 16 rfl rfl rfl;refine ze 26 (.bool true) rfl e16 ?_;exact zt rfl rfl ⟨Below.refl _ _, Left.of rfl⟩
   · intro vs X wq K;obtain ⟨_, e17, k17⟩ := K.dep 17 rfl rfl rfl;refine ze 27 (.bool true) rfl e17 ?_;exact zy rfl ⟨Below.refl _ _, Left.of rfl⟩
   · intro vs X wq K;obtain ⟨_, e18, k18⟩ := K.dep 18 rfl rfl rfl;refine ze 28 (.bool true) rfl e18 (yt rfl (zd en24 rfl ((float_k _).mono ?_)));rintro e w2 ⟨rfl, hb⟩;exact ⟨_, rfl, hb, Left.of rfl⟩
   · intro vs X wq K;obtain ⟨_, e18, k18⟩ := K.dep 18 rfl rfl rfl;refine ze 28 (.bool true) rfl e18 (yt rfl (zd en24 rfl ((float_k _).mono ?_)));rintro e w2 ⟨rfl, hb⟩;exact ⟨_, rfl, hb, Left.of rfl⟩
   · intro vs X wq K;obtain ⟨_, e19, k19⟩ := K.dep 19 rfl rfl rfl;refine ze 29 (.agg #[.int .i64 3, .bool false, .bool false, .slice none 0 0, .int .u64 9221120237041090560, .string ⟨#[]⟩, .slice none 0 0]) rfl e19 ?_;obtain ⟨_, e20, k20⟩ := K.dep 20 rfl rfl rfl
     refine ze 30 (.agg #[.int .i64 3, .bool false, .bool false, .slice none 0 0, .int .u64 9221120237041090560, .string ⟨#[]⟩, .slice none 0 0]) rfl e20 ?_;obtain ⟨_, e18, k18⟩ := K.dep 18 rfl rfl rfl;refine ze 28 (.bool true) rfl e18 (yt rfl (zd en8 rfl ((equal_k _).mono ?_)));rintro e w2 ⟨rfl, hb⟩;exact ⟨_, rfl, hb, Left.of rfl⟩
   · intro vs X wq K;obtain ⟨_, e21, k21⟩ := K.dep 21 rfl rfl rfl;refine ze 31 (.bool false) rfl e21 ?_;obtain ⟨_, e18, k18⟩ := K.dep 18 rfl rfl rfl;refine ze 28 (.bool true) rfl e18 ?_;exact yt rfl (yf rfl ⟨Below.refl _ _, Left.of rfl⟩)
   · intro vs X wq K;obtain ⟨_, e18, k18⟩ := K.dep 18 rfl rfl rfl;refine ze 28 (.bool true) rfl e18 ?_;obtain ⟨_, e22, k22⟩ := K.dep 22 rfl rfl rfl;refine ze 32 (.bool true) rfl e22 ?_;exact zt rfl rfl ⟨Below.refl _ _, Left.of rfl⟩
   · intro vs X wq K;obtain ⟨_, e23, k23⟩ := K.dep 23 rfl rfl rfl;refine ze 33 (.bool true) rfl e23 ?_;exact qr rfl ⟨Below.refl _ _, Left.of rfl⟩
 intro vs w5 LE AO AL AF AA;have hbd : Below (wC).heap.size (wC) w5 := (((Ext.refl No (wC)).drew).trans LE).toBelow;obtain ⟨_, e24, k24⟩ := AL.2.2.2.2.2.2.2.2.2.2.2.2.2.2.2.2.2.2.2.2.2.2.2.2.1;refine gu (τ := [(0, .bool true)]) ⟨congrArg some e24, trivial⟩ ?_;clear AL AF AA AO;refine zk (zm (zl (rs := [.tmp 0]) (vs := [_]) rfl ⟨rfl, trivial⟩ ?_))
 exact ⟨rfl, (E7.trans (Ext.of_below hbd No)).toBelow⟩
end
end Go.Proofs.YtaleikoeklemmaaGreatDoor

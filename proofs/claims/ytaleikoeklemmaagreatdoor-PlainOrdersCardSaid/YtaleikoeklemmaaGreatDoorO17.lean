/- Texts of this claim. -/
import Derived.Test.YtaleikoeklemmaaGreatDoorO16
import Derived.Lib.Bytealg
namespace Go.Proofs.YtaleikoeklemmaaGreatDoor
open Go.RowKit
set_option maxRecDepth 100000
def jh (k : Int) : Bool := decide (1 ≤ k) && decide (k ≤ 3)
def PV.cn (v : PV) : Bool := if v.k = 1 then false else v.neg
def PV.cx (v : PV) : List Nat := if v.k = 1 then (if v.yes then [1] else []) else v.xs
noncomputable def ordC (a b : PV) : Int :=
 if a.k = 3 then (if b.k = 3 then cmpF a.bits b.bits else jk a.bits b.cn b.cx)
 else if b.k = 3 then 0 - jk b.bits a.cn a.cx else cmpO (yf a.cn a.cx && yf b.cn b.cx) (num a.cn a.cx) (num b.cn b.cx)
def zgz (a b : PV) : Bool := if a.k = 3 then (if b.k = 3 then vr a.bits b.bits else qq a.bits b.cn b.cx) else if b.k = 3 then qq b.bits a.cn a.cx else true
def eqS (a b : PV) : Bool := if a.k == b.k then (a.s.toList == b.s.toList) else false
noncomputable def eqV (a b : PV) : Bool := if a.good && b.good then (if jh a.k && jh b.k then (if zgz a b then (ordC a b == 0) else false) else eqS a b) else false
noncomputable def vb (a b : PV) : Int × Bool × Int :=
 if a.good && b.good then (if jh a.k && jh b.k then (ordC a b, zgz a b, 0) else if (a.k == 4) && (b.k == 4) then (Lib.compareBytes a.s.data.toList b.s.data.toList, true, 0) else (0, false, 9)) else (0, false, 3)
noncomputable def je (a b : PV) : Bool :=
 if (a.good && b.good) && (a.k == b.k) then (if a.k = 2 then (cmpO (yf a.neg a.xs && yf b.neg b.xs) (num a.neg a.xs) (num b.neg b.xs) == 0) else if a.k = 3 then (((yt (yn a.bits) : Nat) : Int) == ((yt (yn b.bits) : Nat) : Int)) else (if a.yes == b.yes then (a.s.toList == b.s.toList) else false)) else false
def RetCnt (w : World) (A1 : Option Addr) (n : Bool) (xs ys : List Nat) (e : Ending) (w' : World) : Prop := ∃ A c, e = .returned (.agg #[.bool n, .slice A ys.length c]) ∧ ((A = A1 ∧ ys = xs) ∨ Own w' w.heap.size A c ys) ∧ Below w.heap.size w w'
def CntV (w : World) (A1 A : Option Addr) (xs ys : List Nat) : Prop := (A = A1 ∧ ys = xs) ∨ Nums w A ys
theorem CntV.nums {w : World} {A1 A : Option Addr} {xs ys : List Nat} (h : CntV w A1 A xs ys) (hx : Nums w A1 xs) : Nums w A ys := by
 rcases h with ⟨rfl, rfl⟩ | h
 · exact hx
 · exact h
theorem zok {X : Nat → Prop} {w w' : World} {A1 A : Option Addr} {c : Nat} {xs ys : List Nat} (h : (A = A1 ∧ ys = xs) ∨ Own w' w.heap.size A c ys) (hX : ∀ k, X k → k < w.heap.size) : Per X w' (fun b => CntV b A1 A xs ys) := fun b hb => by
 rcases h with h | h
 · exact Or.inl h
 · exact Or.inr (Per.own h hX b hb)
theorem PV.cx_len {v : PV} (h : v.xs.length ≤ 9223372036854775807) : v.cx.length ≤ 9223372036854775807 := by
 unfold PV.cx;split
 · split <;> simp
 · exact h
theorem cmpI_in (i j : Int) : -1 ≤ gj i j ∧ gj i j ≤ 1 := by unfold gj; split <;> (try split) <;> omega
theorem cmpV_in (a : Nat) (n1 : Bool) (xs : List Nat) : -1 ≤ jk a n1 xs ∧ jk a n1 xs ≤ 1 := by
 unfold jk;split
 · split
   · unfold infV; split <;> omega
   · unfold cmpB;split
     · exact cmpI_in _ _
     · split
       · split <;> omega
       · omega
 · omega
theorem zkq {w : World} {A : Option Addr} : Nums w A [] := ⟨fun k => by unfold nth; simp, fun h => absurd h (by decide)⟩
theorem znq {w : World} {g o : Nat} {v0 v1 : Value} (h0 : w.cell? ⟨g, o, none⟩ = some v0) (h1 : w.cell? ⟨g, o + 1, none⟩ = some v1) : ∀ (j : Nat) (v : Value), #[v0, v1][j]? = some v → w.cell? ⟨g, o + j, none⟩ = some v := fun j v hj => by
 have hj2 := (Array.getElem?_eq_some_iff.1 hj).1;match j, hj2 with
 | 0, _ => exact h0.trans hj
 | 1, _ => exact h1.trans hj
theorem own_nil {w : World} {base : Nat} : Own w base none 0 [] := ⟨⟨rfl, Or.inl ⟨rfl, rfl⟩⟩, fun _ h => (by cases h)⟩
theorem zcz {w1 w2 : World} {lo base c g : Nat} {A : Option Addr} {xs : List Nat} (h : Own w1 base A c xs) (E : Ext (Mut [some g]) w1 w2) (hg : g < base) (hb : lo ≤ base) : Own w2 lo A c xs :=
 ⟨ydz (kc h.1 E (fun q hq hm => by have := xr hm; have := owns_ge h.1 q hq; omega)) hb, h.2⟩
theorem zjq : limbs 1 = [1] := by
 have h : limbs 1 = [(1 : Int).natAbs] := limbs_one (by decide) (by decide);exact h
end Go.Proofs.YtaleikoeklemmaaGreatDoor
namespace Go.Proofs.YtaleikoeklemmaaGreatDoor
open Go.RowKit
set_option maxRecDepth 100000
attribute [local irreducible] OW RS
section
variable (w : World) (ua ub : PV) (A1 B1 A2 B2 : Option Addr) (c1 d1 c2 d2 : Nat) (hx : Nums w A1 ua.xs) (hl : ua.xs.length ≤ 9223372036854775807) (ha : ua.bits < 18446744073709551616) (hy : Nums w A2 ub.xs) (hl' : ub.xs.length ≤ 9223372036854775807) (hb0 : ub.bits < 18446744073709551616)
theorem pl_number : Calls Tryz.prog 26 #[.agg #[.int .i64 ua.k, .bool ua.yes, .bool ua.neg, .slice A1 ua.xs.length c1, .int .u64 ((ua.bits : Nat) : Int), .string ua.s, .slice B1 ua.ni d1]] w fun e w' => e = .returned (.bool (jh ua.k)) ∧ Below w.heap.size w w' := by
 refine zr Tryz.func26 rfl Tryz.ntmps26 rfl ?_;have HF : Per (No) w (fun _ => True) := Per.true_;have LW := erx (No) w;have XLW := grx (No) w;have E := erx (No) w;refine srx (za rfl (zv rfl ?_));intro gb1 w2 Bb1 Eb1 Gb1;have Gb1 : _ ≤ gb1 := Nat.le_trans E.size Gb1;have GLb1 := Nat.le_trans LW.size Gb1;replace E := E.trans Eb1.no;replace HF := HF.cons (zg Gb1)
 replace E := E.cons (some gb1);replace XLW := Mut.grow XLW (fun k e => Or.inr (Nat.le_trans LW.size ((zg Gb1) k e)));replace HF := HF.on E;replace LW := LW.step E XLW;have SB : ∀ q9, No q9 → Mut [(some gb1)] q9 := (Mut.skip Mut.nil_);replace HF := HF.less SB;replace XLW := fun k h => XLW k (SB k h);clear SB;replace E := erx (No) w2;replace HF := HF.and (Per.blkN Bb1 NotIn.nil)
 refine anx rfl (srx (za rfl (zb Tryz.underlying28 rfl sz3 (by decide) rfl (za rfl (ze Tryz.underlying3 rfl rfl (HF.on E).here.2 rfl (za rfl (oi rfl rfl (mvx rfl (yl 6 rfl (fun h1 => ?_) (fun h1 => ?_))))))))))
 ·
  replace h1 := of_decide_eq_true h1;refine onx rfl (zb Tryz.underlying28 rfl sz3 (by decide) rfl (onx rfl (ze Tryz.underlying3 rfl rfl (HF.on E).here.2 rfl (onx rfl (zkx rfl rfl (za rfl (zq rfl rfl (anx rfl (zl (zk (rs := [.tmp 2]) (vs := [_]) rfl ⟨rfl, trivial⟩ ?_))))))))))
  exact ⟨by refine congrArg (fun z => Ending.returned (.bool z)) ?_; unfold jh; first | (simp_all; done) | (simp_all; omega), (LW.step E XLW).toBelow⟩
 ·
  replace h1 := of_decide_eq_false h1;refine za rfl (zd rfl (za rfl (zd rfl (za rfl (zd rfl (za rfl (zi rfl rfl (anx rfl (zl (zk (rs := [.tmp 2]) (vs := [_]) rfl ⟨rfl, trivial⟩ ?_))))))))));exact ⟨by refine congrArg (fun z => Ending.returned (.bool z)) ?_; unfold jh; first | (simp_all; done) | (simp_all; omega), (LW.step E XLW).toBelow⟩
include hx hl
theorem qe (r : Bool) (hr : PV.good ua = r) : Calls Tryz.prog 25 #[.agg #[.int .i64 ua.k, .bool ua.yes, .bool ua.neg, .slice A1 ua.xs.length c1, .int .u64 ((ua.bits : Nat) : Int), .string ua.s, .slice B1 ua.ni d1]] w fun e w' => e = .returned (.bool r) ∧ Below w.heap.size w w' := by
 subst hr;exact pgood_any w ua.k ua.yes ua.neg A1 B1 ua.xs c1 ua.bits ua.ni d1 ua.s hx hl
omit hx hl in
theorem xm (r : Bool) (hr : jh ua.k = r) : Calls Tryz.prog 26 #[.agg #[.int .i64 ua.k, .bool ua.yes, .bool ua.neg, .slice A1 ua.xs.length c1, .int .u64 ((ua.bits : Nat) : Int), .string ua.s, .slice B1 ua.ni d1]] w fun e w' => e = .returned (.bool r) ∧ Below w.heap.size w w' := by
 subst hr;exact pl_number w ua A1 B1 c1 d1
omit hx hl
theorem zcx : Calls Tryz.prog 37 #[.agg #[.int .i64 ua.k, .bool ua.yes, .bool ua.neg, .slice A1 ua.xs.length c1, .int .u64 ((ua.bits : Nat) : Int), .string ua.s, .slice B1 ua.ni d1]] w (RetCnt w A1 ua.cn ua.xs ua.cx) := by
 refine zr Tryz.func37 rfl Tryz.ntmps37 rfl (srx (za rfl (zv rfl ?_)));rintro g1 wA BX E1 G1;refine za rfl (yq xp ?_);rintro g2 wB BY E2 G2;have BXb := BX.ext E2 (fun h => h.elim);have E12 := E1.trans E2
 refine rnx (zj (srx (za rfl (zb Tryz.underlying28 rfl sz3 (by decide) rfl (za rfl (ze Tryz.underlying3 rfl rfl BXb rfl (za rfl (ya rfl rfl (rnx (ym rfl (fun hk => ?_) (fun hk => ?_)))))))))))
 ·
  have hk1 : ua.k = 1 := by simpa using hk
  have e1 : ua.cn = false := by unfold PV.cn; rw [if_pos hk1]
  refine zj (srx (za rfl (zb Tryz.underlying28 rfl sz4 (by decide) rfl (za rfl (ze Tryz.underlying4 rfl rfl BXb rfl (rnx (ym rfl (fun hyes => ?_) (fun hyes => ?_))))))))
  ·
   have e2 : ua.cx = [1] := by unfold PV.cx; rw [if_pos hk1, if_pos hyes]
   refine srx (za rfl (zc en65 rfl ((zak 1 _ (by decide) (by decide)).mono ?_)));rintro e w1 ⟨A3, c3, rfl, hO, hb⟩;refine ⟨_, rfl, ?_⟩;have E3 := Ext.of_below hb No;have BYc := BY.ext E3 (fun h => h.elim);refine yu (ve yw rfl rfl BYc rfl rfl rfl ?_);rintro wC BYd E4;have hs := E12.size;have h3 := zcz hO E4 BY.lt hs
   refine rnx (zl (zf (zf (zk (rs := [.cell 2 24]) (vs := [_]) rfl ⟨⟨_, rfl, qw Tryz.underlying24 rfl yw BYd rfl⟩, trivial⟩ ?_))));exact ⟨A3, c3, by rw [e1, e2, ← zjq]; rfl, Or.inr (by rw [e2, ← zjq]; exact h3), ((E12.trans E3).step E4 (fun q hq => Or.inr (by have := xr hq; have := E1.size; omega))).toBelow⟩
  ·
   have e2 : ua.cx = [] := by unfold PV.cx; rw [if_pos hk1, if_neg (by rw [hyes]; decide)]
   refine zp (zh (srx (za rfl (xi (cs := #[.bool false, .slice none 0 0]) pl24 xp rfl rfl (yu (ve yw rfl rfl BY rfl rfl rfl ?_))))));rintro wC BYd E4;refine rnx (zl (zf (zk (rs := [.cell 2 24]) (vs := [_]) rfl ⟨⟨_, rfl, qw Tryz.underlying24 rfl yw BYd rfl⟩, trivial⟩ ?_)))
   exact ⟨none, 0, by rw [e1, e2]; rfl, Or.inr (by rw [e2]; exact own_nil), (E12.step E4 (fun q hq => Or.inr (by have := xr hq; have := E1.size; omega))).toBelow⟩
 ·
  have hk1 : ua.k ≠ 1 := by simpa using hk
  have e1 : ua.cn = ua.neg := by unfold PV.cn; rw [if_neg hk1]
  have e2 : ua.cx = ua.xs := by unfold PV.cx; rw [if_neg hk1]
  refine zp (zh (srx (za rfl (zb Tryz.underlying28 rfl yw (by decide) rfl (za rfl (zcq (cs := #[.bool ua.neg, .slice A1 ua.xs.length c1]) Tryz.underlying24 rfl yw rfl rfl (znq (BXb.cell 2) (BXb.cell 3)) (yu (ve yw rfl rfl BY rfl rfl rfl ?_))))))));rintro wC BYd E4;refine rnx (zl ?_)
  have E5 : Ext No w wC := E12.step E4 (fun q hq => Or.inr (by have := xr hq; have := E1.size; omega));refine zk (rs := [.cell 2 24]) (vs := [_]) rfl ⟨⟨_, rfl, qw Tryz.underlying24 rfl yw BYd rfl⟩, trivial⟩ ?_;exact ⟨A1, c1, by rw [e1, e2]; rfl, Or.inl ⟨rfl, e2⟩, E5.toBelow⟩
include hx hl ha hy hl' hb0
theorem pl_order : Calls Tryz.prog 27 #[.agg #[.int .i64 ua.k, .bool ua.yes, .bool ua.neg, .slice A1 ua.xs.length c1, .int .u64 ((ua.bits : Nat) : Int), .string ua.s, .slice B1 ua.ni d1], .agg #[.int .i64 ub.k, .bool ub.yes, .bool ub.neg, .slice A2 ub.xs.length c2, .int .u64 ((ub.bits : Nat) : Int), .string ub.s, .slice B2 ub.ni d2]] w fun e w' => e = .returned (.tuple #[.int .i64 (ordC ua ub), .bool (zgz ua ub)]) ∧ Below w.heap.size w w' := by
 have hcl := PV.cx_len hl;have hcl' := PV.cx_len hl';refine zr Tryz.func27 rfl Tryz.ntmps27 rfl ?_;have HF : Per (No) w (fun _ => True) := Per.true_;have LW := erx (No) w;have XLW := grx (No) w;have E := erx (No) w;replace HF := HF.on E;replace LW := LW.step E XLW;replace E := erx (No) w;replace HF := HF.and (Per.nums0 hx);replace HF := HF.on E;replace LW := LW.step E XLW
 replace E := erx (No) w;replace HF := HF.and (Per.nums0 hy);by_cases hk3 : ua.k = 3
 ·
  by_cases hj3 : ub.k = 3
  ·
   refine srx (za rfl (zv rfl ?_));intro gb1 w2 Bb1 Eb1 Gb1;have Gb1 : _ ≤ gb1 := Nat.le_trans E.size Gb1;have GLb1 := Nat.le_trans LW.size Gb1;replace E := E.trans Eb1.no;replace HF := HF.cons (zg Gb1);replace E := E.cons (some gb1);replace XLW := Mut.grow XLW (fun k e => Or.inr (Nat.le_trans LW.size ((zg Gb1) k e)));replace HF := HF.on E;replace LW := LW.step E XLW
   have SB : ∀ q9, No q9 → Mut [(some gb1)] q9 := (Mut.skip Mut.nil_);replace HF := HF.less SB;replace XLW := fun k h => XLW k (SB k h);clear SB;replace E := erx (No) w2;replace HF := HF.and (Per.blkN Bb1 NotIn.nil);refine za rfl (zv rfl ?_);intro gb3 w4 Bb3 Eb3 Gb3;have Gb3 : _ ≤ gb3 := Nat.le_trans E.size Gb3;have GLb3 := Nat.le_trans LW.size Gb3;replace E := E.trans Eb3.no
   replace HF := HF.cons (zg Gb3);replace E := E.cons (some gb3);replace XLW := Mut.grow XLW (fun k e => Or.inr (Nat.le_trans LW.size ((zg Gb3) k e)));replace HF := HF.on E;replace LW := LW.step E XLW;have SB : ∀ q9, No q9 → Mut [(some gb3)] q9 := (Mut.skip Mut.nil_);replace HF := HF.less SB;replace XLW := fun k h => XLW k (SB k h);clear SB;replace E := erx (No) w4
   replace HF := HF.and (Per.blkN Bb3 NotIn.nil)
   refine avx rfl (anx rfl (zj (yh (srx (za rfl (zb Tryz.underlying28 rfl sz3 (by decide) rfl (za rfl (ze Tryz.underlying3 rfl rfl (HF.on E).here.1.2 rfl (za rfl (ya rfl rfl (mvx rfl (zx 12 (.bool true) rfl ((by simp [hk3] : (.bool (ua.k == 3) : Value) = _)) (onx rfl (zb Tryz.underlying28 rfl sz3 (by decide) rfl (onx rfl (ze Tryz.underlying3 rfl rfl (HF.on E).here.2 rfl (onx rfl (ya rfl rfl (za rfl (zq rfl rfl (anx rfl (zu 8 (.bool true) rfl ((by simp [hj3] : (.bool (ub.k == 3) : Value) = _)) (yb rfl (srx (za rfl (zb Tryz.underlying28 rfl kz (by decide) rfl (za rfl (ze Tryz.underlying25 rfl rfl (HF.on E).here.1.2 rfl (za rfl (zb Tryz.underlying28 rfl kz (by decide) rfl (za rfl (ze Tryz.underlying25 rfl rfl (HF.on E).here.2 rfl (za rfl (zc en48 rfl ((cmp_any_r _ ua.bits ub.bits).mono ?_)))))))))))))))))))))))))))))))))))
   rintro e w5 ⟨rfl, hb⟩;refine ⟨_, rfl, ?_⟩;replace E := blx E hb;refine za rfl (zo rfl rfl (za rfl (zo rfl rfl (avx rfl (anx rfl (zl (zw (zf (zk (rs := [.tmp 4, .tmp 5]) (vs := [_, _]) rfl ⟨rfl, rfl, trivial⟩ ?_)))))))));exact ⟨by unfold ordC zgz; rw [if_pos hk3, if_pos hk3, if_pos hj3, if_pos hj3]; rfl, (LW.step E XLW).toBelow⟩
  ·
   refine srx (za rfl (zv rfl ?_));intro gb6 w7 Bb6 Eb6 Gb6;have Gb6 : _ ≤ gb6 := Nat.le_trans E.size Gb6;have GLb6 := Nat.le_trans LW.size Gb6;replace E := E.trans Eb6.no;replace HF := HF.cons (zg Gb6);replace E := E.cons (some gb6);replace XLW := Mut.grow XLW (fun k e => Or.inr (Nat.le_trans LW.size ((zg Gb6) k e)));replace HF := HF.on E;replace LW := LW.step E XLW
   have SB : ∀ q9, No q9 → Mut [(some gb6)] q9 := (Mut.skip Mut.nil_);replace HF := HF.less SB;replace XLW := fun k h => XLW k (SB k h);clear SB;replace E := erx (No) w7;replace HF := HF.and (Per.blkN Bb6 NotIn.nil);refine za rfl (zv rfl ?_);intro gb8 w9 Bb8 Eb8 Gb8;have Gb8 : _ ≤ gb8 := Nat.le_trans E.size Gb8;have GLb8 := Nat.le_trans LW.size Gb8;replace E := E.trans Eb8.no
   replace HF := HF.cons (zg Gb8);replace E := E.cons (some gb8);replace XLW := Mut.grow XLW (fun k e => Or.inr (Nat.le_trans LW.size ((zg Gb8) k e)));replace HF := HF.on E;replace LW := LW.step E XLW;have SB : ∀ q9, No q9 → Mut [(some gb8)] q9 := (Mut.skip Mut.nil_);replace HF := HF.less SB;replace XLW := fun k h => XLW k (SB k h);clear SB;replace E := erx (No) w9
   replace HF := HF.and (Per.blkN Bb8 NotIn.nil)
   refine avx rfl (anx rfl (zj (yh (srx (za rfl (zb Tryz.underlying28 rfl sz3 (by decide) rfl (za rfl (ze Tryz.underlying3 rfl rfl (HF.on E).here.1.2 rfl (za rfl (ya rfl rfl (mvx rfl (zx 12 (.bool true) rfl ((by simp [hk3] : (.bool (ua.k == 3) : Value) = _)) (onx rfl (zb Tryz.underlying28 rfl sz3 (by decide) rfl (onx rfl (ze Tryz.underlying3 rfl rfl (HF.on E).here.2 rfl (onx rfl (ya rfl rfl (za rfl (zq rfl rfl (anx rfl (zu 8 (.bool false) rfl ((by simp [hj3] : (.bool (ub.k == 3) : Value) = _)) (zt rfl (srx (za rfl (zb Tryz.underlying28 rfl sz3 (by decide) rfl (za rfl (ze Tryz.underlying3 rfl rfl (HF.on E).here.1.2 rfl (za rfl (ya rfl rfl (anx rfl (zu 24 (.bool true) rfl ((by simp [hk3] : (.bool (ua.k == 3) : Value) = _)) (yb rfl (zj ?_))))))))))))))))))))))))))))))))))
   have OY : ∀ q9, (Mut (zaq [])) q9 → q9 < (World.drew w9).heap.size → (No) q9 := fun k h _ => (Mut.none_) k h;refine vc (No) Mut.none_ [] [] (zdv [Fx.of (.pointer (some ⟨gb6, 4, none⟩)),
    Fx.of (.int .u64 ((ua.bits : Nat) : Int)),
    Fx.of (.agg #[.int .i64 ub.k, .bool ub.yes, .bool ub.neg, .slice A2 ub.xs.length c2, .int .u64 ((ub.bits : Nat) : Int), .string ub.s, .slice B2 ub.ni d2]),
    ⟨(Option Addr × Nat), fun (A3, c3) => .agg #[.bool ub.cn, .slice A3 ub.cx.length c3], fun (A3, c3) b => (CntV b A2 A3 ub.xs (PV.cx ub))⟩,
    Fx.of (.tuple #[.int .i64 (jk ua.bits ub.cn ub.cx), .bool (qq ua.bits ub.cn ub.cx)]),
    Fx.of (.int .i64 (jk ua.bits ub.cn ub.cx)),
    Fx.of (.bool (qq ua.bits ub.cn ub.cx)),
    Fx.of (.int .i64 (jk ua.bits ub.cn ub.cx)),
    Fx.of (.bool (qq ua.bits ub.cn ub.cx))]) mixed rfl trivial (fun _ h => by cases h) ?_ ?_
   · refine ⟨?_, ?_, ?_, ?_, ?_, ?_, ?_, ?_, ?_, trivial⟩
     · intro vs X wq K;exact zb Tryz.underlying28 rfl kz (by decide) rfl ⟨Below.refl _ _, Left.of rfl⟩
     · intro vs X wq K;have LE := K.1;obtain ⟨_, e0, k0⟩ := K.dep 0 rfl rfl rfl;refine zn 28 (.pointer (some ⟨gb6, 4, none⟩)) rfl e0 ?_;exact ze Tryz.underlying25 rfl rfl (HF.on (E.drew.trans (LE.mono OY))).here.1.2 rfl ⟨Below.refl _ _, Left.of rfl⟩
     · intro vs X wq K;have LE := K.1;exact zm Tryz.underlying28 rfl yp rfl (HF.on (E.drew.trans (LE.mono OY))).here.2 rfl ⟨Below.refl _ _, Left.of rfl⟩
     · intro vs X wq K;have XN := K.2.1;obtain ⟨_, e2, k2⟩ := K.dep 2 rfl rfl rfl;refine zn 30 (.agg #[.int .i64 ub.k, .bool ub.yes, .bool ub.neg, .slice A2 ub.xs.length c2, .int .u64 ((ub.bits : Nat) : Int), .string ub.s, .slice B2 ub.ni d2]) rfl e2 (zc en37 rfl ((zcx _ ub A2 B2 c2 d2).mono ?_));rintro e w2 ⟨A3, c3, rfl, hN, hb⟩
       exact ⟨_, rfl, hb, ⟨(A3, c3), rfl, zok hN XN⟩⟩
     · intro vs X wq K;have LE := K.1;obtain ⟨_, e1, k1⟩ := K.dep 1 rfl rfl rfl;refine zn 29 (.int .u64 ((ua.bits : Nat) : Int)) rfl e1 ?_;obtain ⟨⟨A3, c3⟩, e3, k3⟩ := K.dep 3 rfl rfl rfl
       refine zn 31 (.agg #[.bool ub.cn, .slice A3 ub.cx.length c3]) rfl e3 (zc en49 rfl ((cmpbig_any _ ua.bits ha ub.cn A3 c3 ub.cx ((k3.here).nums (HF.on (E.drew.trans (LE.mono OY))).here.1.1.2) hcl').mono ?_));rintro e w2 ⟨rfl, hb⟩;exact ⟨_, rfl, hb, Left.of rfl⟩
     · intro vs X wq K;obtain ⟨_, e4, k4⟩ := K.dep 4 rfl rfl rfl;refine zn 32 (.tuple #[.int .i64 (jk ua.bits ub.cn ub.cx), .bool (qq ua.bits ub.cn ub.cx)]) rfl e4 ?_;exact zo rfl rfl ⟨Below.refl _ _, Left.of rfl⟩
     · intro vs X wq K;obtain ⟨_, e4, k4⟩ := K.dep 4 rfl rfl rfl;refine zn 32 (.tuple #[.int .i64 (jk ua.bits ub.cn ub.cx), .bool (qq ua.bits ub.cn ub.cx)]) rfl e4 ?_;exact zo rfl rfl ⟨Below.refl _ _, Left.of rfl⟩
     · intro vs X wq K;obtain ⟨_, e5, k5⟩ := K.dep 5 rfl rfl rfl;refine zn 33 (.int .i64 (jk ua.bits ub.cn ub.cx)) rfl e5 ?_;exact qd rfl ⟨Below.refl _ _, Left.of rfl⟩
     · intro vs X wq K;obtain ⟨_, e6, k6⟩ := K.dep 6 rfl rfl rfl;refine zn 34 (.bool (qq ua.bits ub.cn ub.cx)) rfl e6 ?_;exact qd rfl ⟨Below.refl _ _, Left.of rfl⟩
   intro vs w10 LE AO AL AF AA;replace E := E.drew.trans (LE.mono OY);obtain ⟨_, e7, k7⟩ := AL.2.2.2.2.2.2.2.1;obtain ⟨_, e8, k8⟩ := AL.2.2.2.2.2.2.2.2.1;refine gg (τ := [(2, _), (3, _), (4, .int .i64 (jk ua.bits ub.cn ub.cx)), (5, .bool (qq ua.bits ub.cn ub.cx))]) ⟨rfl, rfl, congrArg some e7, congrArg some e8, trivial⟩ ?_;clear AL AF AA LE AO OY e7 e8 k7 k8
   refine zh (zl (zw (zf (zk (rs := [.tmp 4, .tmp 5]) (vs := [_, _]) rfl ⟨rfl, rfl, trivial⟩ ?_))));exact ⟨by unfold ordC zgz; rw [if_pos hk3, if_pos hk3, if_neg hj3, if_neg hj3]; rfl, (LW.step E XLW).toBelow⟩
 ·
  refine srx (za rfl (zv rfl ?_));intro gb11 w12 Bb11 Eb11 Gb11;have Gb11 : _ ≤ gb11 := Nat.le_trans E.size Gb11;have GLb11 := Nat.le_trans LW.size Gb11;replace E := E.trans Eb11.no;replace HF := HF.cons (zg Gb11);replace E := E.cons (some gb11);replace XLW := Mut.grow XLW (fun k e => Or.inr (Nat.le_trans LW.size ((zg Gb11) k e)));replace HF := HF.on E
  replace LW := LW.step E XLW;have SB : ∀ q9, No q9 → Mut [(some gb11)] q9 := (Mut.skip Mut.nil_);replace HF := HF.less SB;replace XLW := fun k h => XLW k (SB k h);clear SB;replace E := erx (No) w12;replace HF := HF.and (Per.blkN Bb11 NotIn.nil);refine za rfl (zv rfl ?_);intro gb13 w14 Bb13 Eb13 Gb13;have Gb13 : _ ≤ gb13 := Nat.le_trans E.size Gb13;have GLb13 := Nat.le_trans LW.size Gb13
  replace E := E.trans Eb13.no;replace HF := HF.cons (zg Gb13);replace E := E.cons (some gb13);replace XLW := Mut.grow XLW (fun k e => Or.inr (Nat.le_trans LW.size ((zg Gb13) k e)));replace HF := HF.on E;replace LW := LW.step E XLW;have SB : ∀ q9, No q9 → Mut [(some gb13)] q9 := (Mut.skip Mut.nil_);replace HF := HF.less SB;replace XLW := fun k h => XLW k (SB k h);clear SB
  replace E := erx (No) w14;replace HF := HF.and (Per.blkN Bb13 NotIn.nil)
  refine avx rfl (anx rfl (zj (yh (srx (za rfl (zb Tryz.underlying28 rfl sz3 (by decide) rfl (za rfl (ze Tryz.underlying3 rfl rfl (HF.on E).here.1.2 rfl (za rfl (ya rfl rfl (mvx rfl (zx 12 (.bool false) rfl ((by simp [hk3] : (.bool (ua.k == 3) : Value) = _)) (za rfl (zd rfl (za rfl (zd rfl (za rfl (zd rfl (za rfl (zi rfl rfl (anx rfl (zt rfl (srx (za rfl (zb Tryz.underlying28 rfl sz3 (by decide) rfl (za rfl (ze Tryz.underlying3 rfl rfl (HF.on E).here.1.2 rfl (za rfl (ya rfl rfl (anx rfl (zu 24 (.bool false) rfl ((by simp [hk3] : (.bool (ua.k == 3) : Value) = _)) ?_)))))))))))))))))))))))))))))))
  by_cases hj3 : ub.k = 3
  ·
   refine zt rfl (srx (za rfl (zb Tryz.underlying28 rfl sz3 (by decide) rfl (za rfl (ze Tryz.underlying3 rfl rfl (HF.on E).here.2 rfl (za rfl (ya rfl rfl (anx rfl (zu 35 (.bool true) rfl ((by simp [hj3] : (.bool (ub.k == 3) : Value) = _)) (yb rfl (zj ?_)))))))))))
   have OY : ∀ q9, (Mut (zaq [])) q9 → q9 < (World.drew w14).heap.size → (No) q9 := fun k h _ => (Mut.none_) k h;refine vc (No) Mut.none_ [] [] (zdv [Fx.of (.pointer (some ⟨gb13, 4, none⟩)),
    Fx.of (.int .u64 ((ub.bits : Nat) : Int)),
    Fx.of (.agg #[.int .i64 ua.k, .bool ua.yes, .bool ua.neg, .slice A1 ua.xs.length c1, .int .u64 ((ua.bits : Nat) : Int), .string ua.s, .slice B1 ua.ni d1]),
    ⟨(Option Addr × Nat), fun (A3, c3) => .agg #[.bool ua.cn, .slice A3 ua.cx.length c3], fun (A3, c3) b => (CntV b A1 A3 ua.xs (PV.cx ua))⟩,
    Fx.of (.tuple #[.int .i64 (jk ub.bits ua.cn ua.cx), .bool (qq ub.bits ua.cn ua.cx)]),
    Fx.of (.tuple #[.int .i64 (jk ub.bits ua.cn ua.cx), .bool (qq ub.bits ua.cn ua.cx)]),
    Fx.of (.int .i64 (jk ub.bits ua.cn ua.cx)),
    Fx.of (.bool (qq ub.bits ua.cn ua.cx)),
    Fx.of (.int .i64 (jk ub.bits ua.cn ua.cx)),
    Fx.of (.bool (qq ub.bits ua.cn ua.cx))]) mixed rfl trivial (fun _ h => by cases h) ?_ ?_
   · refine ⟨?_, ?_, ?_, ?_, ?_, ?_, ?_, ?_, ?_, ?_, trivial⟩
     · intro vs X wq K;exact zb Tryz.underlying28 rfl kz (by decide) rfl ⟨Below.refl _ _, Left.of rfl⟩
     · intro vs X wq K;have LE := K.1;obtain ⟨_, e0, k0⟩ := K.dep 0 rfl rfl rfl;refine zn 40 (.pointer (some ⟨gb13, 4, none⟩)) rfl e0 ?_;exact ze Tryz.underlying25 rfl rfl (HF.on (E.drew.trans (LE.mono OY))).here.2 rfl ⟨Below.refl _ _, Left.of rfl⟩
     · intro vs X wq K;have LE := K.1;exact zm Tryz.underlying28 rfl yp rfl (HF.on (E.drew.trans (LE.mono OY))).here.1.2 rfl ⟨Below.refl _ _, Left.of rfl⟩
     · intro vs X wq K;have XN := K.2.1;obtain ⟨_, e2, k2⟩ := K.dep 2 rfl rfl rfl;refine zn 42 (.agg #[.int .i64 ua.k, .bool ua.yes, .bool ua.neg, .slice A1 ua.xs.length c1, .int .u64 ((ua.bits : Nat) : Int), .string ua.s, .slice B1 ua.ni d1]) rfl e2 (zc en37 rfl ((zcx _ ua A1 B1 c1 d1).mono ?_));rintro e w2 ⟨A3, c3, rfl, hN, hb⟩
       exact ⟨_, rfl, hb, ⟨(A3, c3), rfl, zok hN XN⟩⟩
     · intro vs X wq K;have LE := K.1;obtain ⟨_, e1, k1⟩ := K.dep 1 rfl rfl rfl;refine zn 41 (.int .u64 ((ub.bits : Nat) : Int)) rfl e1 ?_;obtain ⟨⟨A3, c3⟩, e3, k3⟩ := K.dep 3 rfl rfl rfl
       refine zn 43 (.agg #[.bool ua.cn, .slice A3 ua.cx.length c3]) rfl e3 (zc en49 rfl ((cmpbig_any _ ub.bits hb0 ua.cn A3 c3 ua.cx ((k3.here).nums (HF.on (E.drew.trans (LE.mono OY))).here.1.1.1.2) hcl).mono ?_));rintro e w2 ⟨rfl, hb⟩;exact ⟨_, rfl, hb, Left.of rfl⟩
     · intro vs X wq K;obtain ⟨_, e4, k4⟩ := K.dep 4 rfl rfl rfl;refine zn 44 (.tuple #[.int .i64 (jk ub.bits ua.cn ua.cx), .bool (qq ub.bits ua.cn ua.cx)]) rfl e4 ?_;exact zz rfl ⟨Below.refl _ _, Left.of rfl⟩
     · intro vs X wq K;obtain ⟨_, e5, k5⟩ := K.dep 5 rfl rfl rfl;refine zn 39 (.tuple #[.int .i64 (jk ub.bits ua.cn ua.cx), .bool (qq ub.bits ua.cn ua.cx)]) rfl e5 ?_;exact zo rfl rfl ⟨Below.refl _ _, Left.of rfl⟩
     · intro vs X wq K;obtain ⟨_, e5, k5⟩ := K.dep 5 rfl rfl rfl;refine zn 39 (.tuple #[.int .i64 (jk ub.bits ua.cn ua.cx), .bool (qq ub.bits ua.cn ua.cx)]) rfl e5 ?_;exact zo rfl rfl ⟨Below.refl _ _, Left.of rfl⟩
     · intro vs X wq K;obtain ⟨_, e6, k6⟩ := K.dep 6 rfl rfl rfl;refine zn 45 (.int .i64 (jk ub.bits ua.cn ua.cx)) rfl e6 ?_;exact qd rfl ⟨Below.refl _ _, Left.of rfl⟩
     · intro vs X wq K;obtain ⟨_, e7, k7⟩ := K.dep 7 rfl rfl rfl;refine zn 46 (.bool (qq ub.bits ua.cn ua.cx)) rfl e7 ?_;exact qd rfl ⟨Below.refl _ _, Left.of rfl⟩
   intro vs w15 LE AO AL AF AA;replace E := E.drew.trans (LE.mono OY);obtain ⟨_, e8, k8⟩ := AL.2.2.2.2.2.2.2.2.1;obtain ⟨_, e9, k9⟩ := AL.2.2.2.2.2.2.2.2.2.1;refine gg (τ := [(2, _), (3, _), (4, _), (5, _), (6, .int .i64 (jk ub.bits ua.cn ua.cx)), (7, .bool (qq ub.bits ua.cn ua.cx))]) ⟨rfl, rfl, rfl, rfl, congrArg some e8, congrArg some e9, trivial⟩ ?_
   clear AL AF AA LE AO OY e8 e9 k8 k9;have hcv := cmpV_in ub.bits ua.cn ua.cx;refine zh (srx (mvx rfl (za rfl (ydv rfl (yc (by omega)) (mvx rfl (avx rfl (anx rfl (zl (zw (zf (zk (rs := [.tmp 4, .tmp 5]) (vs := [_, _]) rfl ⟨rfl, rfl, trivial⟩ ?_)))))))))))
   exact ⟨by unfold ordC zgz; rw [if_neg hk3, if_neg hk3, if_pos hj3, if_pos hj3]; rfl, (LW.step E XLW).toBelow⟩
  ·
   refine zt rfl (srx (za rfl (zb Tryz.underlying28 rfl sz3 (by decide) rfl (za rfl (ze Tryz.underlying3 rfl rfl (HF.on E).here.2 rfl (za rfl (ya rfl rfl (anx rfl (zu 35 (.bool false) rfl ((by simp [hj3] : (.bool (ub.k == 3) : Value) = _)) (zt rfl (zp (zy (zh (zj ?_))))))))))))))
   have OY : ∀ q9, (Mut (zaq [])) q9 → q9 < (World.drew w14).heap.size → (No) q9 := fun k h _ => (Mut.none_) k h;refine vc (No) Mut.none_ [] [] (zdv [Fx.of (.agg #[.int .i64 ua.k, .bool ua.yes, .bool ua.neg, .slice A1 ua.xs.length c1, .int .u64 ((ua.bits : Nat) : Int), .string ua.s, .slice B1 ua.ni d1]),
    ⟨(Option Addr × Nat), fun (A3, c3) => .agg #[.bool ua.cn, .slice A3 ua.cx.length c3], fun (A3, c3) b => (CntV b A1 A3 ua.xs (PV.cx ua))⟩,
    Fx.of (.agg #[.int .i64 ub.k, .bool ub.yes, .bool ub.neg, .slice A2 ub.xs.length c2, .int .u64 ((ub.bits : Nat) : Int), .string ub.s, .slice B2 ub.ni d2]),
    ⟨(Option Addr × Nat), fun (A4, c4) => .agg #[.bool ub.cn, .slice A4 ub.cx.length c4], fun (A4, c4) b => (CntV b A2 A4 ub.xs (PV.cx ub))⟩,
    Fx.of (.int .i64 (cmpO (yf ua.cn ua.cx && yf ub.cn ub.cx) (num ua.cn ua.cx) (num ub.cn ub.cx))),
    Fx.of (.int .i64 (cmpO (yf ua.cn ua.cx && yf ub.cn ub.cx) (num ua.cn ua.cx) (num ub.cn ub.cx))),
    Fx.of (.bool true)]) mixed rfl trivial (fun _ h => by cases h) ?_ ?_
   · refine ⟨?_, ?_, ?_, ?_, ?_, ?_, ?_, trivial⟩
     · intro vs X wq K;have LE := K.1;exact zm Tryz.underlying28 rfl yp rfl (HF.on (E.drew.trans (LE.mono OY))).here.1.2 rfl ⟨Below.refl _ _, Left.of rfl⟩
     · intro vs X wq K;have XN := K.2.1;obtain ⟨_, e0, k0⟩ := K.dep 0 rfl rfl rfl;refine zn 50 (.agg #[.int .i64 ua.k, .bool ua.yes, .bool ua.neg, .slice A1 ua.xs.length c1, .int .u64 ((ua.bits : Nat) : Int), .string ua.s, .slice B1 ua.ni d1]) rfl e0 (zc en37 rfl ((zcx _ ua A1 B1 c1 d1).mono ?_));rintro e w2 ⟨A3, c3, rfl, hN, hb⟩
       exact ⟨_, rfl, hb, ⟨(A3, c3), rfl, zok hN XN⟩⟩
     · intro vs X wq K;have LE := K.1;exact zm Tryz.underlying28 rfl yp rfl (HF.on (E.drew.trans (LE.mono OY))).here.2 rfl ⟨Below.refl _ _, Left.of rfl⟩
     · intro vs X wq K;have XN := K.2.1;obtain ⟨_, e2, k2⟩ := K.dep 2 rfl rfl rfl;refine zn 52 (.agg #[.int .i64 ub.k, .bool ub.yes, .bool ub.neg, .slice A2 ub.xs.length c2, .int .u64 ((ub.bits : Nat) : Int), .string ub.s, .slice B2 ub.ni d2]) rfl e2 (zc en37 rfl ((zcx _ ub A2 B2 c2 d2).mono ?_));rintro e w2 ⟨A4, c4, rfl, hN, hb⟩
       exact ⟨_, rfl, hb, ⟨(A4, c4), rfl, zok hN XN⟩⟩
     · intro vs X wq K;have LE := K.1;obtain ⟨⟨A3, c3⟩, e1, k1⟩ := K.dep 1 rfl rfl rfl;refine zn 51 (.agg #[.bool ua.cn, .slice A3 ua.cx.length c3]) rfl e1 ?_;obtain ⟨⟨A4, c4⟩, e3, k3⟩ := K.dep 3 rfl rfl rfl
       refine zn 53 (.agg #[.bool ub.cn, .slice A4 ub.cx.length c4]) rfl e3 (zc en29 rfl ((cmp_any A3 A4 c3 c4 ua.cx ub.cx _ ua.cn ub.cn ((k1.here).nums (HF.on (E.drew.trans (LE.mono OY))).here.1.1.1.2) ((k3.here).nums (HF.on (E.drew.trans (LE.mono OY))).here.1.1.2) hcl hcl').mono ?_));rintro e w2 ⟨rfl, hb⟩;exact ⟨_, rfl, hb, Left.of rfl⟩
     · intro vs X wq K;obtain ⟨_, e4, k4⟩ := K.dep 4 rfl rfl rfl;refine zn 54 (.int .i64 (cmpO (yf ua.cn ua.cx && yf ub.cn ub.cx) (num ua.cn ua.cx) (num ub.cn ub.cx))) rfl e4 ?_;exact qd rfl ⟨Below.refl _ _, Left.of rfl⟩
     · intro vs X wq K;exact qd rfl ⟨Below.refl _ _, Left.of rfl⟩
   intro vs w16 LE AO AL AF AA;replace E := E.drew.trans (LE.mono OY);obtain ⟨_, e5, k5⟩ := AL.2.2.2.2.2.1;obtain ⟨_, e6, k6⟩ := AL.2.2.2.2.2.2.1;refine gg (τ := [(4, .int .i64 (cmpO (yf ua.cn ua.cx && yf ub.cn ub.cx) (num ua.cn ua.cx) (num ub.cn ub.cx))), (5, .bool true)]) ⟨congrArg some e5, congrArg some e6, trivial⟩ ?_;clear AL AF AA LE AO OY e5 e6 k5 k6
   refine zh (zl (zk (rs := [.tmp 4, .tmp 5]) (vs := [_, _]) rfl ⟨rfl, rfl, trivial⟩ ?_));exact ⟨by unfold ordC zgz; rw [if_neg hk3, if_neg hk3, if_neg hj3, if_neg hj3]; rfl, (LW.step E XLW).toBelow⟩
theorem pl_eq1 (h1 : ua.good = false) : Calls Tryz.prog 8 #[.agg #[.int .i64 ua.k, .bool ua.yes, .bool ua.neg, .slice A1 ua.xs.length c1, .int .u64 ((ua.bits : Nat) : Int), .string ua.s, .slice B1 ua.ni d1], .agg #[.int .i64 ub.k, .bool ub.yes, .bool ub.neg, .slice A2 ub.xs.length c2, .int .u64 ((ub.bits : Nat) : Int), .string ub.s, .slice B2 ub.ni d2]] w fun e w' => e = .returned (.bool (eqV ua ub)) ∧ Below w.heap.size w w' := by
 have _ := hx; have _ := hl; have _ := ha; have _ := hy; have _ := hl'; have _ := hb0;refine zr Tryz.func8 rfl Tryz.ntmps8 rfl ?_;have HF : Per (No) w (fun _ => True) := Per.true_;have LW := erx (No) w;have XLW := grx (No) w;have E := erx (No) w;replace HF := HF.on E;replace LW := LW.step E XLW;replace E := erx (No) w;replace HF := HF.and (Per.nums0 hx);replace HF := HF.on E
 replace LW := LW.step E XLW;replace E := erx (No) w;replace HF := HF.and (Per.nums0 hy);refine srx (za rfl (zv rfl ?_));intro gb1 w2 Bb1 Eb1 Gb1;have Gb1 : _ ≤ gb1 := Nat.le_trans E.size Gb1;have GLb1 := Nat.le_trans LW.size Gb1;replace E := E.trans Eb1.no;replace HF := HF.cons (zg Gb1);replace E := E.cons (some gb1)
 replace XLW := Mut.grow XLW (fun k e => Or.inr (Nat.le_trans LW.size ((zg Gb1) k e)));replace HF := HF.on E;replace LW := LW.step E XLW;have SB : ∀ q9, No q9 → Mut [(some gb1)] q9 := (Mut.skip Mut.nil_);replace HF := HF.less SB;replace XLW := fun k h => XLW k (SB k h);clear SB;replace E := erx (No) w2;replace HF := HF.and (Per.blkN Bb1 NotIn.nil);refine za rfl (zv rfl ?_)
 intro gb3 w4 Bb3 Eb3 Gb3;have Gb3 : _ ≤ gb3 := Nat.le_trans E.size Gb3;have GLb3 := Nat.le_trans LW.size Gb3;replace E := E.trans Eb3.no;replace HF := HF.cons (zg Gb3);replace E := E.cons (some gb3);replace XLW := Mut.grow XLW (fun k e => Or.inr (Nat.le_trans LW.size ((zg Gb3) k e)));replace HF := HF.on E;replace LW := LW.step E XLW
 have SB : ∀ q9, No q9 → Mut [(some gb3)] q9 := (Mut.skip Mut.nil_);replace HF := HF.less SB;replace XLW := fun k h => XLW k (SB k h);clear SB;replace E := erx (No) w4;replace HF := HF.and (Per.blkN Bb3 NotIn.nil)
 refine anx rfl (zj (srx (za rfl (zm Tryz.underlying28 rfl yp rfl (HF.on E).here.1.2 rfl (za rfl (zc gp rfl ((qe _ ua A1 B1 c1 d1 (HF.on E).here.1.1.1.2 hl false h1).mono ?_)))))));rintro e w5 ⟨rfl, hb⟩;refine ⟨_, rfl, ?_⟩;replace E := blx E hb
 refine za rfl (yi rfl (mvx rfl (za rfl (zd rfl (za rfl (zd rfl (za rfl (zd rfl (za rfl (zq rfl rfl (rnx (yb rfl (srx (anx rfl (zl (zf (zk (rs := [.tmp 4]) (vs := [_]) rfl ⟨rfl, trivial⟩ ?_)))))))))))))))));exact ⟨by unfold eqV; rw [h1]; rfl, (LW.step E XLW).toBelow⟩
theorem pl_eq2 (h1 : ua.good = true) (h2 : ub.good = false) : Calls Tryz.prog 8 #[.agg #[.int .i64 ua.k, .bool ua.yes, .bool ua.neg, .slice A1 ua.xs.length c1, .int .u64 ((ua.bits : Nat) : Int), .string ua.s, .slice B1 ua.ni d1], .agg #[.int .i64 ub.k, .bool ub.yes, .bool ub.neg, .slice A2 ub.xs.length c2, .int .u64 ((ub.bits : Nat) : Int), .string ub.s, .slice B2 ub.ni d2]] w fun e w' => e = .returned (.bool (eqV ua ub)) ∧ Below w.heap.size w w' := by
 have _ := hx; have _ := hl; have _ := ha; have _ := hy; have _ := hl'; have _ := hb0;refine zr Tryz.func8 rfl Tryz.ntmps8 rfl ?_;have HF : Per (No) w (fun _ => True) := Per.true_;have LW := erx (No) w;have XLW := grx (No) w;have E := erx (No) w;replace HF := HF.on E;replace LW := LW.step E XLW;replace E := erx (No) w;replace HF := HF.and (Per.nums0 hx);replace HF := HF.on E
 replace LW := LW.step E XLW;replace E := erx (No) w;replace HF := HF.and (Per.nums0 hy);refine srx (za rfl (zv rfl ?_));intro gb1 w2 Bb1 Eb1 Gb1;have Gb1 : _ ≤ gb1 := Nat.le_trans E.size Gb1;have GLb1 := Nat.le_trans LW.size Gb1;replace E := E.trans Eb1.no;replace HF := HF.cons (zg Gb1);replace E := E.cons (some gb1)
 replace XLW := Mut.grow XLW (fun k e => Or.inr (Nat.le_trans LW.size ((zg Gb1) k e)));replace HF := HF.on E;replace LW := LW.step E XLW;have SB : ∀ q9, No q9 → Mut [(some gb1)] q9 := (Mut.skip Mut.nil_);replace HF := HF.less SB;replace XLW := fun k h => XLW k (SB k h);clear SB;replace E := erx (No) w2;replace HF := HF.and (Per.blkN Bb1 NotIn.nil);refine za rfl (zv rfl ?_)
 intro gb3 w4 Bb3 Eb3 Gb3;have Gb3 : _ ≤ gb3 := Nat.le_trans E.size Gb3;have GLb3 := Nat.le_trans LW.size Gb3;replace E := E.trans Eb3.no;replace HF := HF.cons (zg Gb3);replace E := E.cons (some gb3);replace XLW := Mut.grow XLW (fun k e => Or.inr (Nat.le_trans LW.size ((zg Gb3) k e)));replace HF := HF.on E;replace LW := LW.step E XLW
 have SB : ∀ q9, No q9 → Mut [(some gb3)] q9 := (Mut.skip Mut.nil_);replace HF := HF.less SB;replace XLW := fun k h => XLW k (SB k h);clear SB;replace E := erx (No) w4;replace HF := HF.and (Per.blkN Bb3 NotIn.nil)
 refine anx rfl (zj (srx (za rfl (zm Tryz.underlying28 rfl yp rfl (HF.on E).here.1.2 rfl (za rfl (zc gp rfl ((qe _ ua A1 B1 c1 d1 (HF.on E).here.1.1.1.2 hl true h1).mono ?_)))))));rintro e w5 ⟨rfl, hb⟩;refine ⟨_, rfl, ?_⟩;replace E := blx E hb
 refine za rfl (yi rfl (mvx rfl (onx rfl (zm Tryz.underlying28 rfl yp rfl (HF.on E).here.2 rfl (onx rfl (zc gp rfl ((qe _ ub A2 B2 c2 d2 (HF.on E).here.1.1.2 hl' false h2).mono ?_)))))));rintro e w6 ⟨rfl, hb⟩;refine ⟨_, rfl, ?_⟩;replace E := blx E hb
 refine onx rfl (yi rfl (za rfl (zi rfl rfl (rnx (yb rfl (srx (anx rfl (zl (zf (zk (rs := [.tmp 4]) (vs := [_]) rfl ⟨rfl, trivial⟩ ?_))))))))));exact ⟨by unfold eqV; rw [h1, h2]; rfl, (LW.step E XLW).toBelow⟩
theorem pl_eq3 (h1 : ua.good = true) (h2 : ub.good = true) (h3 : jh ua.k = true) (h4 : jh ub.k = true) : Calls Tryz.prog 8 #[.agg #[.int .i64 ua.k, .bool ua.yes, .bool ua.neg, .slice A1 ua.xs.length c1, .int .u64 ((ua.bits : Nat) : Int), .string ua.s, .slice B1 ua.ni d1], .agg #[.int .i64 ub.k, .bool ub.yes, .bool ub.neg, .slice A2 ub.xs.length c2, .int .u64 ((ub.bits : Nat) : Int), .string ub.s, .slice B2 ub.ni d2]] w fun e w' => e = .returned (.bool (eqV ua ub)) ∧ Below w.heap.size w w' := by
 have _ := hx; have _ := hl; have _ := ha; have _ := hy; have _ := hl'; have _ := hb0;refine zr Tryz.func8 rfl Tryz.ntmps8 rfl ?_;have HF : Per (No) w (fun _ => True) := Per.true_;have LW := erx (No) w;have XLW := grx (No) w;have E := erx (No) w;replace HF := HF.on E;replace LW := LW.step E XLW;replace E := erx (No) w;replace HF := HF.and (Per.nums0 hx);replace HF := HF.on E
 replace LW := LW.step E XLW;replace E := erx (No) w;replace HF := HF.and (Per.nums0 hy);refine srx (za rfl (zv rfl ?_));intro gb1 w2 Bb1 Eb1 Gb1;have Gb1 : _ ≤ gb1 := Nat.le_trans E.size Gb1;have GLb1 := Nat.le_trans LW.size Gb1;replace E := E.trans Eb1.no;replace HF := HF.cons (zg Gb1);replace E := E.cons (some gb1)
 replace XLW := Mut.grow XLW (fun k e => Or.inr (Nat.le_trans LW.size ((zg Gb1) k e)));replace HF := HF.on E;replace LW := LW.step E XLW;have SB : ∀ q9, No q9 → Mut [(some gb1)] q9 := (Mut.skip Mut.nil_);replace HF := HF.less SB;replace XLW := fun k h => XLW k (SB k h);clear SB;replace E := erx (No) w2;replace HF := HF.and (Per.blkN Bb1 NotIn.nil);refine za rfl (zv rfl ?_)
 intro gb3 w4 Bb3 Eb3 Gb3;have Gb3 : _ ≤ gb3 := Nat.le_trans E.size Gb3;have GLb3 := Nat.le_trans LW.size Gb3;replace E := E.trans Eb3.no;replace HF := HF.cons (zg Gb3);replace E := E.cons (some gb3);replace XLW := Mut.grow XLW (fun k e => Or.inr (Nat.le_trans LW.size ((zg Gb3) k e)));replace HF := HF.on E;replace LW := LW.step E XLW
 have SB : ∀ q9, No q9 → Mut [(some gb3)] q9 := (Mut.skip Mut.nil_);replace HF := HF.less SB;replace XLW := fun k h => XLW k (SB k h);clear SB;replace E := erx (No) w4;replace HF := HF.and (Per.blkN Bb3 NotIn.nil)
 refine anx rfl (zj (srx (za rfl (zm Tryz.underlying28 rfl yp rfl (HF.on E).here.1.2 rfl (za rfl (zc gp rfl ((qe _ ua A1 B1 c1 d1 (HF.on E).here.1.1.1.2 hl true h1).mono ?_)))))));rintro e w5 ⟨rfl, hb⟩;refine ⟨_, rfl, ?_⟩;replace E := blx E hb
 refine za rfl (yi rfl (mvx rfl (onx rfl (zm Tryz.underlying28 rfl yp rfl (HF.on E).here.2 rfl (onx rfl (zc gp rfl ((qe _ ub A2 B2 c2 d2 (HF.on E).here.1.1.2 hl' true h2).mono ?_)))))));rintro e w6 ⟨rfl, hb⟩;refine ⟨_, rfl, ?_⟩;replace E := blx E hb
 refine onx rfl (yi rfl (za rfl (zi rfl rfl (rnx (zt rfl (zp (zh (zj (srx (za rfl (zm Tryz.underlying28 rfl yp rfl (HF.on E).here.1.2 rfl (za rfl (zc en26 rfl ((xm _ ua A1 B1 c1 d1 true h3).mono ?_))))))))))))));rintro e w7 ⟨rfl, hb⟩;refine ⟨_, rfl, ?_⟩;replace E := blx E hb
 refine mvx rfl (onx rfl (zm Tryz.underlying28 rfl yp rfl (HF.on E).here.2 rfl (onx rfl (zc en26 rfl ((xm _ ub A2 B2 c2 d2 true h4).mono ?_)))));rintro e w8 ⟨rfl, hb⟩;refine ⟨_, rfl, ?_⟩;replace E := blx E hb
 refine za rfl (zq rfl rfl (rnx (yb rfl (srx (za rfl (zm Tryz.underlying28 rfl yp rfl (HF.on E).here.1.2 rfl (za rfl (zm Tryz.underlying28 rfl yp rfl (HF.on E).here.2 rfl (za rfl (zc en27 rfl ((pl_order _ ua ub A1 B1 A2 B2 c1 d1 c2 d2 (HF.on E).here.1.1.1.2 hl ha (HF.on E).here.1.1.2 hl' hb0).mono ?_)))))))))));rintro e w9 ⟨rfl, hb⟩;refine ⟨_, rfl, ?_⟩
 replace E := blx E hb;refine mvx rfl (za rfl (zo rfl rfl (za rfl (zo rfl rfl (avx rfl (anx rfl (srx (mvx rfl (mvx rfl ?_)))))))));by_cases ho : zgz ua ub = true
 ·
  refine zx 28 (.bool true) rfl ((by rw [ho] : (.bool (zgz ua ub) : Value) = _)) (onx rfl (zz rfl (onx rfl (ya rfl rfl (za rfl (zq rfl rfl (anx rfl (zl (zf (zk (rs := [.tmp 4]) (vs := [_]) rfl ⟨rfl, trivial⟩ ?_))))))))));exact ⟨by unfold eqV; rw [h1, h2, h3, h4, ho]; rfl, (LW.step E XLW).toBelow⟩
 ·
  have ho := Bool.eq_false_iff.2 ho;refine zx 28 (.bool false) rfl ((by rw [ho] : (.bool (zgz ua ub) : Value) = _)) (za rfl (zd rfl (za rfl (zd rfl (za rfl (zi rfl rfl (anx rfl (zl (zf (zk (rs := [.tmp 4]) (vs := [_]) rfl ⟨rfl, trivial⟩ ?_))))))))));exact ⟨by unfold eqV; rw [h1, h2, h3, h4, ho]; rfl, (LW.step E XLW).toBelow⟩
theorem pl_eq4 (h1 : ua.good = true) (h2 : ub.good = true) (h3 : jh ua.k = false) : Calls Tryz.prog 8 #[.agg #[.int .i64 ua.k, .bool ua.yes, .bool ua.neg, .slice A1 ua.xs.length c1, .int .u64 ((ua.bits : Nat) : Int), .string ua.s, .slice B1 ua.ni d1], .agg #[.int .i64 ub.k, .bool ub.yes, .bool ub.neg, .slice A2 ub.xs.length c2, .int .u64 ((ub.bits : Nat) : Int), .string ub.s, .slice B2 ub.ni d2]] w fun e w' => e = .returned (.bool (eqV ua ub)) ∧ Below w.heap.size w w' := by
 have _ := hx; have _ := hl; have _ := ha; have _ := hy; have _ := hl'; have _ := hb0;refine zr Tryz.func8 rfl Tryz.ntmps8 rfl ?_;have HF : Per (No) w (fun _ => True) := Per.true_;have LW := erx (No) w;have XLW := grx (No) w;have E := erx (No) w;replace HF := HF.on E;replace LW := LW.step E XLW;replace E := erx (No) w;replace HF := HF.and (Per.nums0 hx);replace HF := HF.on E
 replace LW := LW.step E XLW;replace E := erx (No) w;replace HF := HF.and (Per.nums0 hy);refine srx (za rfl (zv rfl ?_));intro gb1 w2 Bb1 Eb1 Gb1;have Gb1 : _ ≤ gb1 := Nat.le_trans E.size Gb1;have GLb1 := Nat.le_trans LW.size Gb1;replace E := E.trans Eb1.no;replace HF := HF.cons (zg Gb1);replace E := E.cons (some gb1)
 replace XLW := Mut.grow XLW (fun k e => Or.inr (Nat.le_trans LW.size ((zg Gb1) k e)));replace HF := HF.on E;replace LW := LW.step E XLW;have SB : ∀ q9, No q9 → Mut [(some gb1)] q9 := (Mut.skip Mut.nil_);replace HF := HF.less SB;replace XLW := fun k h => XLW k (SB k h);clear SB;replace E := erx (No) w2;replace HF := HF.and (Per.blkN Bb1 NotIn.nil);refine za rfl (zv rfl ?_)
 intro gb3 w4 Bb3 Eb3 Gb3;have Gb3 : _ ≤ gb3 := Nat.le_trans E.size Gb3;have GLb3 := Nat.le_trans LW.size Gb3;replace E := E.trans Eb3.no;replace HF := HF.cons (zg Gb3);replace E := E.cons (some gb3);replace XLW := Mut.grow XLW (fun k e => Or.inr (Nat.le_trans LW.size ((zg Gb3) k e)));replace HF := HF.on E;replace LW := LW.step E XLW
 have SB : ∀ q9, No q9 → Mut [(some gb3)] q9 := (Mut.skip Mut.nil_);replace HF := HF.less SB;replace XLW := fun k h => XLW k (SB k h);clear SB;replace E := erx (No) w4;replace HF := HF.and (Per.blkN Bb3 NotIn.nil)
 refine anx rfl (zj (srx (za rfl (zm Tryz.underlying28 rfl yp rfl (HF.on E).here.1.2 rfl (za rfl (zc gp rfl ((qe _ ua A1 B1 c1 d1 (HF.on E).here.1.1.1.2 hl true h1).mono ?_)))))));rintro e w5 ⟨rfl, hb⟩;refine ⟨_, rfl, ?_⟩;replace E := blx E hb
 refine za rfl (yi rfl (mvx rfl (onx rfl (zm Tryz.underlying28 rfl yp rfl (HF.on E).here.2 rfl (onx rfl (zc gp rfl ((qe _ ub A2 B2 c2 d2 (HF.on E).here.1.1.2 hl' true h2).mono ?_)))))));rintro e w6 ⟨rfl, hb⟩;refine ⟨_, rfl, ?_⟩;replace E := blx E hb
 refine onx rfl (yi rfl (za rfl (zi rfl rfl (rnx (zt rfl (zp (zh (zj (srx (za rfl (zm Tryz.underlying28 rfl yp rfl (HF.on E).here.1.2 rfl (za rfl (zc en26 rfl ((xm _ ua A1 B1 c1 d1 false h3).mono ?_))))))))))))));rintro e w7 ⟨rfl, hb⟩;refine ⟨_, rfl, ?_⟩;replace E := blx E hb
 refine mvx rfl (za rfl (zd rfl (za rfl (zd rfl (za rfl (zi rfl rfl (rnx (zt rfl (zp (zh (srx (za rfl (zb Tryz.underlying28 rfl sz3 (by decide) rfl (za rfl (ze Tryz.underlying3 rfl rfl (HF.on E).here.1.2 rfl (za rfl (zb Tryz.underlying28 rfl sz3 (by decide) rfl (za rfl (ze Tryz.underlying3 rfl rfl (HF.on E).here.2 rfl (za rfl (ya rfl rfl (mvx rfl ?_))))))))))))))))))))))
 by_cases ho : (ua.k == ub.k) = true
 ·
  refine zx 37 (.bool true) rfl ((by rw [ho] : (.bool (ua.k == ub.k) : Value) = _)) (onx rfl (zb Tryz.underlying28 rfl sz9 (by decide) rfl (onx rfl (ze Tryz.underlying9 rfl rfl (HF.on E).here.1.2 rfl (onx rfl (zb Tryz.underlying28 rfl sz9 (by decide) rfl (onx rfl (ze Tryz.underlying9 rfl rfl (HF.on E).here.2 rfl (onx rfl (kw rfl rfl (za rfl (zq rfl rfl (anx rfl (zl (zk (rs := [.tmp 4]) (vs := [_]) rfl ⟨rfl, trivial⟩ ?_)))))))))))))))
  exact ⟨by unfold eqV eqS; rw [h1, h2, h3, ho]; rfl, (LW.step E XLW).toBelow⟩
 ·
  have ho := Bool.eq_false_iff.2 ho;refine zx 37 (.bool false) rfl ((by rw [ho] : (.bool (ua.k == ub.k) : Value) = _)) (za rfl (zd rfl (za rfl (zd rfl (za rfl (zd rfl (za rfl (zd rfl (za rfl (zd rfl (za rfl (zi rfl rfl (anx rfl (zl (zk (rs := [.tmp 4]) (vs := [_]) rfl ⟨rfl, trivial⟩ ?_)))))))))))))))
  exact ⟨by unfold eqV eqS; rw [h1, h2, h3, ho]; rfl, (LW.step E XLW).toBelow⟩
theorem pl_eq5 (h1 : ua.good = true) (h2 : ub.good = true) (h3 : jh ua.k = true) (h4 : jh ub.k = false) : Calls Tryz.prog 8 #[.agg #[.int .i64 ua.k, .bool ua.yes, .bool ua.neg, .slice A1 ua.xs.length c1, .int .u64 ((ua.bits : Nat) : Int), .string ua.s, .slice B1 ua.ni d1], .agg #[.int .i64 ub.k, .bool ub.yes, .bool ub.neg, .slice A2 ub.xs.length c2, .int .u64 ((ub.bits : Nat) : Int), .string ub.s, .slice B2 ub.ni d2]] w fun e w' => e = .returned (.bool (eqV ua ub)) ∧ Below w.heap.size w w' := by
 have _ := hx; have _ := hl; have _ := ha; have _ := hy; have _ := hl'; have _ := hb0;refine zr Tryz.func8 rfl Tryz.ntmps8 rfl ?_;have HF : Per (No) w (fun _ => True) := Per.true_;have LW := erx (No) w;have XLW := grx (No) w;have E := erx (No) w;replace HF := HF.on E;replace LW := LW.step E XLW;replace E := erx (No) w;replace HF := HF.and (Per.nums0 hx);replace HF := HF.on E
 replace LW := LW.step E XLW;replace E := erx (No) w;replace HF := HF.and (Per.nums0 hy);refine srx (za rfl (zv rfl ?_));intro gb1 w2 Bb1 Eb1 Gb1;have Gb1 : _ ≤ gb1 := Nat.le_trans E.size Gb1;have GLb1 := Nat.le_trans LW.size Gb1;replace E := E.trans Eb1.no;replace HF := HF.cons (zg Gb1);replace E := E.cons (some gb1)
 replace XLW := Mut.grow XLW (fun k e => Or.inr (Nat.le_trans LW.size ((zg Gb1) k e)));replace HF := HF.on E;replace LW := LW.step E XLW;have SB : ∀ q9, No q9 → Mut [(some gb1)] q9 := (Mut.skip Mut.nil_);replace HF := HF.less SB;replace XLW := fun k h => XLW k (SB k h);clear SB;replace E := erx (No) w2;replace HF := HF.and (Per.blkN Bb1 NotIn.nil);refine za rfl (zv rfl ?_)
 intro gb3 w4 Bb3 Eb3 Gb3;have Gb3 : _ ≤ gb3 := Nat.le_trans E.size Gb3;have GLb3 := Nat.le_trans LW.size Gb3;replace E := E.trans Eb3.no;replace HF := HF.cons (zg Gb3);replace E := E.cons (some gb3);replace XLW := Mut.grow XLW (fun k e => Or.inr (Nat.le_trans LW.size ((zg Gb3) k e)));replace HF := HF.on E;replace LW := LW.step E XLW
 have SB : ∀ q9, No q9 → Mut [(some gb3)] q9 := (Mut.skip Mut.nil_);replace HF := HF.less SB;replace XLW := fun k h => XLW k (SB k h);clear SB;replace E := erx (No) w4;replace HF := HF.and (Per.blkN Bb3 NotIn.nil)
 refine anx rfl (zj (srx (za rfl (zm Tryz.underlying28 rfl yp rfl (HF.on E).here.1.2 rfl (za rfl (zc gp rfl ((qe _ ua A1 B1 c1 d1 (HF.on E).here.1.1.1.2 hl true h1).mono ?_)))))));rintro e w5 ⟨rfl, hb⟩;refine ⟨_, rfl, ?_⟩;replace E := blx E hb
 refine za rfl (yi rfl (mvx rfl (onx rfl (zm Tryz.underlying28 rfl yp rfl (HF.on E).here.2 rfl (onx rfl (zc gp rfl ((qe _ ub A2 B2 c2 d2 (HF.on E).here.1.1.2 hl' true h2).mono ?_)))))));rintro e w6 ⟨rfl, hb⟩;refine ⟨_, rfl, ?_⟩;replace E := blx E hb
 refine onx rfl (yi rfl (za rfl (zi rfl rfl (rnx (zt rfl (zp (zh (zj (srx (za rfl (zm Tryz.underlying28 rfl yp rfl (HF.on E).here.1.2 rfl (za rfl (zc en26 rfl ((xm _ ua A1 B1 c1 d1 true h3).mono ?_))))))))))))));rintro e w7 ⟨rfl, hb⟩;refine ⟨_, rfl, ?_⟩;replace E := blx E hb
 refine mvx rfl (onx rfl (zm Tryz.underlying28 rfl yp rfl (HF.on E).here.2 rfl (onx rfl (zc en26 rfl ((xm _ ub A2 B2 c2 d2 false h4).mono ?_)))));rintro e w8 ⟨rfl, hb⟩;refine ⟨_, rfl, ?_⟩;replace E := blx E hb
 refine za rfl (zq rfl rfl (rnx (zt rfl (zp (zh (srx (za rfl (zb Tryz.underlying28 rfl sz3 (by decide) rfl (za rfl (ze Tryz.underlying3 rfl rfl (HF.on E).here.1.2 rfl (za rfl (zb Tryz.underlying28 rfl sz3 (by decide) rfl (za rfl (ze Tryz.underlying3 rfl rfl (HF.on E).here.2 rfl (za rfl (ya rfl rfl (mvx rfl ?_)))))))))))))))))
 by_cases ho : (ua.k == ub.k) = true
 ·
  refine zx 37 (.bool true) rfl ((by rw [ho] : (.bool (ua.k == ub.k) : Value) = _)) (onx rfl (zb Tryz.underlying28 rfl sz9 (by decide) rfl (onx rfl (ze Tryz.underlying9 rfl rfl (HF.on E).here.1.2 rfl (onx rfl (zb Tryz.underlying28 rfl sz9 (by decide) rfl (onx rfl (ze Tryz.underlying9 rfl rfl (HF.on E).here.2 rfl (onx rfl (kw rfl rfl (za rfl (zq rfl rfl (anx rfl (zl (zk (rs := [.tmp 4]) (vs := [_]) rfl ⟨rfl, trivial⟩ ?_)))))))))))))))
  exact ⟨by unfold eqV eqS; rw [h1, h2, h3, h4, ho]; rfl, (LW.step E XLW).toBelow⟩
 ·
  have ho := Bool.eq_false_iff.2 ho;refine zx 37 (.bool false) rfl ((by rw [ho] : (.bool (ua.k == ub.k) : Value) = _)) (za rfl (zd rfl (za rfl (zd rfl (za rfl (zd rfl (za rfl (zd rfl (za rfl (zd rfl (za rfl (zi rfl rfl (anx rfl (zl (zk (rs := [.tmp 4]) (vs := [_]) rfl ⟨rfl, trivial⟩ ?_)))))))))))))))
  exact ⟨by unfold eqV eqS; rw [h1, h2, h3, h4, ho]; rfl, (LW.step E XLW).toBelow⟩
theorem pl_equal : Calls Tryz.prog 8 #[.agg #[.int .i64 ua.k, .bool ua.yes, .bool ua.neg, .slice A1 ua.xs.length c1, .int .u64 ((ua.bits : Nat) : Int), .string ua.s, .slice B1 ua.ni d1], .agg #[.int .i64 ub.k, .bool ub.yes, .bool ub.neg, .slice A2 ub.xs.length c2, .int .u64 ((ub.bits : Nat) : Int), .string ub.s, .slice B2 ub.ni d2]] w fun e w' => e = .returned (.bool (eqV ua ub)) ∧ Below w.heap.size w w' := by
 cases h1 : ua.good
 · exact pl_eq1 w ua ub A1 B1 A2 B2 c1 d1 c2 d2 hx hl ha hy hl' hb0 h1
 cases h2 : ub.good
 · exact pl_eq2 w ua ub A1 B1 A2 B2 c1 d1 c2 d2 hx hl ha hy hl' hb0 h1 h2
 cases h3 : jh ua.k
 · exact pl_eq4 w ua ub A1 B1 A2 B2 c1 d1 c2 d2 hx hl ha hy hl' hb0 h1 h2 h3
 cases h4 : jh ub.k
 · exact pl_eq5 w ua ub A1 B1 A2 B2 c1 d1 c2 d2 hx hl ha hy hl' hb0 h1 h2 h3 h4
 · exact pl_eq3 w ua ub A1 B1 A2 B2 c1 d1 c2 d2 hx hl ha hy hl' hb0 h1 h2 h3 h4
theorem pl_or1 (h1 : ua.good = false) : Calls Tryz.prog 6 #[.agg #[.int .i64 ua.k, .bool ua.yes, .bool ua.neg, .slice A1 ua.xs.length c1, .int .u64 ((ua.bits : Nat) : Int), .string ua.s, .slice B1 ua.ni d1], .agg #[.int .i64 ub.k, .bool ub.yes, .bool ub.neg, .slice A2 ub.xs.length c2, .int .u64 ((ub.bits : Nat) : Int), .string ub.s, .slice B2 ub.ni d2]] w fun e w' => e = .returned (.tuple #[.int .i64 (vb ua ub).1, .bool (vb ua ub).2.1, .int .i64 (vb ua ub).2.2]) ∧ Below w.heap.size w w' := by
 have _ := hx; have _ := hl; have _ := ha; have _ := hy; have _ := hl'; have _ := hb0;refine zr Tryz.func6 rfl Tryz.ntmps6 rfl ?_;have HF : Per (No) w (fun _ => True) := Per.true_;have LW := erx (No) w;have XLW := grx (No) w;have E := erx (No) w;replace HF := HF.on E;replace LW := LW.step E XLW;replace E := erx (No) w;replace HF := HF.and (Per.nums0 hx);replace HF := HF.on E
 replace LW := LW.step E XLW;replace E := erx (No) w;replace HF := HF.and (Per.nums0 hy);refine srx (za rfl (zv rfl ?_));intro gb1 w2 Bb1 Eb1 Gb1;have Gb1 : _ ≤ gb1 := Nat.le_trans E.size Gb1;have GLb1 := Nat.le_trans LW.size Gb1;replace E := E.trans Eb1.no;replace HF := HF.cons (zg Gb1);replace E := E.cons (some gb1)
 replace XLW := Mut.grow XLW (fun k e => Or.inr (Nat.le_trans LW.size ((zg Gb1) k e)));replace HF := HF.on E;replace LW := LW.step E XLW;have SB : ∀ q9, No q9 → Mut [(some gb1)] q9 := (Mut.skip Mut.nil_);replace HF := HF.less SB;replace XLW := fun k h => XLW k (SB k h);clear SB;replace E := erx (No) w2;replace HF := HF.and (Per.blkN Bb1 NotIn.nil);refine za rfl (zv rfl ?_)
 intro gb3 w4 Bb3 Eb3 Gb3;have Gb3 : _ ≤ gb3 := Nat.le_trans E.size Gb3;have GLb3 := Nat.le_trans LW.size Gb3;replace E := E.trans Eb3.no;replace HF := HF.cons (zg Gb3);replace E := E.cons (some gb3);replace XLW := Mut.grow XLW (fun k e => Or.inr (Nat.le_trans LW.size ((zg Gb3) k e)));replace HF := HF.on E;replace LW := LW.step E XLW
 have SB : ∀ q9, No q9 → Mut [(some gb3)] q9 := (Mut.skip Mut.nil_);replace HF := HF.less SB;replace XLW := fun k h => XLW k (SB k h);clear SB;replace E := erx (No) w4;replace HF := HF.and (Per.blkN Bb3 NotIn.nil)
 refine avx rfl (avx rfl (anx rfl (zj (srx (za rfl (zm Tryz.underlying28 rfl yp rfl (HF.on E).here.1.2 rfl (za rfl (zc gp rfl ((qe _ ua A1 B1 c1 d1 (HF.on E).here.1.1.1.2 hl false h1).mono ?_)))))))));rintro e w5 ⟨rfl, hb⟩;refine ⟨_, rfl, ?_⟩;replace E := blx E hb
 refine za rfl (yi rfl (mvx rfl (za rfl (zd rfl (za rfl (zd rfl (za rfl (zd rfl (za rfl (zq rfl rfl (rnx (yb rfl (srx (avx rfl (avx rfl (anx rfl (zl (zf (zk (rs := [.tmp 4, .tmp 5, .tmp 6]) (vs := [_, _, _]) rfl ⟨rfl, rfl, rfl, trivial⟩ ?_)))))))))))))))))));exact ⟨by unfold vb; rw [h1]; rfl, (LW.step E XLW).toBelow⟩
theorem pl_or2 (h1 : ua.good = true) (h2 : ub.good = false) : Calls Tryz.prog 6 #[.agg #[.int .i64 ua.k, .bool ua.yes, .bool ua.neg, .slice A1 ua.xs.length c1, .int .u64 ((ua.bits : Nat) : Int), .string ua.s, .slice B1 ua.ni d1], .agg #[.int .i64 ub.k, .bool ub.yes, .bool ub.neg, .slice A2 ub.xs.length c2, .int .u64 ((ub.bits : Nat) : Int), .string ub.s, .slice B2 ub.ni d2]] w fun e w' => e = .returned (.tuple #[.int .i64 (vb ua ub).1, .bool (vb ua ub).2.1, .int .i64 (vb ua ub).2.2]) ∧ Below w.heap.size w w' := by
 have _ := hx; have _ := hl; have _ := ha; have _ := hy; have _ := hl'; have _ := hb0;refine zr Tryz.func6 rfl Tryz.ntmps6 rfl ?_;have HF : Per (No) w (fun _ => True) := Per.true_;have LW := erx (No) w;have XLW := grx (No) w;have E := erx (No) w;replace HF := HF.on E;replace LW := LW.step E XLW;replace E := erx (No) w;replace HF := HF.and (Per.nums0 hx);replace HF := HF.on E
 replace LW := LW.step E XLW;replace E := erx (No) w;replace HF := HF.and (Per.nums0 hy);refine srx (za rfl (zv rfl ?_));intro gb1 w2 Bb1 Eb1 Gb1;have Gb1 : _ ≤ gb1 := Nat.le_trans E.size Gb1;have GLb1 := Nat.le_trans LW.size Gb1;replace E := E.trans Eb1.no;replace HF := HF.cons (zg Gb1);replace E := E.cons (some gb1)
 replace XLW := Mut.grow XLW (fun k e => Or.inr (Nat.le_trans LW.size ((zg Gb1) k e)));replace HF := HF.on E;replace LW := LW.step E XLW;have SB : ∀ q9, No q9 → Mut [(some gb1)] q9 := (Mut.skip Mut.nil_);replace HF := HF.less SB;replace XLW := fun k h => XLW k (SB k h);clear SB;replace E := erx (No) w2;replace HF := HF.and (Per.blkN Bb1 NotIn.nil);refine za rfl (zv rfl ?_)
 intro gb3 w4 Bb3 Eb3 Gb3;have Gb3 : _ ≤ gb3 := Nat.le_trans E.size Gb3;have GLb3 := Nat.le_trans LW.size Gb3;replace E := E.trans Eb3.no;replace HF := HF.cons (zg Gb3);replace E := E.cons (some gb3);replace XLW := Mut.grow XLW (fun k e => Or.inr (Nat.le_trans LW.size ((zg Gb3) k e)));replace HF := HF.on E;replace LW := LW.step E XLW
 have SB : ∀ q9, No q9 → Mut [(some gb3)] q9 := (Mut.skip Mut.nil_);replace HF := HF.less SB;replace XLW := fun k h => XLW k (SB k h);clear SB;replace E := erx (No) w4;replace HF := HF.and (Per.blkN Bb3 NotIn.nil)
 refine avx rfl (avx rfl (anx rfl (zj (srx (za rfl (zm Tryz.underlying28 rfl yp rfl (HF.on E).here.1.2 rfl (za rfl (zc gp rfl ((qe _ ua A1 B1 c1 d1 (HF.on E).here.1.1.1.2 hl true h1).mono ?_)))))))));rintro e w5 ⟨rfl, hb⟩;refine ⟨_, rfl, ?_⟩;replace E := blx E hb
 refine za rfl (yi rfl (mvx rfl (onx rfl (zm Tryz.underlying28 rfl yp rfl (HF.on E).here.2 rfl (onx rfl (zc gp rfl ((qe _ ub A2 B2 c2 d2 (HF.on E).here.1.1.2 hl' false h2).mono ?_)))))));rintro e w6 ⟨rfl, hb⟩;refine ⟨_, rfl, ?_⟩;replace E := blx E hb
 refine onx rfl (yi rfl (za rfl (zi rfl rfl (rnx (yb rfl (srx (avx rfl (avx rfl (anx rfl (zl (zf (zk (rs := [.tmp 4, .tmp 5, .tmp 6]) (vs := [_, _, _]) rfl ⟨rfl, rfl, rfl, trivial⟩ ?_))))))))))));exact ⟨by unfold vb; rw [h1, h2]; rfl, (LW.step E XLW).toBelow⟩
theorem pl_or3 (h1 : ua.good = true) (h2 : ub.good = true) (h3 : jh ua.k = true) (h4 : jh ub.k = true) : Calls Tryz.prog 6 #[.agg #[.int .i64 ua.k, .bool ua.yes, .bool ua.neg, .slice A1 ua.xs.length c1, .int .u64 ((ua.bits : Nat) : Int), .string ua.s, .slice B1 ua.ni d1], .agg #[.int .i64 ub.k, .bool ub.yes, .bool ub.neg, .slice A2 ub.xs.length c2, .int .u64 ((ub.bits : Nat) : Int), .string ub.s, .slice B2 ub.ni d2]] w fun e w' => e = .returned (.tuple #[.int .i64 (vb ua ub).1, .bool (vb ua ub).2.1, .int .i64 (vb ua ub).2.2]) ∧ Below w.heap.size w w' := by
 have _ := hx; have _ := hl; have _ := ha; have _ := hy; have _ := hl'; have _ := hb0;refine zr Tryz.func6 rfl Tryz.ntmps6 rfl ?_;have HF : Per (No) w (fun _ => True) := Per.true_;have LW := erx (No) w;have XLW := grx (No) w;have E := erx (No) w;replace HF := HF.on E;replace LW := LW.step E XLW;replace E := erx (No) w;replace HF := HF.and (Per.nums0 hx);replace HF := HF.on E
 replace LW := LW.step E XLW;replace E := erx (No) w;replace HF := HF.and (Per.nums0 hy);refine srx (za rfl (zv rfl ?_));intro gb1 w2 Bb1 Eb1 Gb1;have Gb1 : _ ≤ gb1 := Nat.le_trans E.size Gb1;have GLb1 := Nat.le_trans LW.size Gb1;replace E := E.trans Eb1.no;replace HF := HF.cons (zg Gb1);replace E := E.cons (some gb1)
 replace XLW := Mut.grow XLW (fun k e => Or.inr (Nat.le_trans LW.size ((zg Gb1) k e)));replace HF := HF.on E;replace LW := LW.step E XLW;have SB : ∀ q9, No q9 → Mut [(some gb1)] q9 := (Mut.skip Mut.nil_);replace HF := HF.less SB;replace XLW := fun k h => XLW k (SB k h);clear SB;replace E := erx (No) w2;replace HF := HF.and (Per.blkN Bb1 NotIn.nil);refine za rfl (zv rfl ?_)
 intro gb3 w4 Bb3 Eb3 Gb3;have Gb3 : _ ≤ gb3 := Nat.le_trans E.size Gb3;have GLb3 := Nat.le_trans LW.size Gb3;replace E := E.trans Eb3.no;replace HF := HF.cons (zg Gb3);replace E := E.cons (some gb3);replace XLW := Mut.grow XLW (fun k e => Or.inr (Nat.le_trans LW.size ((zg Gb3) k e)));replace HF := HF.on E;replace LW := LW.step E XLW
 have SB : ∀ q9, No q9 → Mut [(some gb3)] q9 := (Mut.skip Mut.nil_);replace HF := HF.less SB;replace XLW := fun k h => XLW k (SB k h);clear SB;replace E := erx (No) w4;replace HF := HF.and (Per.blkN Bb3 NotIn.nil)
 refine avx rfl (avx rfl (anx rfl (zj (srx (za rfl (zm Tryz.underlying28 rfl yp rfl (HF.on E).here.1.2 rfl (za rfl (zc gp rfl ((qe _ ua A1 B1 c1 d1 (HF.on E).here.1.1.1.2 hl true h1).mono ?_)))))))));rintro e w5 ⟨rfl, hb⟩;refine ⟨_, rfl, ?_⟩;replace E := blx E hb
 refine za rfl (yi rfl (mvx rfl (onx rfl (zm Tryz.underlying28 rfl yp rfl (HF.on E).here.2 rfl (onx rfl (zc gp rfl ((qe _ ub A2 B2 c2 d2 (HF.on E).here.1.1.2 hl' true h2).mono ?_)))))));rintro e w6 ⟨rfl, hb⟩;refine ⟨_, rfl, ?_⟩;replace E := blx E hb
 refine onx rfl (yi rfl (za rfl (zi rfl rfl (rnx (zt rfl (zp (zh (zj (srx (za rfl (zm Tryz.underlying28 rfl yp rfl (HF.on E).here.1.2 rfl (za rfl (zc en26 rfl ((xm _ ua A1 B1 c1 d1 true h3).mono ?_))))))))))))));rintro e w7 ⟨rfl, hb⟩;refine ⟨_, rfl, ?_⟩;replace E := blx E hb
 refine mvx rfl (onx rfl (zm Tryz.underlying28 rfl yp rfl (HF.on E).here.2 rfl (onx rfl (zc en26 rfl ((xm _ ub A2 B2 c2 d2 true h4).mono ?_)))));rintro e w8 ⟨rfl, hb⟩;refine ⟨_, rfl, ?_⟩;replace E := blx E hb
 refine za rfl (zq rfl rfl (rnx (yb rfl (srx (za rfl (zm Tryz.underlying28 rfl yp rfl (HF.on E).here.1.2 rfl (za rfl (zm Tryz.underlying28 rfl yp rfl (HF.on E).here.2 rfl (za rfl (zc en27 rfl ((pl_order _ ua ub A1 B1 A2 B2 c1 d1 c2 d2 (HF.on E).here.1.1.1.2 hl ha (HF.on E).here.1.1.2 hl' hb0).mono ?_)))))))))));rintro e w9 ⟨rfl, hb⟩;refine ⟨_, rfl, ?_⟩
 replace E := blx E hb;refine mvx rfl (za rfl (zo rfl rfl (za rfl (zo rfl rfl (avx rfl (anx rfl (srx (mvx rfl (mvx rfl (avx rfl (avx rfl (anx rfl (zl (zf (zk (rs := [.tmp 4, .tmp 5, .tmp 6]) (vs := [_, _, _]) rfl ⟨rfl, rfl, rfl, trivial⟩ ?_)))))))))))))));exact ⟨by unfold vb; rw [h1, h2, h3, h4]; rfl, (LW.step E XLW).toBelow⟩
theorem pl_or4 (h1 : ua.good = true) (h2 : ub.good = true) (h3 : jh ua.k = false) : Calls Tryz.prog 6 #[.agg #[.int .i64 ua.k, .bool ua.yes, .bool ua.neg, .slice A1 ua.xs.length c1, .int .u64 ((ua.bits : Nat) : Int), .string ua.s, .slice B1 ua.ni d1], .agg #[.int .i64 ub.k, .bool ub.yes, .bool ub.neg, .slice A2 ub.xs.length c2, .int .u64 ((ub.bits : Nat) : Int), .string ub.s, .slice B2 ub.ni d2]] w fun e w' => e = .returned (.tuple #[.int .i64 (vb ua ub).1, .bool (vb ua ub).2.1, .int .i64 (vb ua ub).2.2]) ∧ Below w.heap.size w w' := by
 have _ := hx; have _ := hl; have _ := ha; have _ := hy; have _ := hl'; have _ := hb0;refine zr Tryz.func6 rfl Tryz.ntmps6 rfl ?_;have HF : Per (No) w (fun _ => True) := Per.true_;have LW := erx (No) w;have XLW := grx (No) w;have E := erx (No) w;replace HF := HF.on E;replace LW := LW.step E XLW;replace E := erx (No) w;replace HF := HF.and (Per.nums0 hx);replace HF := HF.on E
 replace LW := LW.step E XLW;replace E := erx (No) w;replace HF := HF.and (Per.nums0 hy);refine srx (za rfl (zv rfl ?_));intro gb1 w2 Bb1 Eb1 Gb1;have Gb1 : _ ≤ gb1 := Nat.le_trans E.size Gb1;have GLb1 := Nat.le_trans LW.size Gb1;replace E := E.trans Eb1.no;replace HF := HF.cons (zg Gb1);replace E := E.cons (some gb1)
 replace XLW := Mut.grow XLW (fun k e => Or.inr (Nat.le_trans LW.size ((zg Gb1) k e)));replace HF := HF.on E;replace LW := LW.step E XLW;have SB : ∀ q9, No q9 → Mut [(some gb1)] q9 := (Mut.skip Mut.nil_);replace HF := HF.less SB;replace XLW := fun k h => XLW k (SB k h);clear SB;replace E := erx (No) w2;replace HF := HF.and (Per.blkN Bb1 NotIn.nil);refine za rfl (zv rfl ?_)
 intro gb3 w4 Bb3 Eb3 Gb3;have Gb3 : _ ≤ gb3 := Nat.le_trans E.size Gb3;have GLb3 := Nat.le_trans LW.size Gb3;replace E := E.trans Eb3.no;replace HF := HF.cons (zg Gb3);replace E := E.cons (some gb3);replace XLW := Mut.grow XLW (fun k e => Or.inr (Nat.le_trans LW.size ((zg Gb3) k e)));replace HF := HF.on E;replace LW := LW.step E XLW
 have SB : ∀ q9, No q9 → Mut [(some gb3)] q9 := (Mut.skip Mut.nil_);replace HF := HF.less SB;replace XLW := fun k h => XLW k (SB k h);clear SB;replace E := erx (No) w4;replace HF := HF.and (Per.blkN Bb3 NotIn.nil)
 refine avx rfl (avx rfl (anx rfl (zj (srx (za rfl (zm Tryz.underlying28 rfl yp rfl (HF.on E).here.1.2 rfl (za rfl (zc gp rfl ((qe _ ua A1 B1 c1 d1 (HF.on E).here.1.1.1.2 hl true h1).mono ?_)))))))));rintro e w5 ⟨rfl, hb⟩;refine ⟨_, rfl, ?_⟩;replace E := blx E hb
 refine za rfl (yi rfl (mvx rfl (onx rfl (zm Tryz.underlying28 rfl yp rfl (HF.on E).here.2 rfl (onx rfl (zc gp rfl ((qe _ ub A2 B2 c2 d2 (HF.on E).here.1.1.2 hl' true h2).mono ?_)))))));rintro e w6 ⟨rfl, hb⟩;refine ⟨_, rfl, ?_⟩;replace E := blx E hb
 refine onx rfl (yi rfl (za rfl (zi rfl rfl (rnx (zt rfl (zp (zh (zj (srx (za rfl (zm Tryz.underlying28 rfl yp rfl (HF.on E).here.1.2 rfl (za rfl (zc en26 rfl ((xm _ ua A1 B1 c1 d1 false h3).mono ?_))))))))))))));rintro e w7 ⟨rfl, hb⟩;refine ⟨_, rfl, ?_⟩;replace E := blx E hb
 refine mvx rfl (za rfl (zd rfl (za rfl (zd rfl (za rfl (zi rfl rfl (rnx (zt rfl (zp (zh (zj (srx (za rfl (zb Tryz.underlying28 rfl sz3 (by decide) rfl (za rfl (ze Tryz.underlying3 rfl rfl (HF.on E).here.1.2 rfl (za rfl (ya rfl rfl (mvx rfl ?_)))))))))))))))))));by_cases hk : (ua.k == 4) = true
 ·
  refine zx 34 (.bool true) rfl ((by rw [hk] : (.bool (ua.k == 4) : Value) = _)) (onx rfl (zb Tryz.underlying28 rfl sz3 (by decide) rfl (onx rfl (ze Tryz.underlying3 rfl rfl (HF.on E).here.2 rfl (onx rfl (ya rfl rfl (za rfl (zq rfl rfl (rnx (ym rfl (fun hj => ?_) (fun hj => ?_)))))))))))
  ·
   refine srx (za rfl (zb Tryz.underlying28 rfl sz9 (by decide) rfl (za rfl (ze Tryz.underlying9 rfl rfl (HF.on E).here.1.2 rfl (za rfl (zb Tryz.underlying28 rfl sz9 (by decide) rfl (za rfl (ze Tryz.underlying9 rfl rfl (HF.on E).here.2 rfl (za rfl (zc en28 rfl (((Tryz.strings_Compare ua.s ub.s _)).mono ?_)))))))))));rintro e w8 ⟨rfl, rfl⟩
   refine ⟨_, rfl, (avx rfl (avx rfl (anx rfl (zl (zf (zk (rs := [.tmp 4, .tmp 5, .tmp 6]) (vs := [_, _, _]) rfl ⟨rfl, rfl, rfl, trivial⟩ ?_))))))⟩;exact ⟨by unfold vb; rw [h1, h2, h3, hk, hj]; rfl, (LW.step E XLW).toBelow⟩
  ·
   refine zp (zh (srx (avx rfl (avx rfl (anx rfl (zl (zk (rs := [.tmp 4, .tmp 5, .tmp 6]) (vs := [_, _, _]) rfl ⟨rfl, rfl, rfl, trivial⟩ ?_)))))));exact ⟨by unfold vb; rw [h1, h2, h3, hk, hj]; rfl, (LW.step E XLW).toBelow⟩
 ·
  have hk := Bool.eq_false_iff.2 hk
  refine zx 34 (.bool false) rfl ((by rw [hk] : (.bool (ua.k == 4) : Value) = _)) (za rfl (zd rfl (za rfl (zd rfl (za rfl (zd rfl (za rfl (zi rfl rfl (rnx (zt rfl (zp (zh (srx (avx rfl (avx rfl (anx rfl (zl (zk (rs := [.tmp 4, .tmp 5, .tmp 6]) (vs := [_, _, _]) rfl ⟨rfl, rfl, rfl, trivial⟩ ?_))))))))))))))))))
  exact ⟨by unfold vb; rw [h1, h2, h3, hk]; rfl, (LW.step E XLW).toBelow⟩
theorem pl_or5 (h1 : ua.good = true) (h2 : ub.good = true) (h3 : jh ua.k = true) (h4 : jh ub.k = false) : Calls Tryz.prog 6 #[.agg #[.int .i64 ua.k, .bool ua.yes, .bool ua.neg, .slice A1 ua.xs.length c1, .int .u64 ((ua.bits : Nat) : Int), .string ua.s, .slice B1 ua.ni d1], .agg #[.int .i64 ub.k, .bool ub.yes, .bool ub.neg, .slice A2 ub.xs.length c2, .int .u64 ((ub.bits : Nat) : Int), .string ub.s, .slice B2 ub.ni d2]] w fun e w' => e = .returned (.tuple #[.int .i64 (vb ua ub).1, .bool (vb ua ub).2.1, .int .i64 (vb ua ub).2.2]) ∧ Below w.heap.size w w' := by
 have _ := hx; have _ := hl; have _ := ha; have _ := hy; have _ := hl'; have _ := hb0;refine zr Tryz.func6 rfl Tryz.ntmps6 rfl ?_;have HF : Per (No) w (fun _ => True) := Per.true_;have LW := erx (No) w;have XLW := grx (No) w;have E := erx (No) w;replace HF := HF.on E;replace LW := LW.step E XLW;replace E := erx (No) w;replace HF := HF.and (Per.nums0 hx);replace HF := HF.on E
 replace LW := LW.step E XLW;replace E := erx (No) w;replace HF := HF.and (Per.nums0 hy);refine srx (za rfl (zv rfl ?_));intro gb1 w2 Bb1 Eb1 Gb1;have Gb1 : _ ≤ gb1 := Nat.le_trans E.size Gb1;have GLb1 := Nat.le_trans LW.size Gb1;replace E := E.trans Eb1.no;replace HF := HF.cons (zg Gb1);replace E := E.cons (some gb1)
 replace XLW := Mut.grow XLW (fun k e => Or.inr (Nat.le_trans LW.size ((zg Gb1) k e)));replace HF := HF.on E;replace LW := LW.step E XLW;have SB : ∀ q9, No q9 → Mut [(some gb1)] q9 := (Mut.skip Mut.nil_);replace HF := HF.less SB;replace XLW := fun k h => XLW k (SB k h);clear SB;replace E := erx (No) w2;replace HF := HF.and (Per.blkN Bb1 NotIn.nil);refine za rfl (zv rfl ?_)
 intro gb3 w4 Bb3 Eb3 Gb3;have Gb3 : _ ≤ gb3 := Nat.le_trans E.size Gb3;have GLb3 := Nat.le_trans LW.size Gb3;replace E := E.trans Eb3.no;replace HF := HF.cons (zg Gb3);replace E := E.cons (some gb3);replace XLW := Mut.grow XLW (fun k e => Or.inr (Nat.le_trans LW.size ((zg Gb3) k e)));replace HF := HF.on E;replace LW := LW.step E XLW
 have SB : ∀ q9, No q9 → Mut [(some gb3)] q9 := (Mut.skip Mut.nil_);replace HF := HF.less SB;replace XLW := fun k h => XLW k (SB k h);clear SB;replace E := erx (No) w4;replace HF := HF.and (Per.blkN Bb3 NotIn.nil)
 refine avx rfl (avx rfl (anx rfl (zj (srx (za rfl (zm Tryz.underlying28 rfl yp rfl (HF.on E).here.1.2 rfl (za rfl (zc gp rfl ((qe _ ua A1 B1 c1 d1 (HF.on E).here.1.1.1.2 hl true h1).mono ?_)))))))));rintro e w5 ⟨rfl, hb⟩;refine ⟨_, rfl, ?_⟩;replace E := blx E hb
 refine za rfl (yi rfl (mvx rfl (onx rfl (zm Tryz.underlying28 rfl yp rfl (HF.on E).here.2 rfl (onx rfl (zc gp rfl ((qe _ ub A2 B2 c2 d2 (HF.on E).here.1.1.2 hl' true h2).mono ?_)))))));rintro e w6 ⟨rfl, hb⟩;refine ⟨_, rfl, ?_⟩;replace E := blx E hb
 refine onx rfl (yi rfl (za rfl (zi rfl rfl (rnx (zt rfl (zp (zh (zj (srx (za rfl (zm Tryz.underlying28 rfl yp rfl (HF.on E).here.1.2 rfl (za rfl (zc en26 rfl ((xm _ ua A1 B1 c1 d1 true h3).mono ?_))))))))))))));rintro e w7 ⟨rfl, hb⟩;refine ⟨_, rfl, ?_⟩;replace E := blx E hb
 refine mvx rfl (onx rfl (zm Tryz.underlying28 rfl yp rfl (HF.on E).here.2 rfl (onx rfl (zc en26 rfl ((xm _ ub A2 B2 c2 d2 false h4).mono ?_)))));rintro e w8 ⟨rfl, hb⟩;refine ⟨_, rfl, ?_⟩;replace E := blx E hb
 refine za rfl (zq rfl rfl (rnx (zt rfl (zp (zh (zj (srx (za rfl (zb Tryz.underlying28 rfl sz3 (by decide) rfl (za rfl (ze Tryz.underlying3 rfl rfl (HF.on E).here.1.2 rfl (za rfl (ya rfl rfl (mvx rfl ?_))))))))))))));by_cases hk : (ua.k == 4) = true
 ·
  refine zx 34 (.bool true) rfl ((by rw [hk] : (.bool (ua.k == 4) : Value) = _)) (onx rfl (zb Tryz.underlying28 rfl sz3 (by decide) rfl (onx rfl (ze Tryz.underlying3 rfl rfl (HF.on E).here.2 rfl (onx rfl (ya rfl rfl (za rfl (zq rfl rfl (rnx (ym rfl (fun hj => ?_) (fun hj => ?_)))))))))))
  ·
   refine srx (za rfl (zb Tryz.underlying28 rfl sz9 (by decide) rfl (za rfl (ze Tryz.underlying9 rfl rfl (HF.on E).here.1.2 rfl (za rfl (zb Tryz.underlying28 rfl sz9 (by decide) rfl (za rfl (ze Tryz.underlying9 rfl rfl (HF.on E).here.2 rfl (za rfl (zc en28 rfl (((Tryz.strings_Compare ua.s ub.s _)).mono ?_)))))))))));rintro e w9 ⟨rfl, rfl⟩
   refine ⟨_, rfl, (avx rfl (avx rfl (anx rfl (zl (zf (zk (rs := [.tmp 4, .tmp 5, .tmp 6]) (vs := [_, _, _]) rfl ⟨rfl, rfl, rfl, trivial⟩ ?_))))))⟩;exact ⟨by unfold vb; rw [h1, h2, h3, h4, hk, hj]; rfl, (LW.step E XLW).toBelow⟩
  ·
   refine zp (zh (srx (avx rfl (avx rfl (anx rfl (zl (zk (rs := [.tmp 4, .tmp 5, .tmp 6]) (vs := [_, _, _]) rfl ⟨rfl, rfl, rfl, trivial⟩ ?_)))))));exact ⟨by unfold vb; rw [h1, h2, h3, h4, hk, hj]; rfl, (LW.step E XLW).toBelow⟩
 ·
  have hk := Bool.eq_false_iff.2 hk
  refine zx 34 (.bool false) rfl ((by rw [hk] : (.bool (ua.k == 4) : Value) = _)) (za rfl (zd rfl (za rfl (zd rfl (za rfl (zd rfl (za rfl (zi rfl rfl (rnx (zt rfl (zp (zh (srx (avx rfl (avx rfl (anx rfl (zl (zk (rs := [.tmp 4, .tmp 5, .tmp 6]) (vs := [_, _, _]) rfl ⟨rfl, rfl, rfl, trivial⟩ ?_))))))))))))))))))
  exact ⟨by unfold vb; rw [h1, h2, h3, h4, hk]; rfl, (LW.step E XLW).toBelow⟩
theorem pl_orders : Calls Tryz.prog 6 #[.agg #[.int .i64 ua.k, .bool ua.yes, .bool ua.neg, .slice A1 ua.xs.length c1, .int .u64 ((ua.bits : Nat) : Int), .string ua.s, .slice B1 ua.ni d1], .agg #[.int .i64 ub.k, .bool ub.yes, .bool ub.neg, .slice A2 ub.xs.length c2, .int .u64 ((ub.bits : Nat) : Int), .string ub.s, .slice B2 ub.ni d2]] w fun e w' => e = .returned (.tuple #[.int .i64 (vb ua ub).1, .bool (vb ua ub).2.1, .int .i64 (vb ua ub).2.2]) ∧ Below w.heap.size w w' := by
 cases h1 : ua.good
 · exact pl_or1 w ua ub A1 B1 A2 B2 c1 d1 c2 d2 hx hl ha hy hl' hb0 h1
 cases h2 : ub.good
 · exact pl_or2 w ua ub A1 B1 A2 B2 c1 d1 c2 d2 hx hl ha hy hl' hb0 h1 h2
 cases h3 : jh ua.k
 · exact pl_or4 w ua ub A1 B1 A2 B2 c1 d1 c2 d2 hx hl ha hy hl' hb0 h1 h2 h3
 cases h4 : jh ub.k
 · exact pl_or5 w ua ub A1 B1 A2 B2 c1 d1 c2 d2 hx hl ha hy hl' hb0 h1 h2 h3 h4
 · exact pl_or3 w ua ub A1 B1 A2 B2 c1 d1 c2 d2 hx hl ha hy hl' hb0 h1 h2 h3 h4
theorem pl_sm1 (h1 : ua.good = false) : Calls Tryz.prog 9 #[.agg #[.int .i64 ua.k, .bool ua.yes, .bool ua.neg, .slice A1 ua.xs.length c1, .int .u64 ((ua.bits : Nat) : Int), .string ua.s, .slice B1 ua.ni d1], .agg #[.int .i64 ub.k, .bool ub.yes, .bool ub.neg, .slice A2 ub.xs.length c2, .int .u64 ((ub.bits : Nat) : Int), .string ub.s, .slice B2 ub.ni d2]] w fun e w' => e = .returned (.bool (je ua ub)) ∧ Below w.heap.size w w' := by
 have _ := hx; have _ := hl; have _ := ha; have _ := hy; have _ := hl'; have _ := hb0;refine zr Tryz.func9 rfl Tryz.ntmps9 rfl ?_;have HF : Per (No) w (fun _ => True) := Per.true_;have LW := erx (No) w;have XLW := grx (No) w;have E := erx (No) w;replace HF := HF.on E;replace LW := LW.step E XLW;replace E := erx (No) w;replace HF := HF.and (Per.nums0 hx);replace HF := HF.on E
 replace LW := LW.step E XLW;replace E := erx (No) w;replace HF := HF.and (Per.nums0 hy);refine srx (za rfl (zv rfl ?_));intro gb1 w2 Bb1 Eb1 Gb1;have Gb1 : _ ≤ gb1 := Nat.le_trans E.size Gb1;have GLb1 := Nat.le_trans LW.size Gb1;replace E := E.trans Eb1.no;replace HF := HF.cons (zg Gb1);replace E := E.cons (some gb1)
 replace XLW := Mut.grow XLW (fun k e => Or.inr (Nat.le_trans LW.size ((zg Gb1) k e)));replace HF := HF.on E;replace LW := LW.step E XLW;have SB : ∀ q9, No q9 → Mut [(some gb1)] q9 := (Mut.skip Mut.nil_);replace HF := HF.less SB;replace XLW := fun k h => XLW k (SB k h);clear SB;replace E := erx (No) w2;replace HF := HF.and (Per.blkN Bb1 NotIn.nil);refine za rfl (zv rfl ?_)
 intro gb3 w4 Bb3 Eb3 Gb3;have Gb3 : _ ≤ gb3 := Nat.le_trans E.size Gb3;have GLb3 := Nat.le_trans LW.size Gb3;replace E := E.trans Eb3.no;replace HF := HF.cons (zg Gb3);replace E := E.cons (some gb3);replace XLW := Mut.grow XLW (fun k e => Or.inr (Nat.le_trans LW.size ((zg Gb3) k e)));replace HF := HF.on E;replace LW := LW.step E XLW
 have SB : ∀ q9, No q9 → Mut [(some gb3)] q9 := (Mut.skip Mut.nil_);replace HF := HF.less SB;replace XLW := fun k h => XLW k (SB k h);clear SB;replace E := erx (No) w4;replace HF := HF.and (Per.blkN Bb3 NotIn.nil)
 refine anx rfl (zj (srx (za rfl (zm Tryz.underlying28 rfl yp rfl (HF.on E).here.1.2 rfl (za rfl (zc gp rfl ((qe _ ua A1 B1 c1 d1 (HF.on E).here.1.1.1.2 hl false h1).mono ?_)))))));rintro e w5 ⟨rfl, hb⟩;refine ⟨_, rfl, ?_⟩;replace E := blx E hb
 refine za rfl (yi rfl (mvx rfl (za rfl (zd rfl (za rfl (zd rfl (za rfl (zd rfl (za rfl (zq rfl rfl (mvx rfl (za rfl (zd rfl (za rfl (zd rfl (za rfl (zd rfl (za rfl (zd rfl (za rfl (zd rfl (za rfl (zq rfl rfl (rnx (yb rfl (srx (anx rfl (zl (zf (zk (rs := [.tmp 4]) (vs := [_]) rfl ⟨rfl, trivial⟩ ?_))))))))))))))))))))))))))))))
 exact ⟨by unfold je; rw [h1]; rfl, (LW.step E XLW).toBelow⟩
theorem pl_sm2 (h1 : ua.good = true) (h2 : ub.good = false) : Calls Tryz.prog 9 #[.agg #[.int .i64 ua.k, .bool ua.yes, .bool ua.neg, .slice A1 ua.xs.length c1, .int .u64 ((ua.bits : Nat) : Int), .string ua.s, .slice B1 ua.ni d1], .agg #[.int .i64 ub.k, .bool ub.yes, .bool ub.neg, .slice A2 ub.xs.length c2, .int .u64 ((ub.bits : Nat) : Int), .string ub.s, .slice B2 ub.ni d2]] w fun e w' => e = .returned (.bool (je ua ub)) ∧ Below w.heap.size w w' := by
 have _ := hx; have _ := hl; have _ := ha; have _ := hy; have _ := hl'; have _ := hb0;refine zr Tryz.func9 rfl Tryz.ntmps9 rfl ?_;have HF : Per (No) w (fun _ => True) := Per.true_;have LW := erx (No) w;have XLW := grx (No) w;have E := erx (No) w;replace HF := HF.on E;replace LW := LW.step E XLW;replace E := erx (No) w;replace HF := HF.and (Per.nums0 hx);replace HF := HF.on E
 replace LW := LW.step E XLW;replace E := erx (No) w;replace HF := HF.and (Per.nums0 hy);refine srx (za rfl (zv rfl ?_));intro gb1 w2 Bb1 Eb1 Gb1;have Gb1 : _ ≤ gb1 := Nat.le_trans E.size Gb1;have GLb1 := Nat.le_trans LW.size Gb1;replace E := E.trans Eb1.no;replace HF := HF.cons (zg Gb1);replace E := E.cons (some gb1)
 replace XLW := Mut.grow XLW (fun k e => Or.inr (Nat.le_trans LW.size ((zg Gb1) k e)));replace HF := HF.on E;replace LW := LW.step E XLW;have SB : ∀ q9, No q9 → Mut [(some gb1)] q9 := (Mut.skip Mut.nil_);replace HF := HF.less SB;replace XLW := fun k h => XLW k (SB k h);clear SB;replace E := erx (No) w2;replace HF := HF.and (Per.blkN Bb1 NotIn.nil);refine za rfl (zv rfl ?_)
 intro gb3 w4 Bb3 Eb3 Gb3;have Gb3 : _ ≤ gb3 := Nat.le_trans E.size Gb3;have GLb3 := Nat.le_trans LW.size Gb3;replace E := E.trans Eb3.no;replace HF := HF.cons (zg Gb3);replace E := E.cons (some gb3);replace XLW := Mut.grow XLW (fun k e => Or.inr (Nat.le_trans LW.size ((zg Gb3) k e)));replace HF := HF.on E;replace LW := LW.step E XLW
 have SB : ∀ q9, No q9 → Mut [(some gb3)] q9 := (Mut.skip Mut.nil_);replace HF := HF.less SB;replace XLW := fun k h => XLW k (SB k h);clear SB;replace E := erx (No) w4;replace HF := HF.and (Per.blkN Bb3 NotIn.nil)
 refine anx rfl (zj (srx (za rfl (zm Tryz.underlying28 rfl yp rfl (HF.on E).here.1.2 rfl (za rfl (zc gp rfl ((qe _ ua A1 B1 c1 d1 (HF.on E).here.1.1.1.2 hl true h1).mono ?_)))))));rintro e w5 ⟨rfl, hb⟩;refine ⟨_, rfl, ?_⟩;replace E := blx E hb
 refine za rfl (yi rfl (mvx rfl (onx rfl (zm Tryz.underlying28 rfl yp rfl (HF.on E).here.2 rfl (onx rfl (zc gp rfl ((qe _ ub A2 B2 c2 d2 (HF.on E).here.1.1.2 hl' false h2).mono ?_)))))));rintro e w6 ⟨rfl, hb⟩;refine ⟨_, rfl, ?_⟩;replace E := blx E hb
 refine onx rfl (yi rfl (za rfl (zi rfl rfl (mvx rfl (za rfl (zd rfl (za rfl (zd rfl (za rfl (zd rfl (za rfl (zd rfl (za rfl (zd rfl (za rfl (zq rfl rfl (rnx (yb rfl (srx (anx rfl (zl (zf (zk (rs := [.tmp 4]) (vs := [_]) rfl ⟨rfl, trivial⟩ ?_)))))))))))))))))))))))
 exact ⟨by unfold je; rw [h1, h2]; rfl, (LW.step E XLW).toBelow⟩
theorem pl_sm3 (h1 : ua.good = true) (h2 : ub.good = true) (h3 : (ua.k == ub.k) = false) : Calls Tryz.prog 9 #[.agg #[.int .i64 ua.k, .bool ua.yes, .bool ua.neg, .slice A1 ua.xs.length c1, .int .u64 ((ua.bits : Nat) : Int), .string ua.s, .slice B1 ua.ni d1], .agg #[.int .i64 ub.k, .bool ub.yes, .bool ub.neg, .slice A2 ub.xs.length c2, .int .u64 ((ub.bits : Nat) : Int), .string ub.s, .slice B2 ub.ni d2]] w fun e w' => e = .returned (.bool (je ua ub)) ∧ Below w.heap.size w w' := by
 have _ := hx; have _ := hl; have _ := ha; have _ := hy; have _ := hl'; have _ := hb0;refine zr Tryz.func9 rfl Tryz.ntmps9 rfl ?_;have HF : Per (No) w (fun _ => True) := Per.true_;have LW := erx (No) w;have XLW := grx (No) w;have E := erx (No) w;replace HF := HF.on E;replace LW := LW.step E XLW;replace E := erx (No) w;replace HF := HF.and (Per.nums0 hx);replace HF := HF.on E
 replace LW := LW.step E XLW;replace E := erx (No) w;replace HF := HF.and (Per.nums0 hy);refine srx (za rfl (zv rfl ?_));intro gb1 w2 Bb1 Eb1 Gb1;have Gb1 : _ ≤ gb1 := Nat.le_trans E.size Gb1;have GLb1 := Nat.le_trans LW.size Gb1;replace E := E.trans Eb1.no;replace HF := HF.cons (zg Gb1);replace E := E.cons (some gb1)
 replace XLW := Mut.grow XLW (fun k e => Or.inr (Nat.le_trans LW.size ((zg Gb1) k e)));replace HF := HF.on E;replace LW := LW.step E XLW;have SB : ∀ q9, No q9 → Mut [(some gb1)] q9 := (Mut.skip Mut.nil_);replace HF := HF.less SB;replace XLW := fun k h => XLW k (SB k h);clear SB;replace E := erx (No) w2;replace HF := HF.and (Per.blkN Bb1 NotIn.nil);refine za rfl (zv rfl ?_)
 intro gb3 w4 Bb3 Eb3 Gb3;have Gb3 : _ ≤ gb3 := Nat.le_trans E.size Gb3;have GLb3 := Nat.le_trans LW.size Gb3;replace E := E.trans Eb3.no;replace HF := HF.cons (zg Gb3);replace E := E.cons (some gb3);replace XLW := Mut.grow XLW (fun k e => Or.inr (Nat.le_trans LW.size ((zg Gb3) k e)));replace HF := HF.on E;replace LW := LW.step E XLW
 have SB : ∀ q9, No q9 → Mut [(some gb3)] q9 := (Mut.skip Mut.nil_);replace HF := HF.less SB;replace XLW := fun k h => XLW k (SB k h);clear SB;replace E := erx (No) w4;replace HF := HF.and (Per.blkN Bb3 NotIn.nil)
 refine anx rfl (zj (srx (za rfl (zm Tryz.underlying28 rfl yp rfl (HF.on E).here.1.2 rfl (za rfl (zc gp rfl ((qe _ ua A1 B1 c1 d1 (HF.on E).here.1.1.1.2 hl true h1).mono ?_)))))));rintro e w5 ⟨rfl, hb⟩;refine ⟨_, rfl, ?_⟩;replace E := blx E hb
 refine za rfl (yi rfl (mvx rfl (onx rfl (zm Tryz.underlying28 rfl yp rfl (HF.on E).here.2 rfl (onx rfl (zc gp rfl ((qe _ ub A2 B2 c2 d2 (HF.on E).here.1.1.2 hl' true h2).mono ?_)))))));rintro e w6 ⟨rfl, hb⟩;refine ⟨_, rfl, ?_⟩;replace E := blx E hb
 refine onx rfl (yi rfl (za rfl (zi rfl rfl (mvx rfl (onx rfl (zb Tryz.underlying28 rfl sz3 (by decide) rfl (onx rfl (ze Tryz.underlying3 rfl rfl (HF.on E).here.1.2 rfl (onx rfl (zb Tryz.underlying28 rfl sz3 (by decide) rfl (onx rfl (ze Tryz.underlying3 rfl rfl (HF.on E).here.2 rfl (onx rfl (qf rfl rfl (za rfl (zi rfl rfl (rnx (zu 19 (.bool true) rfl ((by show Value.bool (!(ua.k == ub.k)) = _; rw [h3]; rfl : (.bool (ua.k != ub.k) : Value) = _)) (yb rfl (srx (anx rfl (zl (zf (zk (rs := [.tmp 4]) (vs := [_]) rfl ⟨rfl, trivial⟩ ?_))))))))))))))))))))))))
 exact ⟨by unfold je; rw [h1, h2, h3]; rfl, (LW.step E XLW).toBelow⟩
theorem pl_sm4 (h1 : ua.good = true) (h2 : ub.good = true) (h3 : (ua.k == ub.k) = true) (h4 : ua.k = 2) : Calls Tryz.prog 9 #[.agg #[.int .i64 ua.k, .bool ua.yes, .bool ua.neg, .slice A1 ua.xs.length c1, .int .u64 ((ua.bits : Nat) : Int), .string ua.s, .slice B1 ua.ni d1], .agg #[.int .i64 ub.k, .bool ub.yes, .bool ub.neg, .slice A2 ub.xs.length c2, .int .u64 ((ub.bits : Nat) : Int), .string ub.s, .slice B2 ub.ni d2]] w fun e w' => e = .returned (.bool (je ua ub)) ∧ Below w.heap.size w w' := by
 have _ := hx; have _ := hl; have _ := ha; have _ := hy; have _ := hl'; have _ := hb0;refine zr Tryz.func9 rfl Tryz.ntmps9 rfl ?_;have HF : Per (No) w (fun _ => True) := Per.true_;have LW := erx (No) w;have XLW := grx (No) w;have E := erx (No) w;replace HF := HF.on E;replace LW := LW.step E XLW;replace E := erx (No) w;replace HF := HF.and (Per.nums0 hx);replace HF := HF.on E
 replace LW := LW.step E XLW;replace E := erx (No) w;replace HF := HF.and (Per.nums0 hy);refine srx (za rfl (zv rfl ?_));intro gb1 w2 Bb1 Eb1 Gb1;have Gb1 : _ ≤ gb1 := Nat.le_trans E.size Gb1;have GLb1 := Nat.le_trans LW.size Gb1;replace E := E.trans Eb1.no;replace HF := HF.cons (zg Gb1);replace E := E.cons (some gb1)
 replace XLW := Mut.grow XLW (fun k e => Or.inr (Nat.le_trans LW.size ((zg Gb1) k e)));replace HF := HF.on E;replace LW := LW.step E XLW;have SB : ∀ q9, No q9 → Mut [(some gb1)] q9 := (Mut.skip Mut.nil_);replace HF := HF.less SB;replace XLW := fun k h => XLW k (SB k h);clear SB;replace E := erx (No) w2;replace HF := HF.and (Per.blkN Bb1 NotIn.nil);refine za rfl (zv rfl ?_)
 intro gb3 w4 Bb3 Eb3 Gb3;have Gb3 : _ ≤ gb3 := Nat.le_trans E.size Gb3;have GLb3 := Nat.le_trans LW.size Gb3;replace E := E.trans Eb3.no;replace HF := HF.cons (zg Gb3);replace E := E.cons (some gb3);replace XLW := Mut.grow XLW (fun k e => Or.inr (Nat.le_trans LW.size ((zg Gb3) k e)));replace HF := HF.on E;replace LW := LW.step E XLW
 have SB : ∀ q9, No q9 → Mut [(some gb3)] q9 := (Mut.skip Mut.nil_);replace HF := HF.less SB;replace XLW := fun k h => XLW k (SB k h);clear SB;replace E := erx (No) w4;replace HF := HF.and (Per.blkN Bb3 NotIn.nil)
 refine anx rfl (zj (srx (za rfl (zm Tryz.underlying28 rfl yp rfl (HF.on E).here.1.2 rfl (za rfl (zc gp rfl ((qe _ ua A1 B1 c1 d1 (HF.on E).here.1.1.1.2 hl true h1).mono ?_)))))));rintro e w5 ⟨rfl, hb⟩;refine ⟨_, rfl, ?_⟩;replace E := blx E hb
 refine za rfl (yi rfl (mvx rfl (onx rfl (zm Tryz.underlying28 rfl yp rfl (HF.on E).here.2 rfl (onx rfl (zc gp rfl ((qe _ ub A2 B2 c2 d2 (HF.on E).here.1.1.2 hl' true h2).mono ?_)))))));rintro e w6 ⟨rfl, hb⟩;refine ⟨_, rfl, ?_⟩;replace E := blx E hb
 refine onx rfl (yi rfl (za rfl (zi rfl rfl (mvx rfl (onx rfl (zb Tryz.underlying28 rfl sz3 (by decide) rfl (onx rfl (ze Tryz.underlying3 rfl rfl (HF.on E).here.1.2 rfl (onx rfl (zb Tryz.underlying28 rfl sz3 (by decide) rfl (onx rfl (ze Tryz.underlying3 rfl rfl (HF.on E).here.2 rfl (onx rfl (qf rfl rfl (za rfl (zi rfl rfl (rnx (zu 19 (.bool false) rfl ((by show Value.bool (!(ua.k == ub.k)) = _; rw [h3]; rfl : (.bool (ua.k != ub.k) : Value) = _)) (zt rfl (zp (zh (zj (srx (za rfl (zb Tryz.underlying28 rfl sz3 (by decide) rfl (za rfl (ze Tryz.underlying3 rfl rfl (HF.on E).here.1.2 rfl (rnx (yh (srx (za rfl (ya rfl rfl (anx rfl (zu 22 (.bool true) rfl ((by simp [h4] : (.bool (ua.k == 2) : Value) = _)) (yb rfl (srx (za rfl (zb Tryz.underlying28 rfl yw (by decide) rfl (za rfl (og Tryz.underlying24 rfl yw rfl (HF.on E).here.1.2 rfl rfl (za rfl (zb Tryz.underlying28 rfl yw (by decide) rfl (za rfl (og Tryz.underlying24 rfl yw rfl (HF.on E).here.2 rfl rfl (za rfl (zc en29 rfl ((cmp_any A1 A2 c1 c2 ua.xs ub.xs _ ua.neg ub.neg (HF.on E).here.1.1.1.2 (HF.on E).here.1.1.2 hl hl').mono ?_)))))))))))))))))))))))))))))))))))))))))))))))
 rintro e w7 ⟨rfl, hb⟩;refine ⟨_, rfl, ?_⟩;replace E := blx E hb;refine za rfl (ya rfl rfl (anx rfl (zl (zw (zf (zk (rs := [.tmp 4]) (vs := [_]) rfl ⟨rfl, trivial⟩ ?_))))));exact ⟨by unfold je; rw [h1, h2, h3, if_pos h4]; rfl, (LW.step E XLW).toBelow⟩
theorem pl_sm5 (h1 : ua.good = true) (h2 : ub.good = true) (h3 : (ua.k == ub.k) = true) (h4 : ua.k = 3) : Calls Tryz.prog 9 #[.agg #[.int .i64 ua.k, .bool ua.yes, .bool ua.neg, .slice A1 ua.xs.length c1, .int .u64 ((ua.bits : Nat) : Int), .string ua.s, .slice B1 ua.ni d1], .agg #[.int .i64 ub.k, .bool ub.yes, .bool ub.neg, .slice A2 ub.xs.length c2, .int .u64 ((ub.bits : Nat) : Int), .string ub.s, .slice B2 ub.ni d2]] w fun e w' => e = .returned (.bool (je ua ub)) ∧ Below w.heap.size w w' := by
 have _ := hx; have _ := hl; have _ := ha; have _ := hy; have _ := hl'; have _ := hb0;refine zr Tryz.func9 rfl Tryz.ntmps9 rfl ?_;have HF : Per (No) w (fun _ => True) := Per.true_;have LW := erx (No) w;have XLW := grx (No) w;have E := erx (No) w;replace HF := HF.on E;replace LW := LW.step E XLW;replace E := erx (No) w;replace HF := HF.and (Per.nums0 hx);replace HF := HF.on E
 replace LW := LW.step E XLW;replace E := erx (No) w;replace HF := HF.and (Per.nums0 hy);refine srx (za rfl (zv rfl ?_));intro gb1 w2 Bb1 Eb1 Gb1;have Gb1 : _ ≤ gb1 := Nat.le_trans E.size Gb1;have GLb1 := Nat.le_trans LW.size Gb1;replace E := E.trans Eb1.no;replace HF := HF.cons (zg Gb1);replace E := E.cons (some gb1)
 replace XLW := Mut.grow XLW (fun k e => Or.inr (Nat.le_trans LW.size ((zg Gb1) k e)));replace HF := HF.on E;replace LW := LW.step E XLW;have SB : ∀ q9, No q9 → Mut [(some gb1)] q9 := (Mut.skip Mut.nil_);replace HF := HF.less SB;replace XLW := fun k h => XLW k (SB k h);clear SB;replace E := erx (No) w2;replace HF := HF.and (Per.blkN Bb1 NotIn.nil);refine za rfl (zv rfl ?_)
 intro gb3 w4 Bb3 Eb3 Gb3;have Gb3 : _ ≤ gb3 := Nat.le_trans E.size Gb3;have GLb3 := Nat.le_trans LW.size Gb3;replace E := E.trans Eb3.no;replace HF := HF.cons (zg Gb3);replace E := E.cons (some gb3);replace XLW := Mut.grow XLW (fun k e => Or.inr (Nat.le_trans LW.size ((zg Gb3) k e)));replace HF := HF.on E;replace LW := LW.step E XLW
 have SB : ∀ q9, No q9 → Mut [(some gb3)] q9 := (Mut.skip Mut.nil_);replace HF := HF.less SB;replace XLW := fun k h => XLW k (SB k h);clear SB;replace E := erx (No) w4;replace HF := HF.and (Per.blkN Bb3 NotIn.nil)
 refine anx rfl (zj (srx (za rfl (zm Tryz.underlying28 rfl yp rfl (HF.on E).here.1.2 rfl (za rfl (zc gp rfl ((qe _ ua A1 B1 c1 d1 (HF.on E).here.1.1.1.2 hl true h1).mono ?_)))))));rintro e w5 ⟨rfl, hb⟩;refine ⟨_, rfl, ?_⟩;replace E := blx E hb
 refine za rfl (yi rfl (mvx rfl (onx rfl (zm Tryz.underlying28 rfl yp rfl (HF.on E).here.2 rfl (onx rfl (zc gp rfl ((qe _ ub A2 B2 c2 d2 (HF.on E).here.1.1.2 hl' true h2).mono ?_)))))));rintro e w6 ⟨rfl, hb⟩;refine ⟨_, rfl, ?_⟩;replace E := blx E hb
 refine onx rfl (yi rfl (za rfl (zi rfl rfl (mvx rfl (onx rfl (zb Tryz.underlying28 rfl sz3 (by decide) rfl (onx rfl (ze Tryz.underlying3 rfl rfl (HF.on E).here.1.2 rfl (onx rfl (zb Tryz.underlying28 rfl sz3 (by decide) rfl (onx rfl (ze Tryz.underlying3 rfl rfl (HF.on E).here.2 rfl (onx rfl (qf rfl rfl (za rfl (zi rfl rfl (rnx (zu 19 (.bool false) rfl ((by show Value.bool (!(ua.k == ub.k)) = _; rw [h3]; rfl : (.bool (ua.k != ub.k) : Value) = _)) (zt rfl (zp (zh (zj (srx (za rfl (zb Tryz.underlying28 rfl sz3 (by decide) rfl (za rfl (ze Tryz.underlying3 rfl rfl (HF.on E).here.1.2 rfl (rnx (yh (srx (za rfl (ya rfl rfl (anx rfl (zu 22 (.bool false) rfl ((by simp [h4] : (.bool (ua.k == 2) : Value) = _)) (zt rfl (srx (za rfl (ya rfl rfl (anx rfl (zu 30 (.bool true) rfl ((by simp [h4] : (.bool (ua.k == 3) : Value) = _)) (yb rfl (zj ?_))))))))))))))))))))))))))))))))))))))))))
 have OY : ∀ q9, (Mut (zaq [])) q9 → q9 < (World.drew w6).heap.size → (No) q9 := fun k h _ => (Mut.none_) k h;refine vc (No) Mut.none_ [] [] (zdv [Fx.of (.pointer (some ⟨gb1, 4, none⟩)),
  Fx.of (.int .u64 ((ua.bits : Nat) : Int)),
  Fx.of (.int .u64 ((yt (yn ua.bits) : Nat) : Int)),
  Fx.of (.pointer (some ⟨gb3, 4, none⟩)),
  Fx.of (.int .u64 ((ub.bits : Nat) : Int)),
  Fx.of (.int .u64 ((yt (yn ub.bits) : Nat) : Int)),
  Fx.of (.bool (((yt (yn ua.bits) : Nat) : Int) == ((yt (yn ub.bits) : Nat) : Int))),
  Fx.of (.bool (((yt (yn ua.bits) : Nat) : Int) == ((yt (yn ub.bits) : Nat) : Int)))]) mixed rfl trivial (fun _ h => by cases h) ?_ ?_
 · refine ⟨?_, ?_, ?_, ?_, ?_, ?_, ?_, ?_, trivial⟩
   · intro vs X wq K;exact zb Tryz.underlying28 rfl kz (by decide) rfl ⟨Below.refl _ _, Left.of rfl⟩
   · intro vs X wq K;have LE := K.1;obtain ⟨_, e0, k0⟩ := K.dep 0 rfl rfl rfl;refine zn 32 (.pointer (some ⟨gb1, 4, none⟩)) rfl e0 ?_;exact ze Tryz.underlying25 rfl rfl (HF.on (E.drew.trans (LE.mono OY))).here.1.2 rfl ⟨Below.refl _ _, Left.of rfl⟩
   · intro vs X wq K;obtain ⟨_, e1, k1⟩ := K.dep 1 rfl rfl rfl;refine zn 33 (.int .u64 ((ua.bits : Nat) : Int)) rfl e1 (zc en30 rfl ((neg_any_r _ ua.bits).mono ?_));rintro e w2 ⟨rfl, hb⟩;exact ⟨_, rfl, hb, Left.of rfl⟩
   · intro vs X wq K;exact zb Tryz.underlying28 rfl kz (by decide) rfl ⟨Below.refl _ _, Left.of rfl⟩
   · intro vs X wq K;have LE := K.1;obtain ⟨_, e3, k3⟩ := K.dep 3 rfl rfl rfl;refine zn 35 (.pointer (some ⟨gb3, 4, none⟩)) rfl e3 ?_;exact ze Tryz.underlying25 rfl rfl (HF.on (E.drew.trans (LE.mono OY))).here.2 rfl ⟨Below.refl _ _, Left.of rfl⟩
   · intro vs X wq K;obtain ⟨_, e4, k4⟩ := K.dep 4 rfl rfl rfl;refine zn 36 (.int .u64 ((ub.bits : Nat) : Int)) rfl e4 (zc en30 rfl ((neg_any_r _ ub.bits).mono ?_));rintro e w2 ⟨rfl, hb⟩;exact ⟨_, rfl, hb, Left.of rfl⟩
   · intro vs X wq K;obtain ⟨_, e2, k2⟩ := K.dep 2 rfl rfl rfl;refine zn 34 (.int .u64 ((yt (yn ua.bits) : Nat) : Int)) rfl e2 ?_;obtain ⟨_, e5, k5⟩ := K.dep 5 rfl rfl rfl;refine zn 37 (.int .u64 ((yt (yn ub.bits) : Nat) : Int)) rfl e5 ?_;exact ya rfl rfl ⟨Below.refl _ _, Left.of rfl⟩
   · intro vs X wq K;obtain ⟨_, e6, k6⟩ := K.dep 6 rfl rfl rfl;refine zn 38 (.bool (((yt (yn ua.bits) : Nat) : Int) == ((yt (yn ub.bits) : Nat) : Int))) rfl e6 ?_;exact qd rfl ⟨Below.refl _ _, Left.of rfl⟩
 intro vs w7 LE AO AL AF AA;replace E := E.drew.trans (LE.mono OY);obtain ⟨_, e7, k7⟩ := AL.2.2.2.2.2.2.2.1;refine gg (τ := [(2, _), (3, _), (4, .bool (((yt (yn ua.bits) : Nat) : Int) == ((yt (yn ub.bits) : Nat) : Int)))]) ⟨rfl, rfl, congrArg some e7, trivial⟩ ?_;clear AL AF AA LE AO OY e7 k7
 refine zh (zl (zw (zf (zk (rs := [.tmp 4]) (vs := [_]) rfl ⟨rfl, trivial⟩ ?_))));exact ⟨by unfold je; rw [h1, h2, h3, if_neg (show ¬ ua.k = 2 by omega), if_pos h4]; rfl, (LW.step E XLW).toBelow⟩
theorem pl_sm6 (h1 : ua.good = true) (h2 : ub.good = true) (h3 : (ua.k == ub.k) = true) (h4 : ua.k ≠ 2) (h5 : ua.k ≠ 3) : Calls Tryz.prog 9 #[.agg #[.int .i64 ua.k, .bool ua.yes, .bool ua.neg, .slice A1 ua.xs.length c1, .int .u64 ((ua.bits : Nat) : Int), .string ua.s, .slice B1 ua.ni d1], .agg #[.int .i64 ub.k, .bool ub.yes, .bool ub.neg, .slice A2 ub.xs.length c2, .int .u64 ((ub.bits : Nat) : Int), .string ub.s, .slice B2 ub.ni d2]] w fun e w' => e = .returned (.bool (je ua ub)) ∧ Below w.heap.size w w' := by
 have _ := hx; have _ := hl; have _ := ha; have _ := hy; have _ := hl'; have _ := hb0;refine zr Tryz.func9 rfl Tryz.ntmps9 rfl ?_;have HF : Per (No) w (fun _ => True) := Per.true_;have LW := erx (No) w;have XLW := grx (No) w;have E := erx (No) w;replace HF := HF.on E;replace LW := LW.step E XLW;replace E := erx (No) w;replace HF := HF.and (Per.nums0 hx);replace HF := HF.on E
 replace LW := LW.step E XLW;replace E := erx (No) w;replace HF := HF.and (Per.nums0 hy);refine srx (za rfl (zv rfl ?_));intro gb1 w2 Bb1 Eb1 Gb1;have Gb1 : _ ≤ gb1 := Nat.le_trans E.size Gb1;have GLb1 := Nat.le_trans LW.size Gb1;replace E := E.trans Eb1.no;replace HF := HF.cons (zg Gb1);replace E := E.cons (some gb1)
 replace XLW := Mut.grow XLW (fun k e => Or.inr (Nat.le_trans LW.size ((zg Gb1) k e)));replace HF := HF.on E;replace LW := LW.step E XLW;have SB : ∀ q9, No q9 → Mut [(some gb1)] q9 := (Mut.skip Mut.nil_);replace HF := HF.less SB;replace XLW := fun k h => XLW k (SB k h);clear SB;replace E := erx (No) w2;replace HF := HF.and (Per.blkN Bb1 NotIn.nil);refine za rfl (zv rfl ?_)
 intro gb3 w4 Bb3 Eb3 Gb3;have Gb3 : _ ≤ gb3 := Nat.le_trans E.size Gb3;have GLb3 := Nat.le_trans LW.size Gb3;replace E := E.trans Eb3.no;replace HF := HF.cons (zg Gb3);replace E := E.cons (some gb3);replace XLW := Mut.grow XLW (fun k e => Or.inr (Nat.le_trans LW.size ((zg Gb3) k e)));replace HF := HF.on E;replace LW := LW.step E XLW
 have SB : ∀ q9, No q9 → Mut [(some gb3)] q9 := (Mut.skip Mut.nil_);replace HF := HF.less SB;replace XLW := fun k h => XLW k (SB k h);clear SB;replace E := erx (No) w4;replace HF := HF.and (Per.blkN Bb3 NotIn.nil)
 refine anx rfl (zj (srx (za rfl (zm Tryz.underlying28 rfl yp rfl (HF.on E).here.1.2 rfl (za rfl (zc gp rfl ((qe _ ua A1 B1 c1 d1 (HF.on E).here.1.1.1.2 hl true h1).mono ?_)))))));rintro e w5 ⟨rfl, hb⟩;refine ⟨_, rfl, ?_⟩;replace E := blx E hb
 refine za rfl (yi rfl (mvx rfl (onx rfl (zm Tryz.underlying28 rfl yp rfl (HF.on E).here.2 rfl (onx rfl (zc gp rfl ((qe _ ub A2 B2 c2 d2 (HF.on E).here.1.1.2 hl' true h2).mono ?_)))))));rintro e w6 ⟨rfl, hb⟩;refine ⟨_, rfl, ?_⟩;replace E := blx E hb
 refine onx rfl (yi rfl (za rfl (zi rfl rfl (mvx rfl (onx rfl (zb Tryz.underlying28 rfl sz3 (by decide) rfl (onx rfl (ze Tryz.underlying3 rfl rfl (HF.on E).here.1.2 rfl (onx rfl (zb Tryz.underlying28 rfl sz3 (by decide) rfl (onx rfl (ze Tryz.underlying3 rfl rfl (HF.on E).here.2 rfl (onx rfl (qf rfl rfl (za rfl (zi rfl rfl (rnx (zu 19 (.bool false) rfl ((by show Value.bool (!(ua.k == ub.k)) = _; rw [h3]; rfl : (.bool (ua.k != ub.k) : Value) = _)) (zt rfl (zp (zh (zj (srx (za rfl (zb Tryz.underlying28 rfl sz3 (by decide) rfl (za rfl (ze Tryz.underlying3 rfl rfl (HF.on E).here.1.2 rfl (rnx (yh (srx (za rfl (ya rfl rfl (anx rfl (zu 22 (.bool false) rfl ((by simp [h4] : (.bool (ua.k == 2) : Value) = _)) (zt rfl (srx (za rfl (ya rfl rfl (anx rfl (zu 30 (.bool false) rfl ((by simp [h5] : (.bool (ua.k == 3) : Value) = _)) (zt rfl (zp ?_))))))))))))))))))))))))))))))))))))))))))
 refine zy (zh (srx (za rfl (zb Tryz.underlying28 rfl sz4 (by decide) rfl (za rfl (ze Tryz.underlying4 rfl rfl (HF.on E).here.1.2 rfl (za rfl (zb Tryz.underlying28 rfl sz4 (by decide) rfl (za rfl (ze Tryz.underlying4 rfl rfl (HF.on E).here.2 rfl (za rfl (zwq Tryz.underlying4 rfl rfl (mvx rfl ?_)))))))))))))
 by_cases ho : (ua.yes == ub.yes) = true
 ·
  refine zx 44 (.bool true) rfl ((by rw [ho] : (.bool (ua.yes == ub.yes) : Value) = _)) (onx rfl (zb Tryz.underlying28 rfl sz9 (by decide) rfl (onx rfl (ze Tryz.underlying9 rfl rfl (HF.on E).here.1.2 rfl (onx rfl (zb Tryz.underlying28 rfl sz9 (by decide) rfl (onx rfl (ze Tryz.underlying9 rfl rfl (HF.on E).here.2 rfl (onx rfl (kw rfl rfl (za rfl (zq rfl rfl (anx rfl (zl (zk (rs := [.tmp 4]) (vs := [_]) rfl ⟨rfl, trivial⟩ ?_)))))))))))))))
  exact ⟨by unfold je; rw [h1, h2, h3, if_neg h4, if_neg h5, ho]; rfl, (LW.step E XLW).toBelow⟩
 ·
  have ho := Bool.eq_false_iff.2 ho;refine zx 44 (.bool false) rfl ((by rw [ho] : (.bool (ua.yes == ub.yes) : Value) = _)) (za rfl (zd rfl (za rfl (zd rfl (za rfl (zd rfl (za rfl (zd rfl (za rfl (zd rfl (za rfl (zi rfl rfl (anx rfl (zl (zk (rs := [.tmp 4]) (vs := [_]) rfl ⟨rfl, trivial⟩ ?_)))))))))))))))
  exact ⟨by unfold je; rw [h1, h2, h3, if_neg h4, if_neg h5, ho]; rfl, (LW.step E XLW).toBelow⟩
theorem pl_same : Calls Tryz.prog 9 #[.agg #[.int .i64 ua.k, .bool ua.yes, .bool ua.neg, .slice A1 ua.xs.length c1, .int .u64 ((ua.bits : Nat) : Int), .string ua.s, .slice B1 ua.ni d1], .agg #[.int .i64 ub.k, .bool ub.yes, .bool ub.neg, .slice A2 ub.xs.length c2, .int .u64 ((ub.bits : Nat) : Int), .string ub.s, .slice B2 ub.ni d2]] w fun e w' => e = .returned (.bool (je ua ub)) ∧ Below w.heap.size w w' := by
 cases h1 : ua.good
 · exact pl_sm1 w ua ub A1 B1 A2 B2 c1 d1 c2 d2 hx hl ha hy hl' hb0 h1
 cases h2 : ub.good
 · exact pl_sm2 w ua ub A1 B1 A2 B2 c1 d1 c2 d2 hx hl ha hy hl' hb0 h1 h2
 cases h3 : (ua.k == ub.k)
 · exact pl_sm3 w ua ub A1 B1 A2 B2 c1 d1 c2 d2 hx hl ha hy hl' hb0 h1 h2 h3
 by_cases h4 : ua.k = 2
 · exact pl_sm4 w ua ub A1 B1 A2 B2 c1 d1 c2 d2 hx hl ha hy hl' hb0 h1 h2 h3 h4
 by_cases h5 : ua.k = 3
 · exact pl_sm5 w ua ub A1 B1 A2 B2 c1 d1 c2 d2 hx hl ha hy hl' hb0 h1 h2 h3 h5
 · exact pl_sm6 w ua ub A1 B1 A2 B2 c1 d1 c2 d2 hx hl ha hy hl' hb0 h1 h2 h3 h4 h5
end
end Go.Proofs.YtaleikoeklemmaaGreatDoor
namespace Go.Proofs.YtaleikoeklemmaaGreatDoor
open Go.RowKit
set_option maxRecDepth 100000
attribute [local irreducible] OW RS
def hexL : List UInt8 := [48, 49, 50, 51, 52, 53, 54, 55, 56, 57, 97, 98, 99, 100, 101, 102]
def zrx (n : Nat) : UInt8 := hexL.getD n 0
def qb (x : UInt8) : List UInt8 :=
 if x.toNat = 10 then [92, 110] else if x.toNat = 9 then [92, 116] else if x.toNat = 92 then [92, x] else if x.toNat = 39 then [92, x]
 else if x.toNat < 32 then [92, 120, zrx (x.toNat / 16), zrx (x.toNat % 16)] else if 126 < x.toNat then [92, 120, zrx (x.toNat / 16), zrx (x.toNat % 16)] else [x]
def gw (l : List UInt8) : List UInt8 := 39 :: l.flatMap qb
theorem qb_len (x : UInt8) : (qb x).length ≤ 4 := by unfold qb; (repeat' split) <;> simp
theorem qList_len : ∀ (l : List UInt8), (gw l).length ≤ 1 + 4 * l.length
 | [] => by decide
 | x :: l => by
  have h := qList_len l;have h2 := qb_len x;unfold gw at h ⊢;simp only [List.length_cons, List.flatMap_cons, List.length_append] at h ⊢
  omega
theorem kk {l : List UInt8} {i : Nat} {x : UInt8} (h : l[i]? = some x) : gw (l.take (i + 1)) = gw (l.take i) ++ qb x := by
 unfold gw;obtain ⟨hi, he⟩ := List.getElem?_eq_some_iff.1 h;rw [List.take_succ_eq_append_getElem hi, List.flatMap_append, he];simp
theorem shr4 (x : UInt8) : ((x.toNat : Nat) : Int).fdiv (2 ^ (min (4 : Int).toNat IntKind.u8.bits)) = ((x.toNat / 16 : Nat) : Int) := by
 have key : ∀ n : Fin 256, ((n.val : Nat) : Int).fdiv (2 ^ (min (4 : Int).toNat IntKind.u8.bits)) = ((n.val / 16 : Nat) : Int) := by decide +kernel
 exact key ⟨x.toNat, x.toNat_lt⟩
theorem and15 (x : UInt8) : IntKind.u8.wrap (BitVec.ofInt IntKind.u8.bits ((x.toNat : Nat) : Int) &&& BitVec.ofInt IntKind.u8.bits 15).toNat = ((x.toNat % 16 : Nat) : Int) := by
 have key : ∀ n : Fin 256, IntKind.u8.wrap (BitVec.ofInt IntKind.u8.bits ((n.val : Nat) : Int) &&& BitVec.ofInt IntKind.u8.bits 15).toNat = ((n.val % 16 : Nat) : Int) := by decide +kernel
 exact key ⟨x.toNat, x.toNat_lt⟩
theorem hex_at {j : Nat} (h : j < 16) : (⟨#[48, 49, 50, 51, 52, 53, 54, 55, 56, 57, 97, 98, 99, 100, 101, 102]⟩ : ByteArray)[j]? = some (zrx j) := by
 have key : ∀ n : Fin 16, (#[48, 49, 50, 51, 52, 53, 54, 55, 56, 57, 97, 98, 99, 100, 101, 102] : Array UInt8)[n.val]? = some (zrx n.val) := by decide +kernel
 exact key ⟨j, h⟩
section
variable (w : World) (ua : PV) (A1 B1 : Option Addr) (c1 d1 : Nat) (hx : Nums w A1 ua.xs) (hl : ua.xs.length ≤ 9223372036854775807) (g1 : ua.good = true) (h4 : ua.k = 4) (hsl : ua.s.size ≤ 20000)
include hx hl g1 h4 hsl
theorem pl_quote : Calls Tryz.prog 22 #[.agg #[.int .i64 ua.k, .bool ua.yes, .bool ua.neg, .slice A1 ua.xs.length c1, .int .u64 ((ua.bits : Nat) : Int), .string ua.s, .slice B1 ua.ni d1]] w fun e w' => e = .returned (.string ⟨(gw ua.s.data.toList ++ [39]).toArray⟩) ∧ Below w.heap.size w w' := by
 have hsn : ua.s.data.toList.length = ua.s.size := by rw [Array.length_toList]; rfl
 obtain ⟨lo, hlo⟩ : ∃ lo, lo = w.heap.size := ⟨_, rfl⟩;refine zr Tryz.func22 rfl Tryz.ntmps22 rfl (srx (za rfl (zv rfl ?_)));rintro gv wA BX E1 G1
 refine anx rfl (zj (srx (za rfl (zb Tryz.underlying28 rfl sz3 (by decide) rfl (za rfl (ze Tryz.underlying3 rfl rfl BX rfl (za rfl (qf rfl rfl (mvx rfl (zx 9 (.bool false) rfl ((by rw [h4]; rfl : (.bool (ua.k != 4) : Value) = _)) (onx rfl (zcq (cs := #[.int .i64 ua.k, .bool ua.yes, .bool ua.neg, .slice A1 ua.xs.length c1, .int .u64 ((ua.bits : Nat) : Int), .string ua.s, .slice B1 ua.ni d1]) Tryz.underlying28 rfl yp rfl rfl (fun j v hj ↦ by have h := (BX.cell j).trans hj; rw [Nat.zero_add]; exact h) (onx rfl (zc gp rfl ((qe _ ua A1 B1 c1 d1 (Per.nums0 hx _ E1) hl true g1).mono ?_)))))))))))))))
 rintro e w1 ⟨rfl, hb⟩;refine ⟨_, rfl, ?_⟩;have E2 := E1.trans (Ext.of_below hb No);have BX2 := BX.ext (Ext.of_below hb No) (fun h => h.elim);refine onx rfl (yi rfl (za rfl (zi rfl rfl (rnx (zt rfl (zp (zh (srx (za rfl (yq zr65 ?_))))))))));rintro gb wB BB E3 G3;have E4 := E2.trans E3;have BX3 := BX2.ext E3 (fun h => h.elim);have hs2 := E2.size
 have hgb : lo ≤ gb := by omega
 obtain ⟨hi, hhi⟩ : ∃ hi, hi = wB.heap.size := ⟨_, rfl⟩;have hs4 := E4.size;have hlh : lo ≤ hi := by omega
 refine rnx (srx (za rfl (zc en44 rfl ((ot _ lo gb (.pointer none) (Or.inl rfl) [] (by decide) (fun q => hi ≤ q) ⟨none, 0, BB, owns_nil, fun q hq => (by cases hq)⟩ hgb (fun q hq => by show hi ≤ q; omega) 39).mono ?_))));rintro e w2 ⟨rfl, M0, X0⟩;refine ⟨_, rfl, ?_⟩
 have T0 : Ext (fun q => lo ≤ q) w w2 := (E4.noL lo).step X0 (fun q hq => Or.inl (hq.elim (fun h => by show lo ≤ q; omega) (fun h => by have h : hi ≤ q := h; show lo ≤ q; omega)));obtain ⟨A3, c3, MB, MO, MF⟩ := M0;have hvb : gv < gb := by have := BX2.lt; omega
 have hbh : gb < hi := by have := BB.lt; omega
 have BX4 := BX3.ext X0 (fun hq => hq.elim (fun h => by omega) (fun h => by have h : hi ≤ gv := h; omega));refine rnx (zj (srx (za rfl (zb Tryz.underlying28 rfl sz9 (by decide) rfl (za rfl (ze Tryz.underlying9 rfl rfl BX4 rfl (za rfl (yhz Tryz.underlying9 Tryz.underlying43 Tryz.underlying5 rfl rfl rfl ?_))))))));rintro gx cx wC RX E5 GX
 have T1 := T0.step E5 (fun _ h => h.elim);have hsX := X0.size;have M1 : Bld wC lo gb (.pointer (some ⟨gb, 0, none⟩)) (gw (ua.s.data.toList.take 0)) (fun q => hi ≤ q ∧ (0 < ua.s.size → q ≠ gx)) := Bld.no ⟨A3, c3, MB, MO, fun q hq => ⟨MF q hq, fun _ e => by have := owns_lt MO q hq; omega⟩⟩ E5
 have hgxl : 0 < ua.s.size → gx < wC.heap.size := fun h0 => World.block_lt_of_cell? _ _ (RX 0 _ (by rw [List.getElem?_map, List.getElem?_eq_getElem (show 0 < ua.s.data.toList.length by omega)]; rfl));have hFz : ∀ {z}, Ext (fun q => q = gb ∨ (hi ≤ q ∧ (0 < ua.s.size → q ≠ gx))) wC z → ∀ q, z.heap.size ≤ q → hi ≤ q ∧ (0 < ua.s.size → q ≠ gx) := fun h q hq => by
  have h1 := h.size;have h2 := E5.size;exact ⟨by omega, fun h0 e => by have := hgxl h0; omega⟩
 refine za rfl (vq Tryz.underlying43 rfl (mvx rfl (rnx (yh (zax (ι := Nat) (fun i => [(3, .pointer (some ⟨gb, 0, none⟩)), (19, .slice (some ⟨gx, 0, none⟩) ua.s.size cx), (20, .int .i64 ((ua.s.size : Nat) : Int)), (21, .int .i64 ((i : Nat) : Int))]) (fun i w' => i ≤ ua.s.size ∧ Ext (fun q => q = gb ∨ (hi ≤ q ∧ (0 < ua.s.size → q ≠ gx))) wC w' ∧ Bld w' lo gb (.pointer (some ⟨gb, 0, none⟩)) (gw (ua.s.data.toList.take i)) (fun q => hi ≤ q ∧ (0 < ua.s.size → q ≠ gx))) (fun i => ua.s.size - i) 0 ⟨rfl, rfl, rfl, rfl, trivial⟩ (⟨Nat.zero_le _, Ext.refl _ _, M1⟩) ?_)))))
 rintro i w4 ⟨hin, XI, MI⟩;have hML := qList_len (ua.s.data.toList.take i);rw [List.length_take] at hML;have hM0 : 0 < (gw (ua.s.data.toList.take i)).length := Nat.zero_lt_succ _;refine srx (za rfl (vp rfl rfl (rnx (zj (ym rfl (fun hic => ?_) (fun hic => ?_))))))
 ·
  have hic := of_decide_eq_true hic;have hil : i < ua.s.size := by omega
  obtain ⟨x, hxl⟩ : ∃ x, ua.s.data.toList[i]? = some x := ⟨_, List.getElem?_eq_getElem (by omega)⟩;have hcell : ∀ z, Ext (fun q => q = gb ∨ (hi ≤ q ∧ (0 < ua.s.size → q ≠ gx))) wC z → z.cell? ⟨gx, 0 + i, none⟩ = some (.int .u8 ((x.toNat : Nat) : Int)) := fun z hz => by
   have h1 := RX i (.int .u8 ((x.toNat : Nat) : Int)) (by rw [List.getElem?_map, hxl]; rfl);rw [Nat.zero_add];refine (hz.cell (World.block_lt_of_cell? _ _ h1) (fun hq => hq.elim (fun h => ?_) (fun h => h.2 (by omega) rfl))).trans h1;have h : gx = gb := h;have := hsX;omega
  refine zp (zh (zj (yh (srx (za rfl (gl (j := i) Tryz.underlying43 sz5 rfl rfl rfl hil (za rfl (oh Tryz.underlying5 rfl rfl (hcell _ XI) (anx rfl (yh (srx (mvx rfl (za rfl (ya rfl rfl (anx rfl ?_)))))))))))))));by_cases h10 : x.toNat = 10
  ·
   refine zu 27 (.bool true) rfl ((by rw [h10]; rfl : (.bool (((x.toNat : Nat) : Int) == 10) : Value) = _)) (yb rfl (yr (za rfl (zc en45 rfl ((ykz _ lo gb _ (Or.inr rfl) (gw (ua.s.data.toList.take i)) (by first | omega | (simp only [List.length_append, List.length_cons, List.length_nil]; omega)) (fun q => hi ≤ q ∧ (0 < ua.s.size → q ≠ gx)) MI hgb (hFz XI) ⟨#[92, 110]⟩ (by decide) (by first | omega | (simp only [List.length_append]; omega))).mono ?_)))))
   rintro e w5 ⟨rfl, M1, X1⟩;refine ⟨_, rfl, ?_⟩;have T1 := XI.step X1 (fun q hq => Or.inl hq);refine vg (zy (zy (zh (yr (za rfl (qk rfl rfl (yc (by omega)) (mvx rfl (vg ?_))))))))
   exact jo (i + 1) (by show ua.s.size - (i + 1) < ua.s.size - i; omega) ⟨rfl, rfl, rfl, rfl, trivial⟩ (⟨by omega, T1, by rw [kk hxl]; rw [show qb x = [92, 110] from (by unfold qb; rw [if_pos h10])]; first | exact M1 | (have h := M1; simp only [List.append_assoc] at h; exact h)⟩)
  ·
   refine zu 27 (.bool false) rfl (congrArg Value.bool (beq_eq_false_iff_ne.2 (fun h => h10 (by omega)))) (zt rfl (srx (mvx rfl (za rfl (ya rfl rfl (anx rfl ?_))))));by_cases h9 : x.toNat = 9
   ·
    refine zu 31 (.bool true) rfl ((by rw [h9]; rfl : (.bool (((x.toNat : Nat) : Int) == 9) : Value) = _)) (yb rfl (yr (za rfl (zc en45 rfl ((ykz _ lo gb _ (Or.inr rfl) (gw (ua.s.data.toList.take i)) (by first | omega | (simp only [List.length_append, List.length_cons, List.length_nil]; omega)) (fun q => hi ≤ q ∧ (0 < ua.s.size → q ≠ gx)) MI hgb (hFz XI) ⟨#[92, 116]⟩ (by decide) (by first | omega | (simp only [List.length_append]; omega))).mono ?_)))))
    rintro e w6 ⟨rfl, M2, X2⟩;refine ⟨_, rfl, ?_⟩;have T2 := XI.step X2 (fun q hq => Or.inl hq);refine vg (zy (zy (zh (yr (za rfl (qk rfl rfl (yc (by omega)) (mvx rfl (vg ?_))))))))
    exact jo (i + 1) (by show ua.s.size - (i + 1) < ua.s.size - i; omega) ⟨rfl, rfl, rfl, rfl, trivial⟩ (⟨by omega, T2, by rw [kk hxl]; rw [show qb x = [92, 116] from (by unfold qb; rw [if_neg h10, if_pos h9])]; first | exact M2 | (have h := M2; simp only [List.append_assoc] at h; exact h)⟩)
   ·
    refine zu 31 (.bool false) rfl (congrArg Value.bool (beq_eq_false_iff_ne.2 (fun h => h9 (by omega)))) (zt rfl (srx (mvx rfl (za rfl (ya rfl rfl (mvx rfl ?_))))));by_cases h92 : x.toNat = 92
    ·
     refine zx 38 (.bool true) rfl ((by rw [h92]; rfl : (.bool (((x.toNat : Nat) : Int) == 92) : Value) = _)) (za rfl (zd rfl (za rfl (zd rfl (za rfl (zq rfl rfl (anx rfl (yb rfl (srx (za rfl (zc en44 rfl ((ot _ lo gb _ (Or.inr rfl) (gw (ua.s.data.toList.take i)) (by first | omega | (simp only [List.length_append, List.length_cons, List.length_nil]; omega)) (fun q => hi ≤ q ∧ (0 < ua.s.size → q ≠ gx)) MI hgb (hFz XI) 92).mono ?_))))))))))))
     rintro e w7 ⟨rfl, M3, X3⟩;refine ⟨_, rfl, ?_⟩;have T3 := XI.step X3 (fun q hq => Or.inl hq)
     refine rnx (yr (mvx rfl (za rfl (zc en44 rfl ((ot _ lo gb _ (Or.inr rfl) ((gw (ua.s.data.toList.take i)) ++ [92]) (by first | omega | (simp only [List.length_append, List.length_cons, List.length_nil]; omega)) (fun q => hi ≤ q ∧ (0 < ua.s.size → q ≠ gx)) M3 hgb (hFz T3) x).mono ?_)))));rintro e w8 ⟨rfl, M4, X4⟩;refine ⟨_, rfl, ?_⟩
     have T4 := T3.step X4 (fun q hq => Or.inl hq);refine vg (zy (zy (zh (yr (za rfl (qk rfl rfl (yc (by omega)) (mvx rfl (vg ?_))))))))
     exact jo (i + 1) (by show ua.s.size - (i + 1) < ua.s.size - i; omega) ⟨rfl, rfl, rfl, rfl, trivial⟩ (⟨by omega, T4, by rw [kk hxl]; rw [show qb x = [92, x] from (by unfold qb; rw [if_neg h10, if_neg h9, if_pos h92])]; first | exact M4 | (have h := M4; simp only [List.append_assoc] at h; exact h)⟩)
    ·
     refine zx 38 (.bool false) rfl (congrArg Value.bool (beq_eq_false_iff_ne.2 (fun h => h92 (by omega)))) (onx rfl (zz rfl (onx rfl (ya rfl rfl (za rfl (zi rfl rfl (anx rfl ?_)))))));by_cases h39 : x.toNat = 39
     ·
      refine zu 35 (.bool true) rfl ((by rw [h39]; rfl : (.bool (((x.toNat : Nat) : Int) == 39) : Value) = _)) (yb rfl (srx (za rfl (zc en44 rfl ((ot _ lo gb _ (Or.inr rfl) (gw (ua.s.data.toList.take i)) (by first | omega | (simp only [List.length_append, List.length_cons, List.length_nil]; omega)) (fun q => hi ≤ q ∧ (0 < ua.s.size → q ≠ gx)) MI hgb (hFz XI) 92).mono ?_)))))
      rintro e w9 ⟨rfl, M5, X5⟩;refine ⟨_, rfl, ?_⟩;have T5 := XI.step X5 (fun q hq => Or.inl hq)
      refine rnx (yr (mvx rfl (za rfl (zc en44 rfl ((ot _ lo gb _ (Or.inr rfl) ((gw (ua.s.data.toList.take i)) ++ [92]) (by first | omega | (simp only [List.length_append, List.length_cons, List.length_nil]; omega)) (fun q => hi ≤ q ∧ (0 < ua.s.size → q ≠ gx)) M5 hgb (hFz T5) x).mono ?_)))));rintro e w10 ⟨rfl, M6, X6⟩;refine ⟨_, rfl, ?_⟩
      have T6 := T5.step X6 (fun q hq => Or.inl hq);refine vg (zy (zy (zh (yr (za rfl (qk rfl rfl (yc (by omega)) (mvx rfl (vg ?_))))))))
      exact jo (i + 1) (by show ua.s.size - (i + 1) < ua.s.size - i; omega) ⟨rfl, rfl, rfl, rfl, trivial⟩ (⟨by omega, T6, by rw [kk hxl]; rw [show qb x = [92, x] from (by unfold qb; rw [if_neg h10, if_neg h9, if_neg h92, if_pos h39])]; first | exact M6 | (have h := M6; simp only [List.append_assoc] at h; exact h)⟩)
     ·
      refine zu 35 (.bool false) rfl (congrArg Value.bool (beq_eq_false_iff_ne.2 (fun h => h39 (by omega)))) (zt rfl (srx (mvx rfl (za rfl (vp rfl rfl (mvx rfl ?_))))));by_cases h32 : x.toNat < 32
      ·
       refine zx 48 (.bool true) rfl (congrArg Value.bool (decide_eq_true (show ((x.toNat : Nat) : Int) < 32 by omega))) (za rfl (zd rfl (za rfl (zd rfl (za rfl (zq rfl rfl (anx rfl (yb rfl (srx (za rfl (zc en45 rfl ((ykz _ lo gb _ (Or.inr rfl) (gw (ua.s.data.toList.take i)) (by first | omega | (simp only [List.length_append, List.length_cons, List.length_nil]; omega)) (fun q => hi ≤ q ∧ (0 < ua.s.size → q ≠ gx)) MI hgb (hFz XI) ⟨#[92, 120]⟩ (by decide) (by first | omega | (simp only [List.length_append]; omega))).mono ?_))))))))))))
       rintro e w11 ⟨rfl, M7, X7⟩;refine ⟨_, rfl, ?_⟩;have T7 := XI.step X7 (fun q hq => Or.inl hq)
       refine rnx (srx (mvx rfl (za rfl (gy rfl rfl (by decide) (shr4 x) (za rfl (kd (j := x.toNat / 16) Tryz.underlying9 rfl rfl rfl (hex_at (by have := x.toNat_lt; omega)) (za rfl (zc en44 rfl ((ot _ lo gb _ (Or.inr rfl) ((gw (ua.s.data.toList.take i)) ++ [92, 120]) (by first | omega | (simp only [List.length_append, List.length_cons, List.length_nil]; omega)) (fun q => hi ≤ q ∧ (0 < ua.s.size → q ≠ gx)) M7 hgb (hFz T7) (zrx (x.toNat / 16))).mono ?_)))))))))
       rintro e w12 ⟨rfl, M8, X8⟩;refine ⟨_, rfl, ?_⟩;have T8 := T7.step X8 (fun q hq => Or.inl hq)
       refine rnx (yr (mvx rfl (za rfl (gz rfl rfl (and15 x) (za rfl (kd (j := x.toNat % 16) Tryz.underlying9 rfl rfl rfl (hex_at (by omega)) (za rfl (zc en44 rfl ((ot _ lo gb _ (Or.inr rfl) (((gw (ua.s.data.toList.take i)) ++ [92, 120]) ++ [(zrx (x.toNat / 16))]) (by first | omega | (simp only [List.length_append, List.length_cons, List.length_nil]; omega)) (fun q => hi ≤ q ∧ (0 < ua.s.size → q ≠ gx)) M8 hgb (hFz T8) (zrx (x.toNat % 16))).mono ?_)))))))))
       rintro e w13 ⟨rfl, M9, X9⟩;refine ⟨_, rfl, ?_⟩;have T9 := T8.step X9 (fun q hq => Or.inl hq);refine vg (zy (zy (zh (yr (za rfl (qk rfl rfl (yc (by omega)) (mvx rfl (vg ?_))))))))
       exact jo (i + 1) (by show ua.s.size - (i + 1) < ua.s.size - i; omega) ⟨rfl, rfl, rfl, rfl, trivial⟩ (⟨by omega, T9, by rw [kk hxl]; rw [show qb x = [92, 120, zrx (x.toNat / 16), zrx (x.toNat % 16)] from (by unfold qb; rw [if_neg h10, if_neg h9, if_neg h92, if_neg h39, if_pos h32])]; first | exact M9 | (have h := M9; simp only [List.append_assoc] at h; exact h)⟩)
      ·
       refine zx 48 (.bool false) rfl (congrArg Value.bool (decide_eq_false (show ¬ ((x.toNat : Nat) : Int) < 32 by omega))) (onx rfl (zz rfl (onx rfl (vh rfl rfl (za rfl (zi rfl rfl (anx rfl ?_)))))));by_cases h126 : 126 < x.toNat
       ·
        refine zu 45 (.bool true) rfl (congrArg Value.bool (decide_eq_true (show (126 : Int) < ((x.toNat : Nat) : Int) by omega))) (yb rfl (srx (za rfl (zc en45 rfl ((ykz _ lo gb _ (Or.inr rfl) (gw (ua.s.data.toList.take i)) (by first | omega | (simp only [List.length_append, List.length_cons, List.length_nil]; omega)) (fun q => hi ≤ q ∧ (0 < ua.s.size → q ≠ gx)) MI hgb (hFz XI) ⟨#[92, 120]⟩ (by decide) (by first | omega | (simp only [List.length_append]; omega))).mono ?_)))))
        rintro e w14 ⟨rfl, M10, X10⟩;refine ⟨_, rfl, ?_⟩;have T10 := XI.step X10 (fun q hq => Or.inl hq)
        refine rnx (srx (mvx rfl (za rfl (gy rfl rfl (by decide) (shr4 x) (za rfl (kd (j := x.toNat / 16) Tryz.underlying9 rfl rfl rfl (hex_at (by have := x.toNat_lt; omega)) (za rfl (zc en44 rfl ((ot _ lo gb _ (Or.inr rfl) ((gw (ua.s.data.toList.take i)) ++ [92, 120]) (by first | omega | (simp only [List.length_append, List.length_cons, List.length_nil]; omega)) (fun q => hi ≤ q ∧ (0 < ua.s.size → q ≠ gx)) M10 hgb (hFz T10) (zrx (x.toNat / 16))).mono ?_)))))))))
        rintro e w15 ⟨rfl, M11, X11⟩;refine ⟨_, rfl, ?_⟩;have T11 := T10.step X11 (fun q hq => Or.inl hq)
        refine rnx (yr (mvx rfl (za rfl (gz rfl rfl (and15 x) (za rfl (kd (j := x.toNat % 16) Tryz.underlying9 rfl rfl rfl (hex_at (by omega)) (za rfl (zc en44 rfl ((ot _ lo gb _ (Or.inr rfl) (((gw (ua.s.data.toList.take i)) ++ [92, 120]) ++ [(zrx (x.toNat / 16))]) (by first | omega | (simp only [List.length_append, List.length_cons, List.length_nil]; omega)) (fun q => hi ≤ q ∧ (0 < ua.s.size → q ≠ gx)) M11 hgb (hFz T11) (zrx (x.toNat % 16))).mono ?_)))))))))
        rintro e w16 ⟨rfl, M12, X12⟩;refine ⟨_, rfl, ?_⟩;have T12 := T11.step X12 (fun q hq => Or.inl hq);refine vg (zy (zy (zh (yr (za rfl (qk rfl rfl (yc (by omega)) (mvx rfl (vg ?_))))))))
        exact jo (i + 1) (by show ua.s.size - (i + 1) < ua.s.size - i; omega) ⟨rfl, rfl, rfl, rfl, trivial⟩ (⟨by omega, T12, by rw [kk hxl]; rw [show qb x = [92, 120, zrx (x.toNat / 16), zrx (x.toNat % 16)] from (by unfold qb; rw [if_neg h10, if_neg h9, if_neg h92, if_neg h39, if_neg h32, if_pos h126])]; first | exact M12 | (have h := M12; simp only [List.append_assoc] at h; exact h)⟩)
       ·
        refine zu 45 (.bool false) rfl (congrArg Value.bool (decide_eq_false (show ¬ (126 : Int) < ((x.toNat : Nat) : Int) by omega))) (zt rfl (yr (mvx rfl (za rfl (zc en44 rfl ((ot _ lo gb _ (Or.inr rfl) (gw (ua.s.data.toList.take i)) (by first | omega | (simp only [List.length_append, List.length_cons, List.length_nil]; omega)) (fun q => hi ≤ q ∧ (0 < ua.s.size → q ≠ gx)) MI hgb (hFz XI) x).mono ?_))))))
        rintro e w17 ⟨rfl, M13, X13⟩;refine ⟨_, rfl, ?_⟩;have T13 := XI.step X13 (fun q hq => Or.inl hq);refine vg (zy (zy (zh (yr (za rfl (qk rfl rfl (yc (by omega)) (mvx rfl (vg ?_))))))))
        exact jo (i + 1) (by show ua.s.size - (i + 1) < ua.s.size - i; omega) ⟨rfl, rfl, rfl, rfl, trivial⟩ (⟨by omega, T13, by rw [kk hxl]; rw [show qb x = [x] from (by unfold qb; rw [if_neg h10, if_neg h9, if_neg h92, if_neg h39, if_neg h32, if_neg h126])]; first | exact M13 | (have h := M13; simp only [List.append_assoc] at h; exact h)⟩)
 ·
  have hic := of_decide_eq_false hic;obtain rfl : i = ua.s.size := by omega
  rw [List.take_of_length_le (by omega)] at MI hML hM0;refine jq (ye (ye (qg (zh (srx (za rfl (zc en44 rfl ((ot _ lo gb _ (Or.inr rfl) (gw ua.s.data.toList) (by first | omega | (simp only [List.length_append, List.length_cons, List.length_nil]; omega)) (fun q => hi ≤ q ∧ (0 < ua.s.size → q ≠ gx)) MI hgb (hFz XI) 39).mono ?_))))))))
  rintro e w18 ⟨rfl, M14, X14⟩;refine ⟨_, rfl, ?_⟩;have T14 := XI.step X14 (fun q hq => Or.inl hq);refine rnx (srx (za rfl (zc en46 rfl (((Tryz.Builder_String_any lo gb _ _ (Bld.lib M14 (Or.inr rfl) hgb) (by have := T14.size; have := T1.size; omega))).mono ?_))));rintro e w19 ⟨rfl, hb⟩;refine ⟨_, rfl, (anx rfl (zl (zk (rs := [.tmp 2]) (vs := [_]) rfl ⟨rfl, trivial⟩ ?_)))⟩
  exact ⟨rfl, ((T1.step T14 (fun q hq => Or.inl (hq.elim (fun h => by show lo ≤ q; omega) (fun h => by show lo ≤ q; omega)))).step (show Ext (fun q => lo ≤ q) _ _ from ⟨hb.os, hb.tape, hb.output, hb.size, fun k _ hk => hb.block k (Nat.lt_of_not_le hk)⟩) (fun q hq => Or.inl hq)).below (fun q hq => by rw [← hlo]; exact hq)⟩
end
end Go.Proofs.YtaleikoeklemmaaGreatDoor
namespace Go.Proofs.YtaleikoeklemmaaGreatDoor
open Go.RowKit
set_option maxRecDepth 100000
theorem num_1 : num false [1] = 1 := by
 have h := qz 1;rw [zjq] at h;exact h
theorem num_0 : num false [] = 0 := by
 have h := qz 0;rwa [show limbs 0 = [] from vj] at h
theorem ztk {w1 w2 : World} {lo base c g : Nat} {A : Option Addr} {xs : List Nat} (h : Own8 w1 base A c xs) (E : Ext (Mut [some g]) w1 w2) (hg : g < base) (hb : lo ≤ base) : Own8 w2 lo A c xs :=
 ⟨ydz (kc h.1 E (fun q hq hm => by have := xr hm; have := owns_ge h.1 q hq; omega)) hb, h.2⟩
theorem numK_at {k : Int} (h : jh k = true) : 1 ≤ k ∧ k ≤ 3 := by
 unfold jh at h;simp only [Bool.and_eq_true, decide_eq_true_eq] at h
 exact h
theorem PV.good2 {v : PV} (h : v.good = true) (hk : v.k = 2) : yf v.neg v.xs = true := by
 unfold PV.good at h;rw [if_neg (by omega), if_neg (by omega), if_pos hk] at h;simp only [Bool.and_eq_true] at h
 exact h.2.1.1.1
theorem PV.canon {v : PV} (h : v.good = true) (hk : v.k = 1 ∨ v.k = 2) : v.cn = decide (num v.cn v.cx < 0) ∧ v.cx = limbs (num v.cn v.cx) ∧ (num v.cn v.cx).natAbs < B18 ^ 30 := by
 have hg : yf v.cn v.cx = true := by
  unfold PV.cn PV.cx;by_cases h1 : v.k = 1
  · rw [if_pos h1, if_pos h1];split
    · have := qx (i := 1) (by decide);rwa [zjq] at this
    · have := qx (i := 0) (by decide);rwa [vj] at this
  · rw [if_neg h1, if_neg h1];exact PV.good2 h (by omega)
 obtain ⟨i, e1, e2, e3⟩ := zqx hg;have e : num v.cn v.cx = i := by rw [e1, e2, qz]
 rw [e];exact ⟨e1, e2, e3⟩
theorem bytes_drop {s : ByteArray} {i : Nat} {x : UInt8} (h : s[i]? = some x) : s.data.toList.drop i = x :: s.data.toList.drop (i + 1) := by
 have h2 : s.data.toList[i]? = some x := by rw [Array.getElem?_toList]; exact h
 obtain ⟨hi, he⟩ := List.getElem?_eq_some_iff.1 h2;rw [List.drop_eq_getElem_cons hi, he]
theorem xz (s : ByteArray) : s.data.toList.length = s.size := by rw [Array.length_toList]; rfl
theorem bytes_end1 {s t : ByteArray} {i : Nat} (hi : i < s.size) (ht : t.size ≤ i) : Lib.compareBytes (s.data.toList.drop i) (t.data.toList.drop i) = 1 := by
 have hl := xz s;rw [show t.data.toList.drop i = [] from List.drop_of_length_le (by have := xz t; omega), List.drop_eq_getElem_cons (by omega)];rfl
theorem bytes_end2 {s t : ByteArray} {i : Nat} (hi : s.size ≤ i) (ht : i < t.size) : Lib.compareBytes (s.data.toList.drop i) (t.data.toList.drop i) = -1 := by
 have hl := xz t;rw [List.drop_of_length_le (by have := xz s; omega), List.drop_eq_getElem_cons (by omega)];rfl
theorem bytes_end3 {s t : ByteArray} {i : Nat} (hi : s.size ≤ i) (ht : t.size ≤ i) : Lib.compareBytes (s.data.toList.drop i) (t.data.toList.drop i) = 0 := by
 rw [List.drop_of_length_le (by have := xz s; omega), List.drop_of_length_le (by have := xz t; omega)];rfl
theorem PV.kinds {v : PV} (h : v.good = true) : v.k = 0 ∨ v.k = 1 ∨ v.k = 2 ∨ v.k = 3 ∨ v.k = 4 := by
 unfold PV.good at h;by_cases h0 : v.k = 0
 · exact Or.inl h0
 by_cases h1 : v.k = 1
 · exact Or.inr (Or.inl h1)
 by_cases h2 : v.k = 2
 · exact Or.inr (Or.inr (Or.inl h2))
 by_cases h3 : v.k = 3
 · exact Or.inr (Or.inr (Or.inr (Or.inl h3)))
 by_cases h4 : v.k = 4
 · exact Or.inr (Or.inr (Or.inr (Or.inr h4)))
 rw [if_neg h0, if_neg h1, if_neg h2, if_neg h3, if_neg h4] at h;simp at h
theorem PV.str {v : PV} (h : v.good = true) (hn : jh v.k = false) (h0 : v.k ≠ 0) : v.k = 4 := by
 rcases PV.kinds h with e | e | e | e | e
 · exact absurd e h0
 · rw [e] at hn; exact absurd hn (by decide)
 · rw [e] at hn; exact absurd hn (by decide)
 · rw [e] at hn; exact absurd hn (by decide)
 · exact e
theorem same_cmp {i j : Int} (hi : i.natAbs < B18 ^ 30) (hj : j.natAbs < B18 ^ 30) : ((if (true && true) = true then gj i j else 0) == 0) = od (decide (i < 0)) (limbs i) (decide (j < 0)) (limbs j) := by
 show (gj i j == 0) = _
 have h : gj i j = 0 ↔ i = j := by unfold gj; split <;> (try split) <;> omega
 have h2 : od (decide (i < 0)) (limbs i) (decide (j < 0)) (limbs j) = true ↔ i = j := by
  unfold od;rw [Bool.and_eq_true, beq_iff_eq, beq_iff_eq];constructor
  · rintro ⟨a, b⟩;have h1 := qz i;rw [a, b, qz] at h1;exact h1.symm
  · rintro rfl;exact ⟨rfl, rfl⟩
 exact Bool.eq_iff_iff.2 (by rw [beq_iff_eq, h, h2])
theorem PV.s0 {v : PV} (h : v.good = true) (hk : v.k = 0 ∨ v.k = 1 ∨ v.k = 2 ∨ v.k = 3) : v.s.toList = (⟨#[]⟩ : ByteArray).toList := by
 unfold PV.good at h;rcases hk with e | e | e | e <;> simp [e] at h <;> simp [h]
theorem PV.s_max {v : PV} (h : v.good = true) (hk : v.k = 4) : v.s.size ≤ 20000 := by
 unfold PV.good at h;simp [hk] at h
 omega
theorem PV.s_len {v : PV} (h : v.good = true) (hk : v.k = 4) : v.s.size ≤ 9223372036854775806 := by
 unfold PV.good at h;simp [hk] at h
 omega
theorem PV.y0 {v : PV} (h : v.good = true) (hk : v.k ≠ 1) : v.yes = false := by
 unfold PV.good at h;rcases PV.kinds h with e | e | e | e | e <;> simp [e] at h <;> first | exact absurd e hk | simp [h]
theorem PV.b0 {v : PV} (h : v.good = true) (hk : v.k ≠ 2) : v.neg = false ∧ v.xs = [] := by
 unfold PV.good at h;rcases PV.kinds h with e | e | e | e | e <;> simp [e] at h <;> first | exact absurd e hk | simp [h]
theorem PV.xs_len {v : PV} (h : v.good = true) : v.xs.length ≤ 1048576 := by
 by_cases hk : v.k = 2
 · have := qc (PV.good2 h hk);omega
 · rw [(PV.b0 h hk).2]; decide
theorem neg_bare {b : Nat} (hb : b < 18446744073709551616) : yt (yn (yt b)) = yt (yn b) := by
 have e1 : isN (yn b) = isN b := oo hb;by_cases h : isN b = true
 · have e2 : isN (yn 9221120237041090560) = true := by rw [oo (by decide)]; decide
   unfold yt;rw [if_pos h, if_pos e2, if_pos (e1.trans h)]
 · have h2 : ¬ isN (yn b) = true := by rw [e1]; exact h
   rw [show yt b = b from if_neg h]
theorem neg_same {a b : Nat} (ha : a < 18446744073709551616) (hb : b < 18446744073709551616) : (((yt (yn a) : Nat) : Int) == ((yt (yn b) : Nat) : Int)) = (((yt a : Nat) : Int) == ((yt b : Nat) : Int)) := by
 have h1 : ((yt (yn a) : Nat) : Int) = ((yt (yn b) : Nat) : Int) ↔ ((yt a : Nat) : Int) = ((yt b : Nat) : Int) := by
  constructor
  · intro h;have h : yt (yn a) = yt (yn b) := by omega
    have h2 := congrArg (fun z => yt (yn z)) h;have h2 : yt (yn (yt (yn a))) = yt (yn (yt (yn b))) := h2;rw [neg_twice ha, neg_twice hb] at h2;rw [h2]
  · intro h;have h : yt a = yt b := by omega
    have h2 : yt (yn (yt a)) = yt (yn (yt b)) := by rw [h]
    rw [neg_bare ha, neg_bare hb] at h2;rw [h2]
 exact Bool.eq_iff_iff.2 (by rw [beq_iff_eq, beq_iff_eq]; exact h1)
section
variable {u v : PV} (g1 : u.good = true) (g2 : v.good = true) (h3 : (u.k == v.k) = true) (h5 : u.k ≠ 3)
include g1 g2 h3 h5
theorem PV.same_at (ho : (u.yes == v.yes) = true) (hs : (u.s.toList == v.s.toList) = true) : je u v = od u.neg u.xs v.neg v.xs := by
 have hk := eq_of_beq h3;unfold je;rw [g1, g2, h3];by_cases h2 : u.k = 2
 · rw [Bool.and_self, Bool.and_self, if_pos rfl, if_pos h2, PV.good2 g1 h2, PV.good2 g2 (by omega)];obtain ⟨i, a1, a2, a3⟩ := zqx (PV.good2 g1 h2);obtain ⟨j, b1, b2, b3⟩ := zqx (PV.good2 g2 (by omega));rw [a1, a2, b1, b2, qz, qz];unfold cmpO;exact same_cmp a3 b3
 · rw [Bool.and_self, Bool.and_self, if_pos rfl, if_neg h2, if_neg h5, ho, if_pos rfl, hs, (PV.b0 g1 h2).1, (PV.b0 g1 h2).2, (PV.b0 g2 (by omega)).1, (PV.b0 g2 (by omega)).2];rfl
theorem PV.same_s (hs : (u.s.toList == v.s.toList) = false) : je u v = false := by
 have hk := eq_of_beq h3;unfold je;rw [g1, g2, h3];by_cases h2 : u.k = 2
 · rw [PV.s0 g1 (by omega), PV.s0 g2 (by omega)] at hs;simp at hs
 · rw [Bool.and_self, Bool.and_self, if_pos rfl, if_neg h2, if_neg h5, hs];split <;> rfl
theorem PV.same_y (ho : (u.yes == v.yes) = false) : je u v = false := by
 have hk := eq_of_beq h3;unfold je;rw [g1, g2, h3];by_cases h2 : u.k = 2
 · rw [PV.y0 g1 (by omega), PV.y0 g2 (by omega)] at ho;simp at ho
 · rw [Bool.and_self, Bool.and_self, if_pos rfl, if_neg h2, if_neg h5, ho];rfl
end
end Go.Proofs.YtaleikoeklemmaaGreatDoor
namespace Go.Proofs.YtaleikoeklemmaaGreatDoor
open Go.RowKit
set_option maxRecDepth 100000
attribute [local irreducible] OW RS
def oq (h : Nat) (x : UInt8) : Nat := (31 * h + x.toNat + 1) % 2147483647
def hashN (l : List UInt8) : Nat := l.foldl oq l.length
noncomputable def zdq (v : PV) : Int := if v.good then (if v.k = 0 then 1 else if v.k = 3 then zdk v.bits else if v.k = 4 then ((hashN v.s.data.toList : Nat) : Int) else hashO v.cn v.cx) else 0
def truthV (v : PV) : Bool := if v.good then (if v.k = 1 then v.yes else if v.k = 2 then decide ((0 : Int) < ((v.xs.length : Nat) : Int)) else if v.k = 3 then (IntKind.u64.wrap (((v.bits : Nat) : Int) * 2) != 0) else !(v.s.toList == (⟨#[]⟩ : ByteArray).toList)) else false
theorem fold_lt (l : List UInt8) (h : Nat) (hh : h < 2147483647) : l.foldl oq h < 2147483647 := by
 induction l generalizing h with
 | nil => exact hh
 | cons x l ih => exact ih _ (Nat.mod_lt _ (by decide))
theorem fold_step {l : List UInt8} {i : Nat} {x : UInt8} (h : l[i]? = some x) (n : Nat) : (l.take (i + 1)).foldl oq n = oq ((l.take i).foldl oq n) x := by
 obtain ⟨hi, he⟩ := List.getElem?_eq_some_iff.1 h;rw [List.take_succ_eq_append_getElem hi, List.foldl_append, he];rfl
theorem rem_at (m x : Nat) : (31 * ((m : Nat) : Int) + ((x : Nat) : Int) + 1).tmod 2147483647 = (((31 * m + x + 1) % 2147483647 : Nat) : Int) := by
 rw [Int.tmod_eq_emod_of_nonneg (by omega)]; omega
section
variable (w : World) (ua : PV) (A1 B1 : Option Addr) (c1 d1 : Nat) (hx : Nums w A1 ua.xs) (hl : ua.xs.length ≤ 9223372036854775807) (ha : ua.bits < 18446744073709551616)
include hx hl ha
theorem ph0 (g1 : ua.good = false) : Calls Tryz.prog 13 #[.agg #[.int .i64 ua.k, .bool ua.yes, .bool ua.neg, .slice A1 ua.xs.length c1, .int .u64 ((ua.bits : Nat) : Int), .string ua.s, .slice B1 ua.ni d1]] w fun e w' => e = .returned (.int .i64 (zdq ua)) ∧ Below w.heap.size w w' := by
 have _ := hx; have _ := hl; have _ := ha;refine zr Tryz.func13 rfl Tryz.ntmps13 rfl ?_;have HF : Per (No) w (fun _ => True) := Per.true_;have LW := erx (No) w;have XLW := grx (No) w;have E := erx (No) w;replace HF := HF.on E;replace LW := LW.step E XLW;replace E := erx (No) w;replace HF := HF.and (Per.nums0 hx);refine srx (za rfl (zv rfl ?_));intro gb1 w2 Bb1 Eb1 Gb1
 have Gb1 : _ ≤ gb1 := Nat.le_trans E.size Gb1;have GLb1 := Nat.le_trans LW.size Gb1;replace E := E.trans Eb1.no;replace HF := HF.cons (zg Gb1);replace E := E.cons (some gb1);replace XLW := Mut.grow XLW (fun k e => Or.inr (Nat.le_trans LW.size ((zg Gb1) k e)));replace HF := HF.on E;replace LW := LW.step E XLW;have SB : ∀ q9, No q9 → Mut [(some gb1)] q9 := (Mut.skip Mut.nil_)
 replace HF := HF.less SB;replace XLW := fun k h => XLW k (SB k h);clear SB;replace E := erx (No) w2;replace HF := HF.and (Per.blkN Bb1 NotIn.nil);refine anx rfl (zj (srx (za rfl (zm Tryz.underlying28 rfl yp rfl (HF.on E).here.2 rfl (za rfl (zc gp rfl ((qe _ ua A1 B1 c1 d1 (HF.on E).here.1.2 hl false g1).mono ?_)))))));rintro e w3 ⟨rfl, hb⟩;refine ⟨_, rfl, ?_⟩
 replace E := blx E hb;refine za rfl (yi rfl (rnx (yb rfl (srx (anx rfl (zl (zf (zk (rs := [.tmp 2]) (vs := [_]) rfl ⟨rfl, trivial⟩ ?_))))))));exact ⟨by unfold zdq; rw [g1]; rfl, (LW.step E XLW).toBelow⟩
theorem ph1 (g1 : ua.good = true) (h0 : ua.k = 0) : Calls Tryz.prog 13 #[.agg #[.int .i64 ua.k, .bool ua.yes, .bool ua.neg, .slice A1 ua.xs.length c1, .int .u64 ((ua.bits : Nat) : Int), .string ua.s, .slice B1 ua.ni d1]] w fun e w' => e = .returned (.int .i64 (zdq ua)) ∧ Below w.heap.size w w' := by
 have _ := hx; have _ := hl; have _ := ha;refine zr Tryz.func13 rfl Tryz.ntmps13 rfl ?_;have HF : Per (No) w (fun _ => True) := Per.true_;have LW := erx (No) w;have XLW := grx (No) w;have E := erx (No) w;replace HF := HF.on E;replace LW := LW.step E XLW;replace E := erx (No) w;replace HF := HF.and (Per.nums0 hx);refine srx (za rfl (zv rfl ?_));intro gb1 w2 Bb1 Eb1 Gb1
 have Gb1 : _ ≤ gb1 := Nat.le_trans E.size Gb1;have GLb1 := Nat.le_trans LW.size Gb1;replace E := E.trans Eb1.no;replace HF := HF.cons (zg Gb1);replace E := E.cons (some gb1);replace XLW := Mut.grow XLW (fun k e => Or.inr (Nat.le_trans LW.size ((zg Gb1) k e)));replace HF := HF.on E;replace LW := LW.step E XLW;have SB : ∀ q9, No q9 → Mut [(some gb1)] q9 := (Mut.skip Mut.nil_)
 replace HF := HF.less SB;replace XLW := fun k h => XLW k (SB k h);clear SB;replace E := erx (No) w2;replace HF := HF.and (Per.blkN Bb1 NotIn.nil);refine anx rfl (zj (srx (za rfl (zm Tryz.underlying28 rfl yp rfl (HF.on E).here.2 rfl (za rfl (zc gp rfl ((qe _ ua A1 B1 c1 d1 (HF.on E).here.1.2 hl true g1).mono ?_)))))));rintro e w3 ⟨rfl, hb⟩;refine ⟨_, rfl, ?_⟩
 replace E := blx E hb
 refine za rfl (yi rfl (rnx (zt rfl (zp (zh (zj (srx (za rfl (zb Tryz.underlying28 rfl sz3 (by decide) rfl (za rfl (ze Tryz.underlying3 rfl rfl (HF.on E).here.2 rfl (rnx (yh (srx (za rfl (ya rfl rfl (anx rfl (zu 11 (.bool true) rfl ((by simp [h0] : (.bool (ua.k == 0) : Value) = _)) (yb rfl (srx (anx rfl (zl (zw (zf (zk (rs := [.tmp 2]) (vs := [_]) rfl ⟨rfl, trivial⟩ ?_)))))))))))))))))))))))))
 exact ⟨by unfold zdq; rw [g1, if_pos rfl, if_pos h0]; rfl, (LW.step E XLW).toBelow⟩
theorem ph2 (g1 : ua.good = true) (h0 : ¬ ua.k = 0) (h3 : ua.k = 3) : Calls Tryz.prog 13 #[.agg #[.int .i64 ua.k, .bool ua.yes, .bool ua.neg, .slice A1 ua.xs.length c1, .int .u64 ((ua.bits : Nat) : Int), .string ua.s, .slice B1 ua.ni d1]] w fun e w' => e = .returned (.int .i64 (zdq ua)) ∧ Below w.heap.size w w' := by
 have _ := hx; have _ := hl; have _ := ha;refine zr Tryz.func13 rfl Tryz.ntmps13 rfl ?_;have HF : Per (No) w (fun _ => True) := Per.true_;have LW := erx (No) w;have XLW := grx (No) w;have E := erx (No) w;replace HF := HF.on E;replace LW := LW.step E XLW;replace E := erx (No) w;replace HF := HF.and (Per.nums0 hx);refine srx (za rfl (zv rfl ?_));intro gb1 w2 Bb1 Eb1 Gb1
 have Gb1 : _ ≤ gb1 := Nat.le_trans E.size Gb1;have GLb1 := Nat.le_trans LW.size Gb1;replace E := E.trans Eb1.no;replace HF := HF.cons (zg Gb1);replace E := E.cons (some gb1);replace XLW := Mut.grow XLW (fun k e => Or.inr (Nat.le_trans LW.size ((zg Gb1) k e)));replace HF := HF.on E;replace LW := LW.step E XLW;have SB : ∀ q9, No q9 → Mut [(some gb1)] q9 := (Mut.skip Mut.nil_)
 replace HF := HF.less SB;replace XLW := fun k h => XLW k (SB k h);clear SB;replace E := erx (No) w2;replace HF := HF.and (Per.blkN Bb1 NotIn.nil);refine anx rfl (zj (srx (za rfl (zm Tryz.underlying28 rfl yp rfl (HF.on E).here.2 rfl (za rfl (zc gp rfl ((qe _ ua A1 B1 c1 d1 (HF.on E).here.1.2 hl true g1).mono ?_)))))));rintro e w3 ⟨rfl, hb⟩;refine ⟨_, rfl, ?_⟩
 replace E := blx E hb
 refine za rfl (yi rfl (rnx (zt rfl (zp (zh (zj (srx (za rfl (zb Tryz.underlying28 rfl sz3 (by decide) rfl (za rfl (ze Tryz.underlying3 rfl rfl (HF.on E).here.2 rfl (rnx (yh (srx (za rfl (ya rfl rfl (anx rfl (zu 11 (.bool false) rfl ((by simp [h0] : (.bool (ua.k == 0) : Value) = _)) (zt rfl (srx (za rfl (ya rfl rfl (anx rfl (zu 13 (.bool true) rfl ((by simp [h3] : (.bool (ua.k == 3) : Value) = _)) (yb rfl (srx (za rfl (zb Tryz.underlying28 rfl kz (by decide) rfl (za rfl (ze Tryz.underlying25 rfl rfl (HF.on E).here.2 rfl (za rfl (zc en35 rfl ((hash_any _ ua.bits ha).mono ?_)))))))))))))))))))))))))))))))))
 rintro e w4 ⟨rfl, hb⟩;refine ⟨_, rfl, ?_⟩;replace E := blx E hb;refine anx rfl (zl (zw (zf (zk (rs := [.tmp 2]) (vs := [_]) rfl ⟨rfl, trivial⟩ ?_))));exact ⟨by unfold zdq; rw [g1, if_pos rfl, if_neg h0, if_pos h3]; rfl, (LW.step E XLW).toBelow⟩
theorem ph4 (g1 : ua.good = true) (h0 : ¬ ua.k = 0) (h3 : ¬ ua.k = 3) (h4 : ¬ ua.k = 4) : Calls Tryz.prog 13 #[.agg #[.int .i64 ua.k, .bool ua.yes, .bool ua.neg, .slice A1 ua.xs.length c1, .int .u64 ((ua.bits : Nat) : Int), .string ua.s, .slice B1 ua.ni d1]] w fun e w' => e = .returned (.int .i64 (zdq ua)) ∧ Below w.heap.size w w' := by
 have _ := hx; have _ := hl; have _ := ha;have hcl := PV.cx_len hl;refine zr Tryz.func13 rfl Tryz.ntmps13 rfl ?_;have HF : Per (No) w (fun _ => True) := Per.true_;have LW := erx (No) w;have XLW := grx (No) w;have E := erx (No) w;replace HF := HF.on E;replace LW := LW.step E XLW;replace E := erx (No) w;replace HF := HF.and (Per.nums0 hx);refine srx (za rfl (zv rfl ?_))
 intro gb1 w2 Bb1 Eb1 Gb1;have Gb1 : _ ≤ gb1 := Nat.le_trans E.size Gb1;have GLb1 := Nat.le_trans LW.size Gb1;replace E := E.trans Eb1.no;replace HF := HF.cons (zg Gb1);replace E := E.cons (some gb1);replace XLW := Mut.grow XLW (fun k e => Or.inr (Nat.le_trans LW.size ((zg Gb1) k e)));replace HF := HF.on E;replace LW := LW.step E XLW
 have SB : ∀ q9, No q9 → Mut [(some gb1)] q9 := (Mut.skip Mut.nil_);replace HF := HF.less SB;replace XLW := fun k h => XLW k (SB k h);clear SB;replace E := erx (No) w2;replace HF := HF.and (Per.blkN Bb1 NotIn.nil)
 refine anx rfl (zj (srx (za rfl (zm Tryz.underlying28 rfl yp rfl (HF.on E).here.2 rfl (za rfl (zc gp rfl ((qe _ ua A1 B1 c1 d1 (HF.on E).here.1.2 hl true g1).mono ?_)))))));rintro e w3 ⟨rfl, hb⟩;refine ⟨_, rfl, ?_⟩;replace E := blx E hb
 refine za rfl (yi rfl (rnx (zt rfl (zp (zh (zj (srx (za rfl (zb Tryz.underlying28 rfl sz3 (by decide) rfl (za rfl (ze Tryz.underlying3 rfl rfl (HF.on E).here.2 rfl (rnx (yh (srx (za rfl (ya rfl rfl (anx rfl (zu 11 (.bool false) rfl ((by simp [h0] : (.bool (ua.k == 0) : Value) = _)) (zt rfl (srx (za rfl (ya rfl rfl (anx rfl (zu 13 (.bool false) rfl ((by simp [h3] : (.bool (ua.k == 3) : Value) = _)) (zt rfl (srx (za rfl (ya rfl rfl (anx rfl (zu 18 (.bool false) rfl ((by simp [h4] : (.bool (ua.k == 4) : Value) = _)) (zt rfl (zp (zy ?_)))))))))))))))))))))))))))))))))
 refine zh (srx (za rfl (zm Tryz.underlying28 rfl yp rfl (HF.on E).here.2 rfl (za rfl (zc en37 rfl ((zcx _ ua A1 B1 c1 d1).mono ?_))))));rintro e w4 ⟨A3, c3, rfl, hN, hb⟩;refine ⟨_, rfl, ?_⟩;replace E := blx E hb;have hN3 : Nums w4 A3 ua.cx := hN.elim (fun h => by rw [h.1, h.2]; exact (HF.on E).here.1.2) (fun h => h.nums)
 refine za rfl (zc en36 rfl ((hashbig_any ua.cn A3 c3 ua.cx _ hN3 hcl).mono ?_));rintro e w5 ⟨rfl, hb⟩;refine ⟨_, rfl, ?_⟩;replace E := blx E hb;refine anx rfl (zl (zk (rs := [.tmp 2]) (vs := [_]) rfl ⟨rfl, trivial⟩ ?_));exact ⟨by unfold zdq; rw [g1, if_pos rfl, if_neg h0, if_neg h3, if_neg h4]; rfl, (LW.step E XLW).toBelow⟩
theorem ph3 (g1 : ua.good = true) (h0 : ¬ ua.k = 0) (h3 : ¬ ua.k = 3) (h4 : ua.k = 4) (hsl : ua.s.size ≤ 20000) : Calls Tryz.prog 13 #[.agg #[.int .i64 ua.k, .bool ua.yes, .bool ua.neg, .slice A1 ua.xs.length c1, .int .u64 ((ua.bits : Nat) : Int), .string ua.s, .slice B1 ua.ni d1]] w fun e w' => e = .returned (.int .i64 (zdq ua)) ∧ Below w.heap.size w w' := by
 have _ := ha;have hsn : ua.s.data.toList.length = ua.s.size := by rw [Array.length_toList]; rfl
 have hbx : ∀ x : UInt8, x.toNat < 256 := fun x => x.toNat_lt;refine zr Tryz.func13 rfl Tryz.ntmps13 rfl (srx (za rfl (zv rfl ?_)));rintro gv wA BX E1 G1
 refine anx rfl (zj (srx (za rfl (zcq (cs := #[.int .i64 ua.k, .bool ua.yes, .bool ua.neg, .slice A1 ua.xs.length c1, .int .u64 ((ua.bits : Nat) : Int), .string ua.s, .slice B1 ua.ni d1]) Tryz.underlying28 rfl yp rfl rfl (fun j v hj ↦ by have h := (BX.cell j).trans hj; rw [Nat.zero_add]; exact h) (za rfl (zc gp rfl ((qe _ ua A1 B1 c1 d1 (Per.nums0 hx _ E1) hl true g1).mono ?_)))))))
 rintro e w1 ⟨rfl, hb⟩;refine ⟨_, rfl, ?_⟩;have E2 := E1.trans (Ext.of_below hb No);have BX2 := BX.ext (Ext.of_below hb No) (fun h => h.elim)
 refine za rfl (yi rfl (rnx (zt rfl (zp (zh (zj (srx (za rfl (zb Tryz.underlying28 rfl sz3 (by decide) rfl (za rfl (ze Tryz.underlying3 rfl rfl BX2 rfl (rnx (yh (srx (za rfl (ya rfl rfl (anx rfl (zu 11 (.bool false) rfl ((by simp [h0] : (.bool (ua.k == 0) : Value) = _)) (zt rfl (srx (za rfl (ya rfl rfl (anx rfl (zu 13 (.bool false) rfl ((by simp [h3] : (.bool (ua.k == 3) : Value) = _)) (zt rfl (srx (za rfl (ya rfl rfl (anx rfl (zu 18 (.bool true) rfl ((by simp [h4] : (.bool (ua.k == 4) : Value) = _)) (yb rfl (srx ?_))))))))))))))))))))))))))))))))
 refine za rfl (zb Tryz.underlying28 rfl sz9 (by decide) rfl (za rfl (ze Tryz.underlying9 rfl rfl BX2 rfl (za rfl (jm Tryz.underlying9 rfl (anx rfl (zj (srx (za rfl (zb Tryz.underlying28 rfl sz9 (by decide) rfl (za rfl (ze Tryz.underlying9 rfl rfl BX2 rfl (za rfl (yhz Tryz.underlying9 Tryz.underlying43 Tryz.underlying5 rfl rfl rfl ?_))))))))))))))
 rintro gx cx wC RX E5 GX;have E6 := E2.trans E5
 refine za rfl (vq Tryz.underlying43 rfl (mvx rfl (rnx (yh (zax (ι := Nat) (fun i => [(3, .int .i64 (((ua.s.data.toList.take i).foldl oq ua.s.size : Nat) : Int)), (25, .slice (some ⟨gx, 0, none⟩) ua.s.size cx), (26, .int .i64 ((ua.s.size : Nat) : Int)), (27, .int .i64 ((i : Nat) : Int))]) (fun i w' => i ≤ ua.s.size ∧ Ext No wC w') (fun i => ua.s.size - i) 0 ⟨rfl, rfl, rfl, rfl, trivial⟩ (⟨Nat.zero_le _, Ext.refl _ _⟩) ?_)))))
 rintro i w3 ⟨hin, XI⟩;refine srx (za rfl (vp rfl rfl (rnx (zj (ym rfl (fun hic => ?_) (fun hic => ?_))))))
 ·
  have hic := of_decide_eq_true hic;have hil : i < ua.s.size := by omega
  obtain ⟨x, hxl⟩ : ∃ x, ua.s.data.toList[i]? = some x := ⟨_, List.getElem?_eq_getElem (by omega)⟩;have hxb := hbx x;obtain ⟨m, hm⟩ : ∃ m, m = (ua.s.data.toList.take i).foldl oq ua.s.size := ⟨_, rfl⟩;have hml : m < 2147483647 := by rw [hm]; exact fold_lt _ _ (by omega)
  have hcell : ∀ z, Ext No wC z → z.cell? ⟨gx, 0 + i, none⟩ = some (.int .u8 ((x.toNat : Nat) : Int)) := fun z hz => by
   rw [Nat.zero_add];exact Per.rowL RX z hz i (.int .u8 ((x.toNat : Nat) : Int)) (by rw [List.getElem?_map, hxl]; rfl)
  rw [← hm]
  refine zu 3 (.int .i64 ((m : Nat) : Int)) rfl (rfl) (zp (zh (zj (yh (srx (za rfl (gl (j := i) Tryz.underlying43 sz5 rfl rfl rfl hil (za rfl (oh Tryz.underlying5 rfl rfl (hcell _ XI) (anx rfl (yr (mvx rfl (za rfl (ji rfl rfl (yc (by omega)) (mvx rfl (za rfl (vm Tryz.underlying3 Tryz.underlying5 rfl (yc (by omega)) (za rfl (qk rfl rfl (yc (by omega)) (za rfl (qk rfl rfl (yc (by omega)) (za rfl (kl rfl rfl (by decide) (rem_at m x.toNat) (avx rfl (vg (zy (zh (yr (za rfl (qk rfl rfl (yc (by omega)) (mvx rfl (vg ?_))))))))))))))))))))))))))))))))
  exact jo (i + 1) (by show ua.s.size - (i + 1) < ua.s.size - i; omega) ⟨by rw [fold_step hxl, ← hm]; rfl, rfl, rfl, rfl, trivial⟩ (⟨by omega, XI⟩)
 ·
  have hic := of_decide_eq_false hic;obtain rfl : i = ua.s.size := by omega
  refine jq (ye (ye (qg (zh (srx (mvx rfl (anx rfl (zl (zw (zf (zk (rs := [.tmp 2]) (vs := [_]) rfl ⟨rfl, trivial⟩ ?_)))))))))));exact ⟨by unfold zdq hashN; rw [g1, if_pos rfl, if_neg h0, if_neg h3, if_pos h4, hsn, List.take_of_length_le (by omega)]; rfl, (E6.trans XI).toBelow⟩
theorem pl_hash : Calls Tryz.prog 13 #[.agg #[.int .i64 ua.k, .bool ua.yes, .bool ua.neg, .slice A1 ua.xs.length c1, .int .u64 ((ua.bits : Nat) : Int), .string ua.s, .slice B1 ua.ni d1]] w fun e w' => e = .returned (.int .i64 (zdq ua)) ∧ Below w.heap.size w w' := by
 cases g1 : ua.good
 · exact ph0 w ua A1 B1 c1 d1 hx hl ha g1
 by_cases h0 : ua.k = 0
 · exact ph1 w ua A1 B1 c1 d1 hx hl ha g1 h0
 by_cases h3 : ua.k = 3
 · exact ph2 w ua A1 B1 c1 d1 hx hl ha g1 h0 h3
 by_cases h4 : ua.k = 4
 · exact ph3 w ua A1 B1 c1 d1 hx hl ha g1 h0 h3 h4 (PV.s_max g1 h4)
 · exact ph4 w ua A1 B1 c1 d1 hx hl ha g1 h0 h3 h4
end
end Go.Proofs.YtaleikoeklemmaaGreatDoor
namespace Go.Proofs.YtaleikoeklemmaaGreatDoor
open Go.RowKit
set_option maxRecDepth 100000
attribute [local irreducible] OW RS
theorem rl_bytes (w : World) (s t : ByteArray) (hsz : s.size ≤ 9223372036854775806) : Calls Tryz.prog 33 #[.string s, .string t] w fun e w' => e = .returned (.int .i64 (Lib.compareBytes s.data.toList t.data.toList)) ∧ Below w.heap.size w w' := by
 have hss : s.size = s.data.toList.length := by rw [Array.length_toList]; rfl
 have hts : t.size = t.data.toList.length := by rw [Array.length_toList]; rfl
 obtain ⟨w0, hw0⟩ : ∃ w0, w0 = w := ⟨_, rfl⟩
 refine zr Tryz.func33 rfl Tryz.ntmps33 rfl (srx (anx rfl (zj (srx (anx rfl (yh (zax (ι := Nat) (fun i => [(0, .string s), (1, .string t), (5, .int .i64 ((i : Nat) : Int))]) (fun i w' => i ≤ s.size ∧ i ≤ t.size ∧ Lib.compareBytes (s.data.toList.drop i) (t.data.toList.drop i) = Lib.compareBytes s.data.toList t.data.toList ∧ Ext No w0 w') (fun i => s.size - i) 0 ⟨rfl, rfl, rfl, trivial⟩ (⟨Nat.zero_le _, Nat.zero_le _, rfl, by rw [hw0]; exact Ext.refl _ _⟩) ?_)))))))
 rintro i w2 ⟨his, hit, hcb, hEi⟩;rw [hw0] at hEi;refine zj (srx (mvx rfl (mvx rfl (za rfl (jm Tryz.underlying9 rfl (za rfl (vp rfl rfl (mvx rfl ?_))))))));by_cases hi : i < s.size
 ·
  refine zx 10 (.bool true) rfl (by rw [decide_eq_true]; omega) (onx rfl (zz rfl (onx rfl (zz rfl (onx rfl (jm Tryz.underlying9 rfl (onx rfl (vp rfl rfl (za rfl (zq rfl rfl (rnx ?_)))))))))));by_cases hj : i < t.size
  ·
   refine zu 15 (.bool true) rfl (by rw [decide_eq_true]; omega) ?_;obtain ⟨x, hx⟩ : ∃ x, s[i]? = some x := ⟨_, getElem?_pos s i hi⟩;obtain ⟨y, hy⟩ : ∃ y, t[i]? = some y := ⟨_, getElem?_pos t i hj⟩;have hds := bytes_drop hx;have hdt := bytes_drop hy;refine yb rfl (zp (zh (zj (yh (zj (zj ?_))))));refine vc (No) Mut.none_ [] [] (zdv [Fx.of (.string s),
    Fx.of (.int .i64 ((i : Nat) : Int)),
    Fx.of (.int .u8 ((x.toNat : Nat) : Int)),
    Fx.of (.string t),
    Fx.of (.int .i64 ((i : Nat) : Int)),
    Fx.of (.int .u8 ((y.toNat : Nat) : Int)),
    Fx.of (.bool (decide (((x.toNat : Nat) : Int) < ((y.toNat : Nat) : Int))))]) mixed rfl trivial (fun _ h => by cases h) ?_ ?_
   · refine ⟨?_, ?_, ?_, ?_, ?_, ?_, ?_, trivial⟩
     · intro vs X wq K;exact zz rfl ⟨Below.refl _ _, Left.of rfl⟩
     · intro vs X wq K;exact zz rfl ⟨Below.refl _ _, Left.of rfl⟩
     · intro vs X wq K;obtain ⟨_, e0, k0⟩ := K.dep 0 rfl rfl rfl;refine zn 18 (.string s) rfl e0 ?_;obtain ⟨_, e1, k1⟩ := K.dep 1 rfl rfl rfl;refine zn 19 (.int .i64 ((i : Nat) : Int)) rfl e1 ?_;exact kd (j := i) Tryz.underlying9 rfl rfl rfl hx ⟨Below.refl _ _, Left.of rfl⟩
     · intro vs X wq K;exact zz rfl ⟨Below.refl _ _, Left.of rfl⟩
     · intro vs X wq K;exact zz rfl ⟨Below.refl _ _, Left.of rfl⟩
     · intro vs X wq K;obtain ⟨_, e3, k3⟩ := K.dep 3 rfl rfl rfl;refine zn 21 (.string t) rfl e3 ?_;obtain ⟨_, e4, k4⟩ := K.dep 4 rfl rfl rfl;refine zn 22 (.int .i64 ((i : Nat) : Int)) rfl e4 ?_;exact kd (j := i) Tryz.underlying9 rfl rfl rfl hy ⟨Below.refl _ _, Left.of rfl⟩
     · intro vs X wq K;obtain ⟨_, e2, k2⟩ := K.dep 2 rfl rfl rfl;refine zn 20 (.int .u8 ((x.toNat : Nat) : Int)) rfl e2 ?_;obtain ⟨_, e5, k5⟩ := K.dep 5 rfl rfl rfl;refine zn 23 (.int .u8 ((y.toNat : Nat) : Int)) rfl e5 ?_;exact vp rfl rfl ⟨Below.refl _ _, Left.of rfl⟩
   intro vs w3 LE AO AL AF AA;have hbd : Below (w2).heap.size (w2) w3 := (((Ext.refl No (w2)).drew).trans LE).toBelow;obtain ⟨_, e6, k6⟩ := AL.2.2.2.2.2.2.1;refine gg (τ := [(0, _), (1, _), (5, _), (24, .bool (decide (((x.toNat : Nat) : Int) < ((y.toNat : Nat) : Int))))]) ⟨rfl, rfl, rfl, congrArg some e6, trivial⟩ ?_;clear AL AF AA AO;have E1 := hEi.trans (Ext.of_below hbd No)
   by_cases hxy : x < y
   ·
    have hxy2 : x.toNat < y.toNat := hxy;refine ew_set 24 (.bool true) rfl (congrArg Value.bool (decide_eq_true (Int.ofNat_lt.2 hxy2))) (zh (yb rfl (srx (anx rfl (zl (zf (zw (zf (zf (zw (zf (zk (rs := [.tmp 4]) (vs := [_]) rfl ⟨rfl, trivial⟩ ?_))))))))))))
    exact ⟨by rw [← hcb, hds, hdt]; unfold Lib.compareBytes; rw [if_pos hxy]; rfl, by rw [hw0] at *; exact E1.toBelow⟩
   ·
    have hxy2 : ¬ x.toNat < y.toNat := hxy;refine ew_set 24 (.bool false) rfl (congrArg Value.bool (decide_eq_false (fun h => hxy2 (Int.ofNat_lt.1 h)))) ?_;obtain ⟨w8, hw8⟩ : ∃ z, z = w3 := ⟨_, rfl⟩;subst hw8;refine zh (zt rfl (zp (zh (zj ?_))));refine vc (No) Mut.none_ [] [] (zdv [Fx.of (.string s),
     Fx.of (.int .i64 ((i : Nat) : Int)),
     Fx.of (.int .u8 ((x.toNat : Nat) : Int)),
     Fx.of (.string t),
     Fx.of (.int .i64 ((i : Nat) : Int)),
     Fx.of (.int .u8 ((y.toNat : Nat) : Int)),
     Fx.of (.bool (decide (((y.toNat : Nat) : Int) < ((x.toNat : Nat) : Int))))]) mixed rfl trivial (fun _ h => by cases h) ?_ ?_
    · refine ⟨?_, ?_, ?_, ?_, ?_, ?_, ?_, trivial⟩
      · intro vs X wq K;exact zz rfl ⟨Below.refl _ _, Left.of rfl⟩
      · intro vs X wq K;exact zz rfl ⟨Below.refl _ _, Left.of rfl⟩
      · intro vs X wq K;obtain ⟨_, e0, k0⟩ := K.dep 0 rfl rfl rfl;refine zn 25 (.string s) rfl e0 ?_;obtain ⟨_, e1, k1⟩ := K.dep 1 rfl rfl rfl;refine zn 26 (.int .i64 ((i : Nat) : Int)) rfl e1 ?_;exact kd (j := i) Tryz.underlying9 rfl rfl rfl hx ⟨Below.refl _ _, Left.of rfl⟩
      · intro vs X wq K;exact zz rfl ⟨Below.refl _ _, Left.of rfl⟩
      · intro vs X wq K;exact zz rfl ⟨Below.refl _ _, Left.of rfl⟩
      · intro vs X wq K;obtain ⟨_, e3, k3⟩ := K.dep 3 rfl rfl rfl;refine zn 28 (.string t) rfl e3 ?_;obtain ⟨_, e4, k4⟩ := K.dep 4 rfl rfl rfl;refine zn 29 (.int .i64 ((i : Nat) : Int)) rfl e4 ?_;exact kd (j := i) Tryz.underlying9 rfl rfl rfl hy ⟨Below.refl _ _, Left.of rfl⟩
      · intro vs X wq K;obtain ⟨_, e2, k2⟩ := K.dep 2 rfl rfl rfl;refine zn 27 (.int .u8 ((x.toNat : Nat) : Int)) rfl e2 ?_;obtain ⟨_, e5, k5⟩ := K.dep 5 rfl rfl rfl;refine zn 30 (.int .u8 ((y.toNat : Nat) : Int)) rfl e5 ?_;exact vh rfl rfl ⟨Below.refl _ _, Left.of rfl⟩
    intro vs w4 LE AO AL AF AA;have hbd : Below (w8).heap.size (w8) w4 := (((Ext.refl No (w8)).drew).trans LE).toBelow;obtain ⟨_, e6, k6⟩ := AL.2.2.2.2.2.2.1;refine gg (τ := [(0, _), (1, _), (5, _), (31, .bool (decide (((y.toNat : Nat) : Int) < ((x.toNat : Nat) : Int))))]) ⟨rfl, rfl, rfl, congrArg some e6, trivial⟩ ?_;clear AL AF AA AO;have E2 := E1.trans (Ext.of_below hbd No)
    by_cases hyx : y < x
    ·
     have hyx2 : y.toNat < x.toNat := hyx;refine ew_set 31 (.bool true) rfl (congrArg Value.bool (decide_eq_true (Int.ofNat_lt.2 hyx2))) (zh (yb rfl (srx (anx rfl (zl (zw (zf (zf (zw (zf (zk (rs := [.tmp 4]) (vs := [_]) rfl ⟨rfl, trivial⟩ ?_)))))))))))
     exact ⟨by rw [← hcb, hds, hdt]; unfold Lib.compareBytes; rw [if_neg hxy, if_pos hyx]; rfl, by rw [hw0] at *; exact E2.toBelow⟩
    ·
     have hyx2 : ¬ y.toNat < x.toNat := hyx;refine ew_set 31 (.bool false) rfl (congrArg Value.bool (decide_eq_false (fun h => hyx2 (Int.ofNat_lt.1 h)))) (zh (zt rfl (zp (zy (zh (yr (mvx rfl (za rfl (qk rfl rfl (yc (by omega)) (avx rfl (vg ?_)))))))))))
     exact jo (i + 1) (by show s.size - (i + 1) < s.size - i; omega) ⟨rfl, rfl, rfl, trivial⟩ (⟨by omega, by omega, by rw [← hcb, hds, hdt]; conv => rhs; unfold Lib.compareBytes; rw [if_neg hxy, if_neg hyx], by rw [hw0]; exact E2⟩)
  ·
   refine zu 15 (.bool false) rfl (by rw [decide_eq_false]; omega) ?_;have hc := bytes_end1 (s := s) (t := t) hi (by omega)
   refine zt rfl (jq (ye (ye (qg (zh (zj (srx (mvx rfl (za rfl (jm Tryz.underlying9 rfl (mvx rfl (za rfl (jm Tryz.underlying9 rfl (za rfl (vp rfl rfl (rnx (zu 36 (.bool false) rfl (by rw [decide_eq_false]; omega) (zt rfl (zp (zh (zj (srx (mvx rfl (za rfl (jm Tryz.underlying9 rfl (mvx rfl (za rfl (jm Tryz.underlying9 rfl (za rfl (vh rfl rfl (rnx (zu 41 (.bool true) rfl (by rw [decide_eq_true]; omega) (yb rfl (srx (anx rfl (zl (zf (zk (rs := [.tmp 4]) (vs := [_]) rfl ⟨rfl, trivial⟩ ?_))))))))))))))))))))))))))))))))))))))
   exact ⟨by rw [← hcb, hc]; rfl, by rw [hw0] at *; exact hEi.toBelow⟩
 ·
  refine zx 10 (.bool false) rfl (by rw [decide_eq_false]; omega) (za rfl (zd rfl (za rfl (zd rfl (za rfl (zd rfl (za rfl (zd rfl (za rfl (zi rfl rfl (rnx (zt rfl (jq (ye (ye (qg (zh (zj (srx (mvx rfl (za rfl (jm Tryz.underlying9 rfl (mvx rfl (za rfl (jm Tryz.underlying9 rfl (za rfl (vp rfl rfl (rnx ?_))))))))))))))))))))))))))))
  by_cases hj : i < t.size
  ·
   have hc := bytes_end2 (s := s) (t := t) (i := i) (by omega) hj;refine zu 36 (.bool true) rfl (by rw [decide_eq_true]; omega) (yb rfl (srx (anx rfl (zl (zf (zk (rs := [.tmp 4]) (vs := [_]) rfl ⟨rfl, trivial⟩ ?_))))));exact ⟨by rw [← hcb, hc]; rfl, by rw [hw0] at *; exact hEi.toBelow⟩
  ·
   have hc := bytes_end3 (s := s) (t := t) (i := i) (by omega) (by omega)
   refine zu 36 (.bool false) rfl (by rw [decide_eq_false]; omega) (zt rfl (zp (zh (zj (srx (mvx rfl (za rfl (jm Tryz.underlying9 rfl (mvx rfl (za rfl (jm Tryz.underlying9 rfl (za rfl (vh rfl rfl (rnx (zu 41 (.bool false) rfl (by rw [decide_eq_false]; omega) (zt rfl (zp (zh (srx (anx rfl (zl (zk (rs := [.tmp 4]) (vs := [_]) rfl ⟨rfl, trivial⟩ ?_))))))))))))))))))))))
   exact ⟨by rw [← hcb, hc]; rfl, by rw [hw0] at *; exact hEi.toBelow⟩
section
variable (w : World) (ua ub : PV) (A1 B1 A2 B2 : Option Addr) (c1 d1 c2 d2 : Nat) (hx : Nums w A1 ua.xs) (hl : ua.xs.length ≤ 9223372036854775807) (ha : ua.bits < 18446744073709551616) (hy : Nums w A2 ub.xs) (hl' : ub.xs.length ≤ 9223372036854775807) (hb0 : ub.bits < 18446744073709551616) (g1 : ua.good = true) (g2 : ub.good = true)
theorem rl_number : Calls Tryz.prog 31 #[.agg #[.int .i64 ua.k, .bool ua.yes, .bool ua.neg, .slice A1 ua.xs.length c1, .int .u64 ((ua.bits : Nat) : Int), .string ua.s, .slice B1 ua.ni d1]] w fun e w' => e = .returned (.bool (jh ua.k)) ∧ Below w.heap.size w w' := by
 refine zr Tryz.func31 rfl Tryz.ntmps31 rfl ?_;have HF : Per (No) w (fun _ => True) := Per.true_;have LW := erx (No) w;have XLW := grx (No) w;have E := erx (No) w;refine srx (za rfl (zv rfl ?_));intro gb1 w2 Bb1 Eb1 Gb1;have Gb1 : _ ≤ gb1 := Nat.le_trans E.size Gb1;have GLb1 := Nat.le_trans LW.size Gb1;replace E := E.trans Eb1.no;replace HF := HF.cons (zg Gb1)
 replace E := E.cons (some gb1);replace XLW := Mut.grow XLW (fun k e => Or.inr (Nat.le_trans LW.size ((zg Gb1) k e)));replace HF := HF.on E;replace LW := LW.step E XLW;have SB : ∀ q9, No q9 → Mut [(some gb1)] q9 := (Mut.skip Mut.nil_);replace HF := HF.less SB;replace XLW := fun k h => XLW k (SB k h);clear SB;replace E := erx (No) w2;replace HF := HF.and (Per.blkN Bb1 NotIn.nil)
 refine anx rfl (srx (za rfl (zb Tryz.underlying28 rfl sz3 (by decide) rfl (za rfl (ze Tryz.underlying3 rfl rfl (HF.on E).here.2 rfl (za rfl (ya rfl rfl (mvx rfl (yl 6 rfl (fun h1 => ?_) (fun h1 => ?_))))))))))
 ·
  replace h1 := eq_of_beq h1;refine za rfl (zd rfl (za rfl (zd rfl (za rfl (zd rfl (za rfl (zq rfl rfl (mvx rfl (za rfl (zd rfl (za rfl (zd rfl (za rfl (zd rfl (za rfl (zq rfl rfl (anx rfl (zl (zk (rs := [.tmp 2]) (vs := [_]) rfl ⟨rfl, trivial⟩ ?_)))))))))))))))))))
  exact ⟨by refine congrArg (fun z => Ending.returned (.bool z)) ?_; unfold jh; first | (simp_all; done) | (refine Bool.eq_iff_iff.2 ?_; simp_all; done) | (refine Bool.eq_iff_iff.2 ?_; simp_all; omega), (LW.step E XLW).toBelow⟩
 ·
  replace h1 := beq_eq_false_iff_ne.1 h1;refine onx rfl (zb Tryz.underlying28 rfl sz3 (by decide) rfl (onx rfl (ze Tryz.underlying3 rfl rfl (HF.on E).here.2 rfl (onx rfl (ya rfl rfl (za rfl (zi rfl rfl (mvx rfl (yl 11 rfl (fun h2 => ?_) (fun h2 => ?_))))))))))
  ·
   replace h2 := eq_of_beq h2;refine za rfl (zd rfl (za rfl (zd rfl (za rfl (zd rfl (za rfl (zq rfl rfl (anx rfl (zl (zk (rs := [.tmp 2]) (vs := [_]) rfl ⟨rfl, trivial⟩ ?_))))))))))
   exact ⟨by refine congrArg (fun z => Ending.returned (.bool z)) ?_; unfold jh; first | (simp_all; done) | (refine Bool.eq_iff_iff.2 ?_; simp_all; done) | (refine Bool.eq_iff_iff.2 ?_; simp_all; omega), (LW.step E XLW).toBelow⟩
  ·
   replace h2 := beq_eq_false_iff_ne.1 h2;refine onx rfl (zb Tryz.underlying28 rfl sz3 (by decide) rfl (onx rfl (ze Tryz.underlying3 rfl rfl (HF.on E).here.2 rfl (onx rfl (ya rfl rfl (za rfl (zi rfl rfl (anx rfl (zl (zk (rs := [.tmp 2]) (vs := [_]) rfl ⟨rfl, trivial⟩ ?_))))))))))
   exact ⟨by refine congrArg (fun z => Ending.returned (.bool z)) ?_; unfold jh; first | (simp_all; done) | (refine Bool.eq_iff_iff.2 ?_; simp_all; done) | (refine Bool.eq_iff_iff.2 ?_; simp_all; omega), (LW.step E XLW).toBelow⟩
theorem zaz (r : Bool) (hr : jh ua.k = r) : Calls Tryz.prog 31 #[.agg #[.int .i64 ua.k, .bool ua.yes, .bool ua.neg, .slice A1 ua.xs.length c1, .int .u64 ((ua.bits : Nat) : Int), .string ua.s, .slice B1 ua.ni d1]] w fun e w' => e = .returned (.bool r) ∧ Below w.heap.size w w' := by
 subst hr;exact rl_number w ua A1 B1 c1 d1
include hx g1
theorem zvq (I : Int) (hI : I = num ua.cn ua.cx) (hk : ua.k = 1 ∨ ua.k = 2) : Calls Tryz.prog 56 #[.agg #[.int .i64 ua.k, .bool ua.yes, .bool ua.neg, .slice A1 ua.xs.length c1, .int .u64 ((ua.bits : Nat) : Int), .string ua.s, .slice B1 ua.ni d1]] w (zmv w I) := by
 subst hI;refine zr Tryz.func56 rfl Tryz.ntmps56 rfl (srx (za rfl (zv rfl ?_)));rintro gA wA BX E1 G1;refine za rfl (yq zr45 ?_);rintro gB wB BY E2 G2;have BXb := BX.ext E2 (fun h => h.elim);have E12 := E1.trans E2;have hs := E12.size
 refine rnx (zj (srx (za rfl (zb Tryz.underlying28 rfl sz3 (by decide) rfl (za rfl (ze Tryz.underlying3 rfl rfl BXb rfl (za rfl (ya rfl rfl (rnx (ym rfl (fun hk => ?_) (fun hk => ?_)))))))))))
 ·
  have hk1 : ua.k = 1 := by simpa using hk
  refine zj (srx (za rfl (zb Tryz.underlying28 rfl sz4 (by decide) rfl (za rfl (ze Tryz.underlying4 rfl rfl BXb rfl (rnx (ym rfl (fun hyes => ?_) (fun hyes => ?_))))))))
  ·
   have e2 : num ua.cn ua.cx = 1 := by unfold PV.cn PV.cx; rw [if_pos hk1, if_pos hk1, if_pos hyes]; exact num_1
   refine srx (za rfl (zc en20 rfl ((oe 1 _ (by decide) (by decide)).mono ?_)));rintro e w1 ⟨A3, c3, rfl, hO, hb⟩;refine ⟨_, rfl, ?_⟩;have E3 := Ext.of_below hb No;have BYc := BY.ext E3 (fun h => h.elim);refine yu (ve kh rfl rfl BYc rfl rfl rfl ?_);rintro wC BYd E4
   refine rnx (zl (zf (zf (zk (rs := [.cell 2 45]) (vs := [_]) rfl ⟨⟨_, rfl, qw Tryz.underlying45 rfl kh BYd rfl⟩, trivial⟩ ?_))));exact ⟨A3, c3, by rw [e2]; rfl, by rw [e2]; exact ztk hO E4 BY.lt hs, ((E12.trans E3).step E4 (fun q hq => Or.inr (by have := xr hq; have := E1.size; omega))).toBelow⟩
  ·
   have e2 : num ua.cn ua.cx = 0 := by unfold PV.cn PV.cx; rw [if_pos hk1, if_pos hk1, if_neg (by rw [hyes]; decide)]; exact num_0
   refine zp (zh (srx (za rfl (zc en20 rfl ((oe 0 _ (by decide) (by decide)).mono ?_)))));rintro e w2 ⟨A3, c3, rfl, hO, hb⟩;refine ⟨_, rfl, ?_⟩;have E3 := Ext.of_below hb No;have BYc := BY.ext E3 (fun h => h.elim);refine yu (ve kh rfl rfl BYc rfl rfl rfl ?_);rintro wC BYd E4
   refine rnx (zl (zf (zk (rs := [.cell 2 45]) (vs := [_]) rfl ⟨⟨_, rfl, qw Tryz.underlying45 rfl kh BYd rfl⟩, trivial⟩ ?_)));exact ⟨A3, c3, by rw [e2]; rfl, by rw [e2]; exact ztk hO E4 BY.lt hs, ((E12.trans E3).step E4 (fun q hq => Or.inr (by have := xr hq; have := E1.size; omega))).toBelow⟩
 ·
  have hk1 : ua.k ≠ 1 := by simpa using hk
  have hk2 : ua.k = 2 := by omega
  have e2 : num ua.cn ua.cx = num ua.neg ua.xs := by unfold PV.cn PV.cx; rw [if_neg hk1, if_neg hk1]
  have hx3 := Per.nums0 hx _ E12;refine zp (zh (srx (za rfl (zb Tryz.underlying28 rfl yw (by decide) rfl (za rfl (zcq (cs := #[.bool ua.neg, .slice A1 ua.xs.length c1]) Tryz.underlying24 rfl yw rfl rfl (znq (BXb.cell 2) (BXb.cell 3)) (za rfl (zc en87 rfl ((rof_any ua.neg A1 c1 ua.xs _ hx3 (PV.good2 g1 hk2)).mono ?_)))))))))
  rintro e w3 ⟨A3, c3, rfl, hO, hb⟩;refine ⟨_, rfl, ?_⟩;have E3 := Ext.of_below hb No;have BYc := BY.ext E3 (fun h => h.elim);refine yu (ve kh rfl rfl BYc rfl rfl rfl ?_);rintro wC BYd E4;refine rnx (zl (zk (rs := [.cell 2 45]) (vs := [_]) rfl ⟨⟨_, rfl, qw Tryz.underlying45 rfl kh BYd rfl⟩, trivial⟩ ?_))
  exact ⟨A3, c3, by rw [e2]; rfl, by rw [e2]; exact ztk hO E4 BY.lt hs, ((E12.trans E3).step E4 (fun q hq => Or.inr (by have := xr hq; have := E1.size; omega))).toBelow⟩
include hl ha hy hl' hb0 g2
theorem rl_numbers (n1 : jh ua.k = true) (n2 : jh ub.k = true) : Calls Tryz.prog 32 #[.agg #[.int .i64 ua.k, .bool ua.yes, .bool ua.neg, .slice A1 ua.xs.length c1, .int .u64 ((ua.bits : Nat) : Int), .string ua.s, .slice B1 ua.ni d1], .agg #[.int .i64 ub.k, .bool ub.yes, .bool ub.neg, .slice A2 ub.xs.length c2, .int .u64 ((ub.bits : Nat) : Int), .string ub.s, .slice B2 ub.ni d2]] w fun e w' => e = .returned (.tuple #[.int .i64 (ordC ua ub), .bool (zgz ua ub)]) ∧ Below w.heap.size w w' := by
 have _ := hl; have _ := hl';have n1 := numK_at n1;have n2 := numK_at n2;obtain ⟨I, hI⟩ : ∃ I, I = num ua.cn ua.cx := ⟨_, rfl⟩;obtain ⟨J, hJ⟩ : ∃ J, J = num ub.cn ub.cx := ⟨_, rfl⟩;refine zr Tryz.func32 rfl Tryz.ntmps32 rfl ?_;have HF : Per (No) w (fun _ => True) := Per.true_;have LW := erx (No) w;have XLW := grx (No) w;have E := erx (No) w;replace HF := HF.on E;replace LW := LW.step E XLW
 replace E := erx (No) w;replace HF := HF.and (Per.nums0 hx);replace HF := HF.on E;replace LW := LW.step E XLW;replace E := erx (No) w;replace HF := HF.and (Per.nums0 hy);by_cases hk3 : ua.k = 3
 ·
  by_cases hj3 : ub.k = 3
  ·
   refine srx (za rfl (zv rfl ?_));intro gb1 w2 Bb1 Eb1 Gb1;have Gb1 : _ ≤ gb1 := Nat.le_trans E.size Gb1;have GLb1 := Nat.le_trans LW.size Gb1;replace E := E.trans Eb1.no;replace HF := HF.cons (zg Gb1);replace E := E.cons (some gb1);replace XLW := Mut.grow XLW (fun k e => Or.inr (Nat.le_trans LW.size ((zg Gb1) k e)));replace HF := HF.on E;replace LW := LW.step E XLW
   have SB : ∀ q9, No q9 → Mut [(some gb1)] q9 := (Mut.skip Mut.nil_);replace HF := HF.less SB;replace XLW := fun k h => XLW k (SB k h);clear SB;replace E := erx (No) w2;replace HF := HF.and (Per.blkN Bb1 NotIn.nil);refine za rfl (zv rfl ?_);intro gb3 w4 Bb3 Eb3 Gb3;have Gb3 : _ ≤ gb3 := Nat.le_trans E.size Gb3;have GLb3 := Nat.le_trans LW.size Gb3;replace E := E.trans Eb3.no
   replace HF := HF.cons (zg Gb3);replace E := E.cons (some gb3);replace XLW := Mut.grow XLW (fun k e => Or.inr (Nat.le_trans LW.size ((zg Gb3) k e)));replace HF := HF.on E;replace LW := LW.step E XLW;have SB : ∀ q9, No q9 → Mut [(some gb3)] q9 := (Mut.skip Mut.nil_);replace HF := HF.less SB;replace XLW := fun k h => XLW k (SB k h);clear SB;replace E := erx (No) w4
   replace HF := HF.and (Per.blkN Bb3 NotIn.nil)
   refine avx rfl (anx rfl (zj (srx (za rfl (zb Tryz.underlying28 rfl sz3 (by decide) rfl (za rfl (ze Tryz.underlying3 rfl rfl (HF.on E).here.1.2 rfl (za rfl (ya rfl rfl (mvx rfl (zx 11 (.bool true) rfl ((by simp [hk3] : (.bool (ua.k == 3) : Value) = _)) (onx rfl (zb Tryz.underlying28 rfl sz3 (by decide) rfl (onx rfl (ze Tryz.underlying3 rfl rfl (HF.on E).here.2 rfl (onx rfl (ya rfl rfl (za rfl (zq rfl rfl (rnx (zu 15 (.bool true) rfl ((by simp [hj3] : (.bool (ub.k == 3) : Value) = _)) (yb rfl (srx (za rfl (zb Tryz.underlying28 rfl kz (by decide) rfl (za rfl (ze Tryz.underlying25 rfl rfl (HF.on E).here.1.2 rfl (za rfl (zb Tryz.underlying28 rfl kz (by decide) rfl (za rfl (ze Tryz.underlying25 rfl rfl (HF.on E).here.2 rfl (za rfl (zc en54 rfl ((rcmp_any_r _ ua.bits ub.bits ha hb0).mono ?_))))))))))))))))))))))))))))))))))
   rintro e w5 ⟨rfl, hb⟩;refine ⟨_, rfl, ?_⟩;replace E := blx E hb;refine za rfl (zo rfl rfl (za rfl (zo rfl rfl (avx rfl (anx rfl (zl (zf (zk (rs := [.tmp 4, .tmp 5]) (vs := [_, _]) rfl ⟨rfl, rfl, trivial⟩ ?_))))))));exact ⟨by unfold ordC zgz; rw [if_pos hk3, if_pos hk3, if_pos hj3, if_pos hj3]; rfl, (LW.step E XLW).toBelow⟩
  ·
   have hkb : ub.k = 1 ∨ ub.k = 2 := by omega
   have q2 := PV.canon g2 hkb;rw [← hJ] at q2;refine srx (za rfl (zv rfl ?_));intro gb6 w7 Bb6 Eb6 Gb6;have Gb6 : _ ≤ gb6 := Nat.le_trans E.size Gb6;have GLb6 := Nat.le_trans LW.size Gb6;replace E := E.trans Eb6.no;replace HF := HF.cons (zg Gb6);replace E := E.cons (some gb6);replace XLW := Mut.grow XLW (fun k e => Or.inr (Nat.le_trans LW.size ((zg Gb6) k e)))
   replace HF := HF.on E;replace LW := LW.step E XLW;have SB : ∀ q9, No q9 → Mut [(some gb6)] q9 := (Mut.skip Mut.nil_);replace HF := HF.less SB;replace XLW := fun k h => XLW k (SB k h);clear SB;replace E := erx (No) w7;replace HF := HF.and (Per.blkN Bb6 NotIn.nil);refine za rfl (zv rfl ?_);intro gb8 w9 Bb8 Eb8 Gb8;have Gb8 : _ ≤ gb8 := Nat.le_trans E.size Gb8
   have GLb8 := Nat.le_trans LW.size Gb8;replace E := E.trans Eb8.no;replace HF := HF.cons (zg Gb8);replace E := E.cons (some gb8);replace XLW := Mut.grow XLW (fun k e => Or.inr (Nat.le_trans LW.size ((zg Gb8) k e)));replace HF := HF.on E;replace LW := LW.step E XLW;have SB : ∀ q9, No q9 → Mut [(some gb8)] q9 := (Mut.skip Mut.nil_);replace HF := HF.less SB
   replace XLW := fun k h => XLW k (SB k h);clear SB;replace E := erx (No) w9;replace HF := HF.and (Per.blkN Bb8 NotIn.nil)
   refine avx rfl (anx rfl (zj (srx (za rfl (zb Tryz.underlying28 rfl sz3 (by decide) rfl (za rfl (ze Tryz.underlying3 rfl rfl (HF.on E).here.1.2 rfl (za rfl (ya rfl rfl (mvx rfl (zx 11 (.bool true) rfl ((by simp [hk3] : (.bool (ua.k == 3) : Value) = _)) (onx rfl (zb Tryz.underlying28 rfl sz3 (by decide) rfl (onx rfl (ze Tryz.underlying3 rfl rfl (HF.on E).here.2 rfl (onx rfl (ya rfl rfl (za rfl (zq rfl rfl (rnx (zu 15 (.bool false) rfl ((by simp [hj3] : (.bool (ub.k == 3) : Value) = _)) (zt rfl (zp (zh (zj (srx (za rfl (zb Tryz.underlying28 rfl sz3 (by decide) rfl (za rfl (ze Tryz.underlying3 rfl rfl (HF.on E).here.1.2 rfl (za rfl (ya rfl rfl (rnx (zu 25 (.bool true) rfl ((by simp [hk3] : (.bool (ua.k == 3) : Value) = _)) (yb rfl (zj ?_))))))))))))))))))))))))))))))))))))
   have OY : ∀ q9, (Mut (zaq [])) q9 → q9 < (World.drew w9).heap.size → (No) q9 := fun k h _ => (Mut.none_) k h;refine vc (No) Mut.none_ [] [] (zdv [Fx.of (.pointer (some ⟨gb6, 4, none⟩)),
    Fx.of (.int .u64 ((ua.bits : Nat) : Int)),
    Fx.of (.agg #[.int .i64 ub.k, .bool ub.yes, .bool ub.neg, .slice A2 ub.xs.length c2, .int .u64 ((ub.bits : Nat) : Int), .string ub.s, .slice B2 ub.ni d2]),
    ⟨(Option Addr × Nat), fun (A3, c3) => .agg #[.bool (decide (J < 0)), .slice A3 (tens J).length c3], fun (A3, c3) b => (Nums8 b A3 (tens J))⟩,
    ⟨(Option Addr × Nat), fun (A4, c4) => .agg #[.bool (decide (J < 0)), .slice A4 (limbs J).length c4], fun (A4, c4) b => (Nums b A4 (limbs J))⟩,
    Fx.of (.tuple #[.int .i64 (jk ua.bits (decide (J < 0)) (limbs J)), .bool (qq ua.bits (decide (J < 0)) (limbs J))]),
    Fx.of (.int .i64 (jk ua.bits (decide (J < 0)) (limbs J))),
    Fx.of (.bool (qq ua.bits (decide (J < 0)) (limbs J))),
    Fx.of (.int .i64 (jk ua.bits (decide (J < 0)) (limbs J))),
    Fx.of (.bool (qq ua.bits (decide (J < 0)) (limbs J)))]) mixed rfl trivial (fun _ h => by cases h) ?_ ?_
   · refine ⟨?_, ?_, ?_, ?_, ?_, ?_, ?_, ?_, ?_, ?_, trivial⟩
     · intro vs X wq K;exact zb Tryz.underlying28 rfl kz (by decide) rfl ⟨Below.refl _ _, Left.of rfl⟩
     · intro vs X wq K;have LE := K.1;obtain ⟨_, e0, k0⟩ := K.dep 0 rfl rfl rfl;refine zn 26 (.pointer (some ⟨gb6, 4, none⟩)) rfl e0 ?_;exact ze Tryz.underlying25 rfl rfl (HF.on (E.drew.trans (LE.mono OY))).here.1.2 rfl ⟨Below.refl _ _, Left.of rfl⟩
     · intro vs X wq K;have LE := K.1;exact zm Tryz.underlying28 rfl yp rfl (HF.on (E.drew.trans (LE.mono OY))).here.2 rfl ⟨Below.refl _ _, Left.of rfl⟩
     · intro vs X wq K;have LE := K.1;have XN := K.2.1;obtain ⟨_, e2, k2⟩ := K.dep 2 rfl rfl rfl;refine zn 28 (.agg #[.int .i64 ub.k, .bool ub.yes, .bool ub.neg, .slice A2 ub.xs.length c2, .int .u64 ((ub.bits : Nat) : Int), .string ub.s, .slice B2 ub.ni d2]) rfl e2 (zc en56 rfl ((zvq _ ub A2 B2 c2 d2 (HF.on (E.drew.trans (LE.mono OY))).here.1.1.2 g2 J hJ hkb).mono ?_))
       rintro e w2 ⟨A3, c3, rfl, hO, hb⟩;exact ⟨_, rfl, hb, ⟨(A3, c3), rfl, Per.own8X hO XN⟩⟩
     · intro vs X wq K;have XN := K.2.1;obtain ⟨⟨A3, c3⟩, e3, k3⟩ := K.dep 3 rfl rfl rfl;refine zn 29 (.agg #[.bool (decide (J < 0)), .slice A3 (tens J).length c3]) rfl e3 (zc en42 rfl ((rto_any A3 c3 J _ (k3.here) (by have := (ziv J).2 q2.2.2; omega)).mono ?_));rintro e w2 ⟨A4, c4, rfl, hO, hb⟩;exact ⟨_, rfl, hb, ⟨(A4, c4), rfl, Per.own hO XN⟩⟩
     · intro vs X wq K;obtain ⟨_, e1, k1⟩ := K.dep 1 rfl rfl rfl;refine zn 27 (.int .u64 ((ua.bits : Nat) : Int)) rfl e1 ?_;obtain ⟨⟨A4, c4⟩, e4, k4⟩ := K.dep 4 rfl rfl rfl
       refine zn 30 (.agg #[.bool (decide (J < 0)), .slice A4 (limbs J).length c4]) rfl e4 (zc en55 rfl ((yhx _ ua.bits ha (decide (J < 0)) A4 c4 (limbs J) (k4.here) (by have := vn q2.2.2; omega)).mono ?_));rintro e w2 ⟨rfl, hb⟩;exact ⟨_, rfl, hb, Left.of rfl⟩
     · intro vs X wq K;obtain ⟨_, e5, k5⟩ := K.dep 5 rfl rfl rfl;refine zn 31 (.tuple #[.int .i64 (jk ua.bits (decide (J < 0)) (limbs J)), .bool (qq ua.bits (decide (J < 0)) (limbs J))]) rfl e5 ?_;exact zo rfl rfl ⟨Below.refl _ _, Left.of rfl⟩
     · intro vs X wq K;obtain ⟨_, e5, k5⟩ := K.dep 5 rfl rfl rfl;refine zn 31 (.tuple #[.int .i64 (jk ua.bits (decide (J < 0)) (limbs J)), .bool (qq ua.bits (decide (J < 0)) (limbs J))]) rfl e5 ?_;exact zo rfl rfl ⟨Below.refl _ _, Left.of rfl⟩
     · intro vs X wq K;obtain ⟨_, e6, k6⟩ := K.dep 6 rfl rfl rfl;refine zn 32 (.int .i64 (jk ua.bits (decide (J < 0)) (limbs J))) rfl e6 ?_;exact qd rfl ⟨Below.refl _ _, Left.of rfl⟩
     · intro vs X wq K;obtain ⟨_, e7, k7⟩ := K.dep 7 rfl rfl rfl;refine zn 33 (.bool (qq ua.bits (decide (J < 0)) (limbs J))) rfl e7 ?_;exact qd rfl ⟨Below.refl _ _, Left.of rfl⟩
   intro vs w10 LE AO AL AF AA;replace E := E.drew.trans (LE.mono OY);obtain ⟨_, e8, k8⟩ := AL.2.2.2.2.2.2.2.2.1;obtain ⟨_, e9, k9⟩ := AL.2.2.2.2.2.2.2.2.2.1;refine gg (τ := [(2, _), (3, _), (4, .int .i64 (jk ua.bits (decide (J < 0)) (limbs J))), (5, .bool (qq ua.bits (decide (J < 0)) (limbs J)))]) ⟨rfl, rfl, congrArg some e8, congrArg some e9, trivial⟩ ?_
   clear AL AF AA LE AO OY e8 e9 k8 k9;refine zh (zl (zf (zk (rs := [.tmp 4, .tmp 5]) (vs := [_, _]) rfl ⟨rfl, rfl, trivial⟩ ?_)));exact ⟨by unfold ordC zgz; rw [if_pos hk3, if_pos hk3, if_neg hj3, if_neg hj3, q2.1, q2.2.1]; rfl, (LW.step E XLW).toBelow⟩
 ·
  have hka : ua.k = 1 ∨ ua.k = 2 := by omega
  have q1 := PV.canon g1 hka;rw [← hI] at q1;refine srx (za rfl (zv rfl ?_));intro gb11 w12 Bb11 Eb11 Gb11;have Gb11 : _ ≤ gb11 := Nat.le_trans E.size Gb11;have GLb11 := Nat.le_trans LW.size Gb11;replace E := E.trans Eb11.no;replace HF := HF.cons (zg Gb11);replace E := E.cons (some gb11);replace XLW := Mut.grow XLW (fun k e => Or.inr (Nat.le_trans LW.size ((zg Gb11) k e)))
  replace HF := HF.on E;replace LW := LW.step E XLW;have SB : ∀ q9, No q9 → Mut [(some gb11)] q9 := (Mut.skip Mut.nil_);replace HF := HF.less SB;replace XLW := fun k h => XLW k (SB k h);clear SB;replace E := erx (No) w12;replace HF := HF.and (Per.blkN Bb11 NotIn.nil);refine za rfl (zv rfl ?_);intro gb13 w14 Bb13 Eb13 Gb13;have Gb13 : _ ≤ gb13 := Nat.le_trans E.size Gb13
  have GLb13 := Nat.le_trans LW.size Gb13;replace E := E.trans Eb13.no;replace HF := HF.cons (zg Gb13);replace E := E.cons (some gb13);replace XLW := Mut.grow XLW (fun k e => Or.inr (Nat.le_trans LW.size ((zg Gb13) k e)));replace HF := HF.on E;replace LW := LW.step E XLW;have SB : ∀ q9, No q9 → Mut [(some gb13)] q9 := (Mut.skip Mut.nil_);replace HF := HF.less SB
  replace XLW := fun k h => XLW k (SB k h);clear SB;replace E := erx (No) w14;replace HF := HF.and (Per.blkN Bb13 NotIn.nil)
  refine avx rfl (anx rfl (zj (srx (za rfl (zb Tryz.underlying28 rfl sz3 (by decide) rfl (za rfl (ze Tryz.underlying3 rfl rfl (HF.on E).here.1.2 rfl (za rfl (ya rfl rfl (mvx rfl (zx 11 (.bool false) rfl ((by simp [hk3] : (.bool (ua.k == 3) : Value) = _)) (za rfl (zd rfl (za rfl (zd rfl (za rfl (zd rfl (za rfl (zi rfl rfl (rnx (zt rfl (zp (zh (zj (srx (za rfl (zb Tryz.underlying28 rfl sz3 (by decide) rfl (za rfl (ze Tryz.underlying3 rfl rfl (HF.on E).here.1.2 rfl (za rfl (ya rfl rfl (rnx (zu 25 (.bool false) rfl ((by simp [hk3] : (.bool (ua.k == 3) : Value) = _)) ?_)))))))))))))))))))))))))))))))))
  by_cases hj3 : ub.k = 3
  ·
   refine zt rfl (zp (zh (zj (srx (za rfl (zb Tryz.underlying28 rfl sz3 (by decide) rfl (za rfl (ze Tryz.underlying3 rfl rfl (HF.on E).here.2 rfl (za rfl (ya rfl rfl (rnx (zu 36 (.bool true) rfl ((by simp [hj3] : (.bool (ub.k == 3) : Value) = _)) (yb rfl (zj ?_))))))))))))))
   have OY : ∀ q9, (Mut (zaq [])) q9 → q9 < (World.drew w14).heap.size → (No) q9 := fun k h _ => (Mut.none_) k h;refine vc (No) Mut.none_ [] [] (zdv [Fx.of (.pointer (some ⟨gb13, 4, none⟩)),
    Fx.of (.int .u64 ((ub.bits : Nat) : Int)),
    Fx.of (.agg #[.int .i64 ua.k, .bool ua.yes, .bool ua.neg, .slice A1 ua.xs.length c1, .int .u64 ((ua.bits : Nat) : Int), .string ua.s, .slice B1 ua.ni d1]),
    ⟨(Option Addr × Nat), fun (A3, c3) => .agg #[.bool (decide (I < 0)), .slice A3 (tens I).length c3], fun (A3, c3) b => (Nums8 b A3 (tens I))⟩,
    ⟨(Option Addr × Nat), fun (A4, c4) => .agg #[.bool (decide (I < 0)), .slice A4 (limbs I).length c4], fun (A4, c4) b => (Nums b A4 (limbs I))⟩,
    Fx.of (.tuple #[.int .i64 (jk ub.bits (decide (I < 0)) (limbs I)), .bool (qq ub.bits (decide (I < 0)) (limbs I))]),
    Fx.of (.tuple #[.int .i64 (jk ub.bits (decide (I < 0)) (limbs I)), .bool (qq ub.bits (decide (I < 0)) (limbs I))]),
    Fx.of (.int .i64 (jk ub.bits (decide (I < 0)) (limbs I))),
    Fx.of (.bool (qq ub.bits (decide (I < 0)) (limbs I))),
    Fx.of (.int .i64 (jk ub.bits (decide (I < 0)) (limbs I))),
    Fx.of (.bool (qq ub.bits (decide (I < 0)) (limbs I)))]) mixed rfl trivial (fun _ h => by cases h) ?_ ?_
   · refine ⟨?_, ?_, ?_, ?_, ?_, ?_, ?_, ?_, ?_, ?_, ?_, trivial⟩
     · intro vs X wq K;exact zb Tryz.underlying28 rfl kz (by decide) rfl ⟨Below.refl _ _, Left.of rfl⟩
     · intro vs X wq K;have LE := K.1;obtain ⟨_, e0, k0⟩ := K.dep 0 rfl rfl rfl;refine zn 38 (.pointer (some ⟨gb13, 4, none⟩)) rfl e0 ?_;exact ze Tryz.underlying25 rfl rfl (HF.on (E.drew.trans (LE.mono OY))).here.2 rfl ⟨Below.refl _ _, Left.of rfl⟩
     · intro vs X wq K;have LE := K.1;exact zm Tryz.underlying28 rfl yp rfl (HF.on (E.drew.trans (LE.mono OY))).here.1.2 rfl ⟨Below.refl _ _, Left.of rfl⟩
     · intro vs X wq K;have LE := K.1;have XN := K.2.1;obtain ⟨_, e2, k2⟩ := K.dep 2 rfl rfl rfl;refine zn 40 (.agg #[.int .i64 ua.k, .bool ua.yes, .bool ua.neg, .slice A1 ua.xs.length c1, .int .u64 ((ua.bits : Nat) : Int), .string ua.s, .slice B1 ua.ni d1]) rfl e2 (zc en56 rfl ((zvq _ ua A1 B1 c1 d1 (HF.on (E.drew.trans (LE.mono OY))).here.1.1.1.2 g1 I hI hka).mono ?_))
       rintro e w2 ⟨A3, c3, rfl, hO, hb⟩;exact ⟨_, rfl, hb, ⟨(A3, c3), rfl, Per.own8X hO XN⟩⟩
     · intro vs X wq K;have XN := K.2.1;obtain ⟨⟨A3, c3⟩, e3, k3⟩ := K.dep 3 rfl rfl rfl;refine zn 41 (.agg #[.bool (decide (I < 0)), .slice A3 (tens I).length c3]) rfl e3 (zc en42 rfl ((rto_any A3 c3 I _ (k3.here) (by have := (ziv I).2 q1.2.2; omega)).mono ?_));rintro e w2 ⟨A4, c4, rfl, hO, hb⟩;exact ⟨_, rfl, hb, ⟨(A4, c4), rfl, Per.own hO XN⟩⟩
     · intro vs X wq K;obtain ⟨_, e1, k1⟩ := K.dep 1 rfl rfl rfl;refine zn 39 (.int .u64 ((ub.bits : Nat) : Int)) rfl e1 ?_;obtain ⟨⟨A4, c4⟩, e4, k4⟩ := K.dep 4 rfl rfl rfl
       refine zn 42 (.agg #[.bool (decide (I < 0)), .slice A4 (limbs I).length c4]) rfl e4 (zc en55 rfl ((yhx _ ub.bits hb0 (decide (I < 0)) A4 c4 (limbs I) (k4.here) (by have := vn q1.2.2; omega)).mono ?_));rintro e w2 ⟨rfl, hb⟩;exact ⟨_, rfl, hb, Left.of rfl⟩
     · intro vs X wq K;obtain ⟨_, e5, k5⟩ := K.dep 5 rfl rfl rfl;refine zn 43 (.tuple #[.int .i64 (jk ub.bits (decide (I < 0)) (limbs I)), .bool (qq ub.bits (decide (I < 0)) (limbs I))]) rfl e5 ?_;exact zz rfl ⟨Below.refl _ _, Left.of rfl⟩
     · intro vs X wq K;obtain ⟨_, e6, k6⟩ := K.dep 6 rfl rfl rfl;refine zn 37 (.tuple #[.int .i64 (jk ub.bits (decide (I < 0)) (limbs I)), .bool (qq ub.bits (decide (I < 0)) (limbs I))]) rfl e6 ?_;exact zo rfl rfl ⟨Below.refl _ _, Left.of rfl⟩
     · intro vs X wq K;obtain ⟨_, e6, k6⟩ := K.dep 6 rfl rfl rfl;refine zn 37 (.tuple #[.int .i64 (jk ub.bits (decide (I < 0)) (limbs I)), .bool (qq ub.bits (decide (I < 0)) (limbs I))]) rfl e6 ?_;exact zo rfl rfl ⟨Below.refl _ _, Left.of rfl⟩
     · intro vs X wq K;obtain ⟨_, e7, k7⟩ := K.dep 7 rfl rfl rfl;refine zn 44 (.int .i64 (jk ub.bits (decide (I < 0)) (limbs I))) rfl e7 ?_;exact qd rfl ⟨Below.refl _ _, Left.of rfl⟩
     · intro vs X wq K;obtain ⟨_, e8, k8⟩ := K.dep 8 rfl rfl rfl;refine zn 45 (.bool (qq ub.bits (decide (I < 0)) (limbs I))) rfl e8 ?_;exact qd rfl ⟨Below.refl _ _, Left.of rfl⟩
   intro vs w15 LE AO AL AF AA;replace E := E.drew.trans (LE.mono OY);obtain ⟨_, e9, k9⟩ := AL.2.2.2.2.2.2.2.2.2.1;obtain ⟨_, e10, k10⟩ := AL.2.2.2.2.2.2.2.2.2.2.1
   refine gg (τ := [(2, _), (3, _), (4, _), (5, _), (6, .int .i64 (jk ub.bits (decide (I < 0)) (limbs I))), (7, .bool (qq ub.bits (decide (I < 0)) (limbs I)))]) ⟨rfl, rfl, rfl, rfl, congrArg some e9, congrArg some e10, trivial⟩ ?_;clear AL AF AA LE AO OY e9 e10 k9 k10;have hcv := cmpV_in ub.bits (decide (I < 0)) (limbs I)
   refine zh (srx (mvx rfl (za rfl (ydv rfl (yc (by omega)) (mvx rfl (avx rfl (anx rfl (zl (zf (zk (rs := [.tmp 4, .tmp 5]) (vs := [_, _]) rfl ⟨rfl, rfl, trivial⟩ ?_))))))))));exact ⟨by unfold ordC zgz; rw [if_neg hk3, if_neg hk3, if_pos hj3, if_pos hj3, q1.1, q1.2.1]; rfl, (LW.step E XLW).toBelow⟩
  ·
   have hkb : ub.k = 1 ∨ ub.k = 2 := by omega
   have q2 := PV.canon g2 hkb;rw [← hJ] at q2
   refine zt rfl (zp (zh (zj (srx (za rfl (zb Tryz.underlying28 rfl sz3 (by decide) rfl (za rfl (ze Tryz.underlying3 rfl rfl (HF.on E).here.2 rfl (za rfl (ya rfl rfl (rnx (zu 36 (.bool false) rfl ((by simp [hj3] : (.bool (ub.k == 3) : Value) = _)) (zt rfl (zp (zh (zj ?_))))))))))))))))
   have OY : ∀ q9, (Mut (zaq [])) q9 → q9 < (World.drew w14).heap.size → (No) q9 := fun k h _ => (Mut.none_) k h;refine vc (No) Mut.none_ [] [] (zdv [Fx.of (.agg #[.int .i64 ua.k, .bool ua.yes, .bool ua.neg, .slice A1 ua.xs.length c1, .int .u64 ((ua.bits : Nat) : Int), .string ua.s, .slice B1 ua.ni d1]),
    ⟨(Option Addr × Nat), fun (A3, c3) => .agg #[.bool (decide (I < 0)), .slice A3 (tens I).length c3], fun (A3, c3) b => (Nums8 b A3 (tens I))⟩,
    Fx.of (.agg #[.int .i64 ub.k, .bool ub.yes, .bool ub.neg, .slice A2 ub.xs.length c2, .int .u64 ((ub.bits : Nat) : Int), .string ub.s, .slice B2 ub.ni d2]),
    ⟨(Option Addr × Nat), fun (A4, c4) => .agg #[.bool (decide (J < 0)), .slice A4 (tens J).length c4], fun (A4, c4) b => (Nums8 b A4 (tens J))⟩,
    Fx.of (.int .i64 (gj I J)),
    Fx.of (.int .i64 (gj I J)),
    Fx.of (.bool true)]) mixed rfl trivial (fun _ h => by cases h) ?_ ?_
   · refine ⟨?_, ?_, ?_, ?_, ?_, ?_, ?_, trivial⟩
     · intro vs X wq K;have LE := K.1;exact zm Tryz.underlying28 rfl yp rfl (HF.on (E.drew.trans (LE.mono OY))).here.1.2 rfl ⟨Below.refl _ _, Left.of rfl⟩
     · intro vs X wq K;have LE := K.1;have XN := K.2.1;obtain ⟨_, e0, k0⟩ := K.dep 0 rfl rfl rfl;refine zn 49 (.agg #[.int .i64 ua.k, .bool ua.yes, .bool ua.neg, .slice A1 ua.xs.length c1, .int .u64 ((ua.bits : Nat) : Int), .string ua.s, .slice B1 ua.ni d1]) rfl e0 (zc en56 rfl ((zvq _ ua A1 B1 c1 d1 (HF.on (E.drew.trans (LE.mono OY))).here.1.1.1.2 g1 I hI hka).mono ?_))
       rintro e w2 ⟨A3, c3, rfl, hO, hb⟩;exact ⟨_, rfl, hb, ⟨(A3, c3), rfl, Per.own8X hO XN⟩⟩
     · intro vs X wq K;have LE := K.1;exact zm Tryz.underlying28 rfl yp rfl (HF.on (E.drew.trans (LE.mono OY))).here.2 rfl ⟨Below.refl _ _, Left.of rfl⟩
     · intro vs X wq K;have LE := K.1;have XN := K.2.1;obtain ⟨_, e2, k2⟩ := K.dep 2 rfl rfl rfl;refine zn 51 (.agg #[.int .i64 ub.k, .bool ub.yes, .bool ub.neg, .slice A2 ub.xs.length c2, .int .u64 ((ub.bits : Nat) : Int), .string ub.s, .slice B2 ub.ni d2]) rfl e2 (zc en56 rfl ((zvq _ ub A2 B2 c2 d2 (HF.on (E.drew.trans (LE.mono OY))).here.1.1.2 g2 J hJ hkb).mono ?_))
       rintro e w2 ⟨A4, c4, rfl, hO, hb⟩;exact ⟨_, rfl, hb, ⟨(A4, c4), rfl, Per.own8X hO XN⟩⟩
     · intro vs X wq K;obtain ⟨⟨A3, c3⟩, e1, k1⟩ := K.dep 1 rfl rfl rfl;refine zn 50 (.agg #[.bool (decide (I < 0)), .slice A3 (tens I).length c3]) rfl e1 ?_;obtain ⟨⟨A4, c4⟩, e3, k3⟩ := K.dep 3 rfl rfl rfl
       refine zn 52 (.agg #[.bool (decide (J < 0)), .slice A4 (tens J).length c4]) rfl e3 (zc en57 rfl ((rcmp_any A3 A4 c3 c4 I J _ (k1.here) (k3.here) (by have := (ziv I).2 q1.2.2; omega) (by have := (ziv J).2 q2.2.2; omega)).mono ?_));rintro e w2 ⟨rfl, hb⟩;exact ⟨_, rfl, hb, Left.of rfl⟩
     · intro vs X wq K;obtain ⟨_, e4, k4⟩ := K.dep 4 rfl rfl rfl;refine zn 53 (.int .i64 (gj I J)) rfl e4 ?_;exact qd rfl ⟨Below.refl _ _, Left.of rfl⟩
     · intro vs X wq K;exact qd rfl ⟨Below.refl _ _, Left.of rfl⟩
   intro vs w16 LE AO AL AF AA;replace E := E.drew.trans (LE.mono OY);obtain ⟨_, e5, k5⟩ := AL.2.2.2.2.2.1;obtain ⟨_, e6, k6⟩ := AL.2.2.2.2.2.2.1;refine gg (τ := [(4, .int .i64 (gj I J)), (5, .bool true)]) ⟨congrArg some e5, congrArg some e6, trivial⟩ ?_;clear AL AF AA LE AO OY e5 e6 k5 k6;refine zh (zl (zk (rs := [.tmp 4, .tmp 5]) (vs := [_, _]) rfl ⟨rfl, rfl, trivial⟩ ?_))
   exact ⟨by unfold ordC zgz; rw [if_neg hk3, if_neg hk3, if_neg hj3, if_neg hj3, q1.1, q1.2.1, q2.1, q2.2.1, qx q1.2.2, qx q2.2.2, qz, qz]; unfold cmpO; rfl, (LW.step E XLW).toBelow⟩
theorem rl_eq3 (h3 : jh ua.k = true) (h4 : jh ub.k = true) : Calls Tryz.prog 11 #[.agg #[.int .i64 ua.k, .bool ua.yes, .bool ua.neg, .slice A1 ua.xs.length c1, .int .u64 ((ua.bits : Nat) : Int), .string ua.s, .slice B1 ua.ni d1], .agg #[.int .i64 ub.k, .bool ub.yes, .bool ub.neg, .slice A2 ub.xs.length c2, .int .u64 ((ub.bits : Nat) : Int), .string ub.s, .slice B2 ub.ni d2]] w fun e w' => e = .returned (.bool (eqV ua ub)) ∧ Below w.heap.size w w' := by
 have _ := hx; have _ := hl; have _ := ha; have _ := hy; have _ := hl'; have _ := hb0; have _ := g1; have _ := g2;refine zr Tryz.func11 rfl Tryz.ntmps11 rfl ?_;have HF : Per (No) w (fun _ => True) := Per.true_;have LW := erx (No) w;have XLW := grx (No) w;have E := erx (No) w;replace HF := HF.on E;replace LW := LW.step E XLW;replace E := erx (No) w;replace HF := HF.and (Per.nums0 hx)
 replace HF := HF.on E;replace LW := LW.step E XLW;replace E := erx (No) w;replace HF := HF.and (Per.nums0 hy);refine srx (za rfl (zv rfl ?_));intro gb1 w2 Bb1 Eb1 Gb1;have Gb1 : _ ≤ gb1 := Nat.le_trans E.size Gb1;have GLb1 := Nat.le_trans LW.size Gb1;replace E := E.trans Eb1.no;replace HF := HF.cons (zg Gb1);replace E := E.cons (some gb1)
 replace XLW := Mut.grow XLW (fun k e => Or.inr (Nat.le_trans LW.size ((zg Gb1) k e)));replace HF := HF.on E;replace LW := LW.step E XLW;have SB : ∀ q9, No q9 → Mut [(some gb1)] q9 := (Mut.skip Mut.nil_);replace HF := HF.less SB;replace XLW := fun k h => XLW k (SB k h);clear SB;replace E := erx (No) w2;replace HF := HF.and (Per.blkN Bb1 NotIn.nil);refine za rfl (zv rfl ?_)
 intro gb3 w4 Bb3 Eb3 Gb3;have Gb3 : _ ≤ gb3 := Nat.le_trans E.size Gb3;have GLb3 := Nat.le_trans LW.size Gb3;replace E := E.trans Eb3.no;replace HF := HF.cons (zg Gb3);replace E := E.cons (some gb3);replace XLW := Mut.grow XLW (fun k e => Or.inr (Nat.le_trans LW.size ((zg Gb3) k e)));replace HF := HF.on E;replace LW := LW.step E XLW
 have SB : ∀ q9, No q9 → Mut [(some gb3)] q9 := (Mut.skip Mut.nil_);replace HF := HF.less SB;replace XLW := fun k h => XLW k (SB k h);clear SB;replace E := erx (No) w4;replace HF := HF.and (Per.blkN Bb3 NotIn.nil);refine anx rfl (zj (srx (za rfl (zm Tryz.underlying28 rfl yp rfl (HF.on E).here.1.2 rfl (za rfl (zc en31 rfl ((zaz _ ua A1 B1 c1 d1 true h3).mono ?_)))))))
 rintro e w5 ⟨rfl, hb⟩;refine ⟨_, rfl, ?_⟩;replace E := blx E hb;refine mvx rfl (onx rfl (zm Tryz.underlying28 rfl yp rfl (HF.on E).here.2 rfl (onx rfl (zc en31 rfl ((zaz _ ub A2 B2 c2 d2 true h4).mono ?_)))));rintro e w6 ⟨rfl, hb⟩;refine ⟨_, rfl, ?_⟩;replace E := blx E hb
 refine za rfl (zq rfl rfl (rnx (yb rfl (srx (za rfl (zm Tryz.underlying28 rfl yp rfl (HF.on E).here.1.2 rfl (za rfl (zm Tryz.underlying28 rfl yp rfl (HF.on E).here.2 rfl (za rfl (zc en32 rfl ((rl_numbers _ ua ub A1 B1 A2 B2 c1 d1 c2 d2 (HF.on E).here.1.1.1.2 hl ha (HF.on E).here.1.1.2 hl' hb0 g1 g2 h3 h4).mono ?_)))))))))));rintro e w7 ⟨rfl, hb⟩
 refine ⟨_, rfl, ?_⟩;replace E := blx E hb;refine mvx rfl (za rfl (zo rfl rfl (za rfl (zo rfl rfl (avx rfl (anx rfl (srx (mvx rfl (mvx rfl ?_)))))))));by_cases ho : zgz ua ub = true
 ·
  refine zx 20 (.bool true) rfl ((by rw [ho] : (.bool (zgz ua ub) : Value) = _)) (onx rfl (zz rfl (onx rfl (ya rfl rfl (za rfl (zq rfl rfl (anx rfl (zl (zf (zk (rs := [.tmp 4]) (vs := [_]) rfl ⟨rfl, trivial⟩ ?_))))))))));exact ⟨by unfold eqV; rw [g1, g2, h3, h4, ho]; rfl, (LW.step E XLW).toBelow⟩
 ·
  have ho := Bool.eq_false_iff.2 ho;refine zx 20 (.bool false) rfl ((by rw [ho] : (.bool (zgz ua ub) : Value) = _)) (za rfl (zd rfl (za rfl (zd rfl (za rfl (zi rfl rfl (anx rfl (zl (zf (zk (rs := [.tmp 4]) (vs := [_]) rfl ⟨rfl, trivial⟩ ?_))))))))));exact ⟨by unfold eqV; rw [g1, g2, h3, h4, ho]; rfl, (LW.step E XLW).toBelow⟩
theorem rl_eq4 (h3 : jh ua.k = false) : Calls Tryz.prog 11 #[.agg #[.int .i64 ua.k, .bool ua.yes, .bool ua.neg, .slice A1 ua.xs.length c1, .int .u64 ((ua.bits : Nat) : Int), .string ua.s, .slice B1 ua.ni d1], .agg #[.int .i64 ub.k, .bool ub.yes, .bool ub.neg, .slice A2 ub.xs.length c2, .int .u64 ((ub.bits : Nat) : Int), .string ub.s, .slice B2 ub.ni d2]] w fun e w' => e = .returned (.bool (eqV ua ub)) ∧ Below w.heap.size w w' := by
 have _ := hx; have _ := hl; have _ := ha; have _ := hy; have _ := hl'; have _ := hb0; have _ := g1; have _ := g2;refine zr Tryz.func11 rfl Tryz.ntmps11 rfl ?_;have HF : Per (No) w (fun _ => True) := Per.true_;have LW := erx (No) w;have XLW := grx (No) w;have E := erx (No) w;replace HF := HF.on E;replace LW := LW.step E XLW;replace E := erx (No) w;replace HF := HF.and (Per.nums0 hx)
 replace HF := HF.on E;replace LW := LW.step E XLW;replace E := erx (No) w;replace HF := HF.and (Per.nums0 hy);refine srx (za rfl (zv rfl ?_));intro gb1 w2 Bb1 Eb1 Gb1;have Gb1 : _ ≤ gb1 := Nat.le_trans E.size Gb1;have GLb1 := Nat.le_trans LW.size Gb1;replace E := E.trans Eb1.no;replace HF := HF.cons (zg Gb1);replace E := E.cons (some gb1)
 replace XLW := Mut.grow XLW (fun k e => Or.inr (Nat.le_trans LW.size ((zg Gb1) k e)));replace HF := HF.on E;replace LW := LW.step E XLW;have SB : ∀ q9, No q9 → Mut [(some gb1)] q9 := (Mut.skip Mut.nil_);replace HF := HF.less SB;replace XLW := fun k h => XLW k (SB k h);clear SB;replace E := erx (No) w2;replace HF := HF.and (Per.blkN Bb1 NotIn.nil);refine za rfl (zv rfl ?_)
 intro gb3 w4 Bb3 Eb3 Gb3;have Gb3 : _ ≤ gb3 := Nat.le_trans E.size Gb3;have GLb3 := Nat.le_trans LW.size Gb3;replace E := E.trans Eb3.no;replace HF := HF.cons (zg Gb3);replace E := E.cons (some gb3);replace XLW := Mut.grow XLW (fun k e => Or.inr (Nat.le_trans LW.size ((zg Gb3) k e)));replace HF := HF.on E;replace LW := LW.step E XLW
 have SB : ∀ q9, No q9 → Mut [(some gb3)] q9 := (Mut.skip Mut.nil_);replace HF := HF.less SB;replace XLW := fun k h => XLW k (SB k h);clear SB;replace E := erx (No) w4;replace HF := HF.and (Per.blkN Bb3 NotIn.nil);refine anx rfl (zj (srx (za rfl (zm Tryz.underlying28 rfl yp rfl (HF.on E).here.1.2 rfl (za rfl (zc en31 rfl ((zaz _ ua A1 B1 c1 d1 false h3).mono ?_)))))))
 rintro e w5 ⟨rfl, hb⟩;refine ⟨_, rfl, ?_⟩;replace E := blx E hb
 refine mvx rfl (za rfl (zd rfl (za rfl (zd rfl (za rfl (zi rfl rfl (rnx (zt rfl (zp (zh (zj (srx (za rfl (zb Tryz.underlying28 rfl sz3 (by decide) rfl (za rfl (ze Tryz.underlying3 rfl rfl (HF.on E).here.1.2 rfl (za rfl (zb Tryz.underlying28 rfl sz3 (by decide) rfl (za rfl (ze Tryz.underlying3 rfl rfl (HF.on E).here.2 rfl (za rfl (qf rfl rfl (rnx ?_)))))))))))))))))))))))
 by_cases hk : (ua.k == ub.k) = true
 ·
  refine zu 28 (.bool false) rfl ((by show Value.bool (!(ua.k == ub.k)) = _; rw [hk]; rfl : (.bool (ua.k != ub.k) : Value) = _)) ?_;have hkk : ua.k = ub.k := eq_of_beq hk
  refine zt rfl (zp (zh (srx (za rfl (zb Tryz.underlying28 rfl sz3 (by decide) rfl (za rfl (ze Tryz.underlying3 rfl rfl (HF.on E).here.1.2 rfl (za rfl (ya rfl rfl (mvx rfl ?_))))))))));by_cases h0 : ua.k = 0
  ·
   refine zx 32 (.bool true) rfl ((by simp [h0] : (.bool (ua.k == 0) : Value) = _)) (za rfl (zd rfl (za rfl (zd rfl (za rfl (zd rfl (za rfl (zd rfl (za rfl (yx rfl rfl (za rfl (yx rfl rfl (za rfl (yx rfl rfl (za rfl (yx rfl rfl (za rfl (yx rfl rfl (za rfl (zd rfl (za rfl (zq rfl rfl (anx rfl (zl (zk (rs := [.tmp 4]) (vs := [_]) rfl ⟨rfl, trivial⟩ ?_)))))))))))))))))))))))))
   exact ⟨by unfold eqV eqS; rw [g1, g2, h3, hk, PV.s0 g1 (Or.inl h0), PV.s0 g2 (Or.inl (by omega)), beq_self_eq_true]; rfl, (LW.step E XLW).toBelow⟩
  ·
   have h4' := PV.str g1 h3 h0
   refine zx 32 (.bool false) rfl ((by simp [h0] : (.bool (ua.k == 0) : Value) = _)) (onx rfl (zb Tryz.underlying28 rfl sz3 (by decide) rfl (onx rfl (ze Tryz.underlying3 rfl rfl (HF.on E).here.1.2 rfl (onx rfl (ya rfl rfl (onx rfl (zz rfl (zx 36 (.bool true) rfl ((by simp [h4'] : (.bool (ua.k == 4) : Value) = _)) (onx rfl (zb Tryz.underlying28 rfl sz9 (by decide) rfl (onx rfl (ze Tryz.underlying9 rfl rfl (HF.on E).here.1.2 rfl (onx rfl (zb Tryz.underlying28 rfl sz9 (by decide) rfl (onx rfl (ze Tryz.underlying9 rfl rfl (HF.on E).here.2 rfl (onx rfl (kw rfl rfl (onx rfl (zq rfl rfl (za rfl (zi rfl rfl (anx rfl (zl (zk (rs := [.tmp 4]) (vs := [_]) rfl ⟨rfl, trivial⟩ ?_))))))))))))))))))))))))))
   exact ⟨by unfold eqV eqS; rw [g1, g2, h3, hk]; rfl, (LW.step E XLW).toBelow⟩
 ·
  have hk := Bool.eq_false_iff.2 hk;refine zu 28 (.bool true) rfl ((by show Value.bool (!(ua.k == ub.k)) = _; rw [hk]; rfl : (.bool (ua.k != ub.k) : Value) = _)) (yb rfl (srx (anx rfl (zl (zf (zk (rs := [.tmp 4]) (vs := [_]) rfl ⟨rfl, trivial⟩ ?_))))));exact ⟨by unfold eqV eqS; rw [g1, g2, h3, hk]; rfl, (LW.step E XLW).toBelow⟩
theorem rl_eq5 (h3 : jh ua.k = true) (h4 : jh ub.k = false) : Calls Tryz.prog 11 #[.agg #[.int .i64 ua.k, .bool ua.yes, .bool ua.neg, .slice A1 ua.xs.length c1, .int .u64 ((ua.bits : Nat) : Int), .string ua.s, .slice B1 ua.ni d1], .agg #[.int .i64 ub.k, .bool ub.yes, .bool ub.neg, .slice A2 ub.xs.length c2, .int .u64 ((ub.bits : Nat) : Int), .string ub.s, .slice B2 ub.ni d2]] w fun e w' => e = .returned (.bool (eqV ua ub)) ∧ Below w.heap.size w w' := by
 have _ := hx; have _ := hl; have _ := ha; have _ := hy; have _ := hl'; have _ := hb0; have _ := g1; have _ := g2;refine zr Tryz.func11 rfl Tryz.ntmps11 rfl ?_;have HF : Per (No) w (fun _ => True) := Per.true_;have LW := erx (No) w;have XLW := grx (No) w;have E := erx (No) w;replace HF := HF.on E;replace LW := LW.step E XLW;replace E := erx (No) w;replace HF := HF.and (Per.nums0 hx)
 replace HF := HF.on E;replace LW := LW.step E XLW;replace E := erx (No) w;replace HF := HF.and (Per.nums0 hy);refine srx (za rfl (zv rfl ?_));intro gb1 w2 Bb1 Eb1 Gb1;have Gb1 : _ ≤ gb1 := Nat.le_trans E.size Gb1;have GLb1 := Nat.le_trans LW.size Gb1;replace E := E.trans Eb1.no;replace HF := HF.cons (zg Gb1);replace E := E.cons (some gb1)
 replace XLW := Mut.grow XLW (fun k e => Or.inr (Nat.le_trans LW.size ((zg Gb1) k e)));replace HF := HF.on E;replace LW := LW.step E XLW;have SB : ∀ q9, No q9 → Mut [(some gb1)] q9 := (Mut.skip Mut.nil_);replace HF := HF.less SB;replace XLW := fun k h => XLW k (SB k h);clear SB;replace E := erx (No) w2;replace HF := HF.and (Per.blkN Bb1 NotIn.nil);refine za rfl (zv rfl ?_)
 intro gb3 w4 Bb3 Eb3 Gb3;have Gb3 : _ ≤ gb3 := Nat.le_trans E.size Gb3;have GLb3 := Nat.le_trans LW.size Gb3;replace E := E.trans Eb3.no;replace HF := HF.cons (zg Gb3);replace E := E.cons (some gb3);replace XLW := Mut.grow XLW (fun k e => Or.inr (Nat.le_trans LW.size ((zg Gb3) k e)));replace HF := HF.on E;replace LW := LW.step E XLW
 have SB : ∀ q9, No q9 → Mut [(some gb3)] q9 := (Mut.skip Mut.nil_);replace HF := HF.less SB;replace XLW := fun k h => XLW k (SB k h);clear SB;replace E := erx (No) w4;replace HF := HF.and (Per.blkN Bb3 NotIn.nil);refine anx rfl (zj (srx (za rfl (zm Tryz.underlying28 rfl yp rfl (HF.on E).here.1.2 rfl (za rfl (zc en31 rfl ((zaz _ ua A1 B1 c1 d1 true h3).mono ?_)))))))
 rintro e w5 ⟨rfl, hb⟩;refine ⟨_, rfl, ?_⟩;replace E := blx E hb;refine mvx rfl (onx rfl (zm Tryz.underlying28 rfl yp rfl (HF.on E).here.2 rfl (onx rfl (zc en31 rfl ((zaz _ ub A2 B2 c2 d2 false h4).mono ?_)))));rintro e w6 ⟨rfl, hb⟩;refine ⟨_, rfl, ?_⟩;replace E := blx E hb
 refine za rfl (zq rfl rfl (rnx (zt rfl (zp (zh (zj (srx (za rfl (zb Tryz.underlying28 rfl sz3 (by decide) rfl (za rfl (ze Tryz.underlying3 rfl rfl (HF.on E).here.1.2 rfl (za rfl (zb Tryz.underlying28 rfl sz3 (by decide) rfl (za rfl (ze Tryz.underlying3 rfl rfl (HF.on E).here.2 rfl (za rfl (qf rfl rfl (rnx ?_))))))))))))))))))
 have hkk : (ua.k == ub.k) = false := beq_eq_false_iff_ne.2 (fun e => by rw [e, h4] at h3; cases h3);refine zu 28 (.bool true) rfl ((by show Value.bool (!(ua.k == ub.k)) = _; rw [hkk]; rfl : (.bool (ua.k != ub.k) : Value) = _)) (yb rfl (srx (anx rfl (zl (zf (zk (rs := [.tmp 4]) (vs := [_]) rfl ⟨rfl, trivial⟩ ?_))))))
 exact ⟨by unfold eqV eqS; rw [g1, g2, h3, h4, hkk]; rfl, (LW.step E XLW).toBelow⟩
theorem rl_equal : Calls Tryz.prog 11 #[.agg #[.int .i64 ua.k, .bool ua.yes, .bool ua.neg, .slice A1 ua.xs.length c1, .int .u64 ((ua.bits : Nat) : Int), .string ua.s, .slice B1 ua.ni d1], .agg #[.int .i64 ub.k, .bool ub.yes, .bool ub.neg, .slice A2 ub.xs.length c2, .int .u64 ((ub.bits : Nat) : Int), .string ub.s, .slice B2 ub.ni d2]] w fun e w' => e = .returned (.bool (eqV ua ub)) ∧ Below w.heap.size w w' := by
 cases h3 : jh ua.k
 · exact rl_eq4 w ua ub A1 B1 A2 B2 c1 d1 c2 d2 hx hl ha hy hl' hb0 g1 g2 h3
 cases h4 : jh ub.k
 · exact rl_eq5 w ua ub A1 B1 A2 B2 c1 d1 c2 d2 hx hl ha hy hl' hb0 g1 g2 h3 h4
 · exact rl_eq3 w ua ub A1 B1 A2 B2 c1 d1 c2 d2 hx hl ha hy hl' hb0 g1 g2 h3 h4
theorem rl_or3 (h3 : jh ua.k = true) (h4 : jh ub.k = true) : Calls Tryz.prog 10 #[.agg #[.int .i64 ua.k, .bool ua.yes, .bool ua.neg, .slice A1 ua.xs.length c1, .int .u64 ((ua.bits : Nat) : Int), .string ua.s, .slice B1 ua.ni d1], .agg #[.int .i64 ub.k, .bool ub.yes, .bool ub.neg, .slice A2 ub.xs.length c2, .int .u64 ((ub.bits : Nat) : Int), .string ub.s, .slice B2 ub.ni d2]] w fun e w' => e = .returned (.tuple #[.int .i64 (vb ua ub).1, .bool (vb ua ub).2.1, .int .i64 (vb ua ub).2.2]) ∧ Below w.heap.size w w' := by
 have _ := hx; have _ := hl; have _ := ha; have _ := hy; have _ := hl'; have _ := hb0; have _ := g1; have _ := g2;refine zr Tryz.func10 rfl Tryz.ntmps10 rfl ?_;have HF : Per (No) w (fun _ => True) := Per.true_;have LW := erx (No) w;have XLW := grx (No) w;have E := erx (No) w;replace HF := HF.on E;replace LW := LW.step E XLW;replace E := erx (No) w;replace HF := HF.and (Per.nums0 hx)
 replace HF := HF.on E;replace LW := LW.step E XLW;replace E := erx (No) w;replace HF := HF.and (Per.nums0 hy);refine srx (za rfl (zv rfl ?_));intro gb1 w2 Bb1 Eb1 Gb1;have Gb1 : _ ≤ gb1 := Nat.le_trans E.size Gb1;have GLb1 := Nat.le_trans LW.size Gb1;replace E := E.trans Eb1.no;replace HF := HF.cons (zg Gb1);replace E := E.cons (some gb1)
 replace XLW := Mut.grow XLW (fun k e => Or.inr (Nat.le_trans LW.size ((zg Gb1) k e)));replace HF := HF.on E;replace LW := LW.step E XLW;have SB : ∀ q9, No q9 → Mut [(some gb1)] q9 := (Mut.skip Mut.nil_);replace HF := HF.less SB;replace XLW := fun k h => XLW k (SB k h);clear SB;replace E := erx (No) w2;replace HF := HF.and (Per.blkN Bb1 NotIn.nil);refine za rfl (zv rfl ?_)
 intro gb3 w4 Bb3 Eb3 Gb3;have Gb3 : _ ≤ gb3 := Nat.le_trans E.size Gb3;have GLb3 := Nat.le_trans LW.size Gb3;replace E := E.trans Eb3.no;replace HF := HF.cons (zg Gb3);replace E := E.cons (some gb3);replace XLW := Mut.grow XLW (fun k e => Or.inr (Nat.le_trans LW.size ((zg Gb3) k e)));replace HF := HF.on E;replace LW := LW.step E XLW
 have SB : ∀ q9, No q9 → Mut [(some gb3)] q9 := (Mut.skip Mut.nil_);replace HF := HF.less SB;replace XLW := fun k h => XLW k (SB k h);clear SB;replace E := erx (No) w4;replace HF := HF.and (Per.blkN Bb3 NotIn.nil)
 refine avx rfl (avx rfl (anx rfl (zj (srx (za rfl (zm Tryz.underlying28 rfl yp rfl (HF.on E).here.1.2 rfl (za rfl (zc en31 rfl ((zaz _ ua A1 B1 c1 d1 true h3).mono ?_)))))))));rintro e w5 ⟨rfl, hb⟩;refine ⟨_, rfl, ?_⟩;replace E := blx E hb
 refine mvx rfl (onx rfl (zm Tryz.underlying28 rfl yp rfl (HF.on E).here.2 rfl (onx rfl (zc en31 rfl ((zaz _ ub A2 B2 c2 d2 true h4).mono ?_)))));rintro e w6 ⟨rfl, hb⟩;refine ⟨_, rfl, ?_⟩;replace E := blx E hb
 refine za rfl (zq rfl rfl (rnx (yb rfl (srx (za rfl (zm Tryz.underlying28 rfl yp rfl (HF.on E).here.1.2 rfl (za rfl (zm Tryz.underlying28 rfl yp rfl (HF.on E).here.2 rfl (za rfl (zc en32 rfl ((rl_numbers _ ua ub A1 B1 A2 B2 c1 d1 c2 d2 (HF.on E).here.1.1.1.2 hl ha (HF.on E).here.1.1.2 hl' hb0 g1 g2 h3 h4).mono ?_)))))))))));rintro e w7 ⟨rfl, hb⟩
 refine ⟨_, rfl, ?_⟩;replace E := blx E hb;refine mvx rfl (za rfl (zo rfl rfl (za rfl (zo rfl rfl (avx rfl (anx rfl (srx (mvx rfl (mvx rfl (avx rfl (avx rfl (anx rfl (zl (zf (zk (rs := [.tmp 4, .tmp 5, .tmp 6]) (vs := [_, _, _]) rfl ⟨rfl, rfl, rfl, trivial⟩ ?_)))))))))))))));exact ⟨by unfold vb; rw [g1, g2, h3, h4]; rfl, (LW.step E XLW).toBelow⟩
theorem rl_or4 (h3 : jh ua.k = false) : Calls Tryz.prog 10 #[.agg #[.int .i64 ua.k, .bool ua.yes, .bool ua.neg, .slice A1 ua.xs.length c1, .int .u64 ((ua.bits : Nat) : Int), .string ua.s, .slice B1 ua.ni d1], .agg #[.int .i64 ub.k, .bool ub.yes, .bool ub.neg, .slice A2 ub.xs.length c2, .int .u64 ((ub.bits : Nat) : Int), .string ub.s, .slice B2 ub.ni d2]] w fun e w' => e = .returned (.tuple #[.int .i64 (vb ua ub).1, .bool (vb ua ub).2.1, .int .i64 (vb ua ub).2.2]) ∧ Below w.heap.size w w' := by
 have _ := hx; have _ := hl; have _ := ha; have _ := hy; have _ := hl'; have _ := hb0; have _ := g1; have _ := g2;refine zr Tryz.func10 rfl Tryz.ntmps10 rfl ?_;have HF : Per (No) w (fun _ => True) := Per.true_;have LW := erx (No) w;have XLW := grx (No) w;have E := erx (No) w;replace HF := HF.on E;replace LW := LW.step E XLW;replace E := erx (No) w;replace HF := HF.and (Per.nums0 hx)
 replace HF := HF.on E;replace LW := LW.step E XLW;replace E := erx (No) w;replace HF := HF.and (Per.nums0 hy);refine srx (za rfl (zv rfl ?_));intro gb1 w2 Bb1 Eb1 Gb1;have Gb1 : _ ≤ gb1 := Nat.le_trans E.size Gb1;have GLb1 := Nat.le_trans LW.size Gb1;replace E := E.trans Eb1.no;replace HF := HF.cons (zg Gb1);replace E := E.cons (some gb1)
 replace XLW := Mut.grow XLW (fun k e => Or.inr (Nat.le_trans LW.size ((zg Gb1) k e)));replace HF := HF.on E;replace LW := LW.step E XLW;have SB : ∀ q9, No q9 → Mut [(some gb1)] q9 := (Mut.skip Mut.nil_);replace HF := HF.less SB;replace XLW := fun k h => XLW k (SB k h);clear SB;replace E := erx (No) w2;replace HF := HF.and (Per.blkN Bb1 NotIn.nil);refine za rfl (zv rfl ?_)
 intro gb3 w4 Bb3 Eb3 Gb3;have Gb3 : _ ≤ gb3 := Nat.le_trans E.size Gb3;have GLb3 := Nat.le_trans LW.size Gb3;replace E := E.trans Eb3.no;replace HF := HF.cons (zg Gb3);replace E := E.cons (some gb3);replace XLW := Mut.grow XLW (fun k e => Or.inr (Nat.le_trans LW.size ((zg Gb3) k e)));replace HF := HF.on E;replace LW := LW.step E XLW
 have SB : ∀ q9, No q9 → Mut [(some gb3)] q9 := (Mut.skip Mut.nil_);replace HF := HF.less SB;replace XLW := fun k h => XLW k (SB k h);clear SB;replace E := erx (No) w4;replace HF := HF.and (Per.blkN Bb3 NotIn.nil)
 refine avx rfl (avx rfl (anx rfl (zj (srx (za rfl (zm Tryz.underlying28 rfl yp rfl (HF.on E).here.1.2 rfl (za rfl (zc en31 rfl ((zaz _ ua A1 B1 c1 d1 false h3).mono ?_)))))))));rintro e w5 ⟨rfl, hb⟩;refine ⟨_, rfl, ?_⟩;replace E := blx E hb
 refine mvx rfl (za rfl (zd rfl (za rfl (zd rfl (za rfl (zi rfl rfl (rnx (zt rfl (zp (zh (zj (srx (za rfl (zb Tryz.underlying28 rfl sz3 (by decide) rfl (za rfl (ze Tryz.underlying3 rfl rfl (HF.on E).here.1.2 rfl (za rfl (ya rfl rfl (mvx rfl ?_)))))))))))))))))));by_cases hk : (ua.k == 4) = true
 ·
  refine zx 26 (.bool true) rfl ((by rw [hk] : (.bool (ua.k == 4) : Value) = _)) (onx rfl (zb Tryz.underlying28 rfl sz3 (by decide) rfl (onx rfl (ze Tryz.underlying3 rfl rfl (HF.on E).here.2 rfl (onx rfl (ya rfl rfl (za rfl (zq rfl rfl (rnx (ym rfl (fun hj => ?_) (fun hj => ?_)))))))))))
  ·
   refine srx (za rfl (zb Tryz.underlying28 rfl sz9 (by decide) rfl (za rfl (ze Tryz.underlying9 rfl rfl (HF.on E).here.1.2 rfl (za rfl (zb Tryz.underlying28 rfl sz9 (by decide) rfl (za rfl (ze Tryz.underlying9 rfl rfl (HF.on E).here.2 rfl (za rfl (zc en33 rfl ((rl_bytes _ ua.s ub.s (PV.s_len g1 (eq_of_beq hk))).mono ?_)))))))))))
   rintro e w6 ⟨rfl, hb⟩;refine ⟨_, rfl, ?_⟩;replace E := blx E hb;refine avx rfl (avx rfl (anx rfl (zl (zf (zk (rs := [.tmp 4, .tmp 5, .tmp 6]) (vs := [_, _, _]) rfl ⟨rfl, rfl, rfl, trivial⟩ ?_)))));exact ⟨by unfold vb; rw [g1, g2, h3, hk, hj]; rfl, (LW.step E XLW).toBelow⟩
  ·
   refine zp (zh (srx (avx rfl (avx rfl (anx rfl (zl (zk (rs := [.tmp 4, .tmp 5, .tmp 6]) (vs := [_, _, _]) rfl ⟨rfl, rfl, rfl, trivial⟩ ?_)))))));exact ⟨by unfold vb; rw [g1, g2, h3, hk, hj]; rfl, (LW.step E XLW).toBelow⟩
 ·
  have hk := Bool.eq_false_iff.2 hk
  refine zx 26 (.bool false) rfl ((by rw [hk] : (.bool (ua.k == 4) : Value) = _)) (za rfl (zd rfl (za rfl (zd rfl (za rfl (zd rfl (za rfl (zi rfl rfl (rnx (zt rfl (zp (zh (srx (avx rfl (avx rfl (anx rfl (zl (zk (rs := [.tmp 4, .tmp 5, .tmp 6]) (vs := [_, _, _]) rfl ⟨rfl, rfl, rfl, trivial⟩ ?_))))))))))))))))))
  exact ⟨by unfold vb; rw [g1, g2, h3, hk]; rfl, (LW.step E XLW).toBelow⟩
theorem rl_or5 (h3 : jh ua.k = true) (h4 : jh ub.k = false) : Calls Tryz.prog 10 #[.agg #[.int .i64 ua.k, .bool ua.yes, .bool ua.neg, .slice A1 ua.xs.length c1, .int .u64 ((ua.bits : Nat) : Int), .string ua.s, .slice B1 ua.ni d1], .agg #[.int .i64 ub.k, .bool ub.yes, .bool ub.neg, .slice A2 ub.xs.length c2, .int .u64 ((ub.bits : Nat) : Int), .string ub.s, .slice B2 ub.ni d2]] w fun e w' => e = .returned (.tuple #[.int .i64 (vb ua ub).1, .bool (vb ua ub).2.1, .int .i64 (vb ua ub).2.2]) ∧ Below w.heap.size w w' := by
 have _ := hx; have _ := hl; have _ := ha; have _ := hy; have _ := hl'; have _ := hb0; have _ := g1; have _ := g2;refine zr Tryz.func10 rfl Tryz.ntmps10 rfl ?_;have HF : Per (No) w (fun _ => True) := Per.true_;have LW := erx (No) w;have XLW := grx (No) w;have E := erx (No) w;replace HF := HF.on E;replace LW := LW.step E XLW;replace E := erx (No) w;replace HF := HF.and (Per.nums0 hx)
 replace HF := HF.on E;replace LW := LW.step E XLW;replace E := erx (No) w;replace HF := HF.and (Per.nums0 hy);refine srx (za rfl (zv rfl ?_));intro gb1 w2 Bb1 Eb1 Gb1;have Gb1 : _ ≤ gb1 := Nat.le_trans E.size Gb1;have GLb1 := Nat.le_trans LW.size Gb1;replace E := E.trans Eb1.no;replace HF := HF.cons (zg Gb1);replace E := E.cons (some gb1)
 replace XLW := Mut.grow XLW (fun k e => Or.inr (Nat.le_trans LW.size ((zg Gb1) k e)));replace HF := HF.on E;replace LW := LW.step E XLW;have SB : ∀ q9, No q9 → Mut [(some gb1)] q9 := (Mut.skip Mut.nil_);replace HF := HF.less SB;replace XLW := fun k h => XLW k (SB k h);clear SB;replace E := erx (No) w2;replace HF := HF.and (Per.blkN Bb1 NotIn.nil);refine za rfl (zv rfl ?_)
 intro gb3 w4 Bb3 Eb3 Gb3;have Gb3 : _ ≤ gb3 := Nat.le_trans E.size Gb3;have GLb3 := Nat.le_trans LW.size Gb3;replace E := E.trans Eb3.no;replace HF := HF.cons (zg Gb3);replace E := E.cons (some gb3);replace XLW := Mut.grow XLW (fun k e => Or.inr (Nat.le_trans LW.size ((zg Gb3) k e)));replace HF := HF.on E;replace LW := LW.step E XLW
 have SB : ∀ q9, No q9 → Mut [(some gb3)] q9 := (Mut.skip Mut.nil_);replace HF := HF.less SB;replace XLW := fun k h => XLW k (SB k h);clear SB;replace E := erx (No) w4;replace HF := HF.and (Per.blkN Bb3 NotIn.nil)
 refine avx rfl (avx rfl (anx rfl (zj (srx (za rfl (zm Tryz.underlying28 rfl yp rfl (HF.on E).here.1.2 rfl (za rfl (zc en31 rfl ((zaz _ ua A1 B1 c1 d1 true h3).mono ?_)))))))));rintro e w5 ⟨rfl, hb⟩;refine ⟨_, rfl, ?_⟩;replace E := blx E hb
 refine mvx rfl (onx rfl (zm Tryz.underlying28 rfl yp rfl (HF.on E).here.2 rfl (onx rfl (zc en31 rfl ((zaz _ ub A2 B2 c2 d2 false h4).mono ?_)))));rintro e w6 ⟨rfl, hb⟩;refine ⟨_, rfl, ?_⟩;replace E := blx E hb
 refine za rfl (zq rfl rfl (rnx (zt rfl (zp (zh (zj (srx (za rfl (zb Tryz.underlying28 rfl sz3 (by decide) rfl (za rfl (ze Tryz.underlying3 rfl rfl (HF.on E).here.1.2 rfl (za rfl (ya rfl rfl (mvx rfl ?_))))))))))))));by_cases hk : (ua.k == 4) = true
 ·
  refine zx 26 (.bool true) rfl ((by rw [hk] : (.bool (ua.k == 4) : Value) = _)) (onx rfl (zb Tryz.underlying28 rfl sz3 (by decide) rfl (onx rfl (ze Tryz.underlying3 rfl rfl (HF.on E).here.2 rfl (onx rfl (ya rfl rfl (za rfl (zq rfl rfl (rnx (ym rfl (fun hj => ?_) (fun hj => ?_)))))))))))
  ·
   refine srx (za rfl (zb Tryz.underlying28 rfl sz9 (by decide) rfl (za rfl (ze Tryz.underlying9 rfl rfl (HF.on E).here.1.2 rfl (za rfl (zb Tryz.underlying28 rfl sz9 (by decide) rfl (za rfl (ze Tryz.underlying9 rfl rfl (HF.on E).here.2 rfl (za rfl (zc en33 rfl ((rl_bytes _ ua.s ub.s (PV.s_len g1 (eq_of_beq hk))).mono ?_)))))))))))
   rintro e w7 ⟨rfl, hb⟩;refine ⟨_, rfl, ?_⟩;replace E := blx E hb;refine avx rfl (avx rfl (anx rfl (zl (zf (zk (rs := [.tmp 4, .tmp 5, .tmp 6]) (vs := [_, _, _]) rfl ⟨rfl, rfl, rfl, trivial⟩ ?_)))));exact ⟨by unfold vb; rw [g1, g2, h3, h4, hk, hj]; rfl, (LW.step E XLW).toBelow⟩
  ·
   refine zp (zh (srx (avx rfl (avx rfl (anx rfl (zl (zk (rs := [.tmp 4, .tmp 5, .tmp 6]) (vs := [_, _, _]) rfl ⟨rfl, rfl, rfl, trivial⟩ ?_)))))));exact ⟨by unfold vb; rw [g1, g2, h3, h4, hk, hj]; rfl, (LW.step E XLW).toBelow⟩
 ·
  have hk := Bool.eq_false_iff.2 hk
  refine zx 26 (.bool false) rfl ((by rw [hk] : (.bool (ua.k == 4) : Value) = _)) (za rfl (zd rfl (za rfl (zd rfl (za rfl (zd rfl (za rfl (zi rfl rfl (rnx (zt rfl (zp (zh (srx (avx rfl (avx rfl (anx rfl (zl (zk (rs := [.tmp 4, .tmp 5, .tmp 6]) (vs := [_, _, _]) rfl ⟨rfl, rfl, rfl, trivial⟩ ?_))))))))))))))))))
  exact ⟨by unfold vb; rw [g1, g2, h3, h4, hk]; rfl, (LW.step E XLW).toBelow⟩
theorem rl_orders : Calls Tryz.prog 10 #[.agg #[.int .i64 ua.k, .bool ua.yes, .bool ua.neg, .slice A1 ua.xs.length c1, .int .u64 ((ua.bits : Nat) : Int), .string ua.s, .slice B1 ua.ni d1], .agg #[.int .i64 ub.k, .bool ub.yes, .bool ub.neg, .slice A2 ub.xs.length c2, .int .u64 ((ub.bits : Nat) : Int), .string ub.s, .slice B2 ub.ni d2]] w fun e w' => e = .returned (.tuple #[.int .i64 (vb ua ub).1, .bool (vb ua ub).2.1, .int .i64 (vb ua ub).2.2]) ∧ Below w.heap.size w w' := by
 cases h3 : jh ua.k
 · exact rl_or4 w ua ub A1 B1 A2 B2 c1 d1 c2 d2 hx hl ha hy hl' hb0 g1 g2 h3
 cases h4 : jh ub.k
 · exact rl_or5 w ua ub A1 B1 A2 B2 c1 d1 c2 d2 hx hl ha hy hl' hb0 g1 g2 h3 h4
 · exact rl_or3 w ua ub A1 B1 A2 B2 c1 d1 c2 d2 hx hl ha hy hl' hb0 g1 g2 h3 h4
theorem rl_sm3 (h3 : (ua.k == ub.k) = false) : Calls Tryz.prog 12 #[.agg #[.int .i64 ua.k, .bool ua.yes, .bool ua.neg, .slice A1 ua.xs.length c1, .int .u64 ((ua.bits : Nat) : Int), .string ua.s, .slice B1 ua.ni d1], .agg #[.int .i64 ub.k, .bool ub.yes, .bool ub.neg, .slice A2 ub.xs.length c2, .int .u64 ((ub.bits : Nat) : Int), .string ub.s, .slice B2 ub.ni d2]] w fun e w' => e = .returned (.bool (je ua ub)) ∧ Below w.heap.size w w' := by
 have _ := hx; have _ := hl; have _ := ha; have _ := hy; have _ := hl'; have _ := hb0; have _ := g1; have _ := g2;refine zr Tryz.func12 rfl Tryz.ntmps12 rfl ?_;have HF : Per (No) w (fun _ => True) := Per.true_;have LW := erx (No) w;have XLW := grx (No) w;have E := erx (No) w;replace HF := HF.on E;replace LW := LW.step E XLW;replace E := erx (No) w;replace HF := HF.and (Per.nums0 hx)
 replace HF := HF.on E;replace LW := LW.step E XLW;replace E := erx (No) w;replace HF := HF.and (Per.nums0 hy);refine srx (za rfl (zv rfl ?_));intro gb1 w2 Bb1 Eb1 Gb1;have Gb1 : _ ≤ gb1 := Nat.le_trans E.size Gb1;have GLb1 := Nat.le_trans LW.size Gb1;replace E := E.trans Eb1.no;replace HF := HF.cons (zg Gb1);replace E := E.cons (some gb1)
 replace XLW := Mut.grow XLW (fun k e => Or.inr (Nat.le_trans LW.size ((zg Gb1) k e)));replace HF := HF.on E;replace LW := LW.step E XLW;have SB : ∀ q9, No q9 → Mut [(some gb1)] q9 := (Mut.skip Mut.nil_);replace HF := HF.less SB;replace XLW := fun k h => XLW k (SB k h);clear SB;replace E := erx (No) w2;replace HF := HF.and (Per.blkN Bb1 NotIn.nil);refine za rfl (zv rfl ?_)
 intro gb3 w4 Bb3 Eb3 Gb3;have Gb3 : _ ≤ gb3 := Nat.le_trans E.size Gb3;have GLb3 := Nat.le_trans LW.size Gb3;replace E := E.trans Eb3.no;replace HF := HF.cons (zg Gb3);replace E := E.cons (some gb3);replace XLW := Mut.grow XLW (fun k e => Or.inr (Nat.le_trans LW.size ((zg Gb3) k e)));replace HF := HF.on E;replace LW := LW.step E XLW
 have SB : ∀ q9, No q9 → Mut [(some gb3)] q9 := (Mut.skip Mut.nil_);replace HF := HF.less SB;replace XLW := fun k h => XLW k (SB k h);clear SB;replace E := erx (No) w4;replace HF := HF.and (Per.blkN Bb3 NotIn.nil)
 refine anx rfl (zj (srx (za rfl (zb Tryz.underlying28 rfl sz3 (by decide) rfl (za rfl (ze Tryz.underlying3 rfl rfl (HF.on E).here.1.2 rfl (za rfl (zb Tryz.underlying28 rfl sz3 (by decide) rfl (za rfl (ze Tryz.underlying3 rfl rfl (HF.on E).here.2 rfl (za rfl (qf rfl rfl (rnx (zu 9 (.bool true) rfl ((by show Value.bool (!(ua.k == ub.k)) = _; rw [h3]; rfl : (.bool (ua.k != ub.k) : Value) = _)) (yb rfl (srx (anx rfl (zl (zf (zk (rs := [.tmp 4]) (vs := [_]) rfl ⟨rfl, trivial⟩ ?_))))))))))))))))))))
 exact ⟨by unfold je; rw [g1, g2, h3]; rfl, (LW.step E XLW).toBelow⟩
theorem rl_sm5 (h3 : (ua.k == ub.k) = true) (h4 : ua.k = 3) : Calls Tryz.prog 12 #[.agg #[.int .i64 ua.k, .bool ua.yes, .bool ua.neg, .slice A1 ua.xs.length c1, .int .u64 ((ua.bits : Nat) : Int), .string ua.s, .slice B1 ua.ni d1], .agg #[.int .i64 ub.k, .bool ub.yes, .bool ub.neg, .slice A2 ub.xs.length c2, .int .u64 ((ub.bits : Nat) : Int), .string ub.s, .slice B2 ub.ni d2]] w fun e w' => e = .returned (.bool (je ua ub)) ∧ Below w.heap.size w w' := by
 have _ := hx; have _ := hl; have _ := ha; have _ := hy; have _ := hl'; have _ := hb0; have _ := g1; have _ := g2;refine zr Tryz.func12 rfl Tryz.ntmps12 rfl ?_;have HF : Per (No) w (fun _ => True) := Per.true_;have LW := erx (No) w;have XLW := grx (No) w;have E := erx (No) w;replace HF := HF.on E;replace LW := LW.step E XLW;replace E := erx (No) w;replace HF := HF.and (Per.nums0 hx)
 replace HF := HF.on E;replace LW := LW.step E XLW;replace E := erx (No) w;replace HF := HF.and (Per.nums0 hy);refine srx (za rfl (zv rfl ?_));intro gb1 w2 Bb1 Eb1 Gb1;have Gb1 : _ ≤ gb1 := Nat.le_trans E.size Gb1;have GLb1 := Nat.le_trans LW.size Gb1;replace E := E.trans Eb1.no;replace HF := HF.cons (zg Gb1);replace E := E.cons (some gb1)
 replace XLW := Mut.grow XLW (fun k e => Or.inr (Nat.le_trans LW.size ((zg Gb1) k e)));replace HF := HF.on E;replace LW := LW.step E XLW;have SB : ∀ q9, No q9 → Mut [(some gb1)] q9 := (Mut.skip Mut.nil_);replace HF := HF.less SB;replace XLW := fun k h => XLW k (SB k h);clear SB;replace E := erx (No) w2;replace HF := HF.and (Per.blkN Bb1 NotIn.nil);refine za rfl (zv rfl ?_)
 intro gb3 w4 Bb3 Eb3 Gb3;have Gb3 : _ ≤ gb3 := Nat.le_trans E.size Gb3;have GLb3 := Nat.le_trans LW.size Gb3;replace E := E.trans Eb3.no;replace HF := HF.cons (zg Gb3);replace E := E.cons (some gb3);replace XLW := Mut.grow XLW (fun k e => Or.inr (Nat.le_trans LW.size ((zg Gb3) k e)));replace HF := HF.on E;replace LW := LW.step E XLW
 have SB : ∀ q9, No q9 → Mut [(some gb3)] q9 := (Mut.skip Mut.nil_);replace HF := HF.less SB;replace XLW := fun k h => XLW k (SB k h);clear SB;replace E := erx (No) w4;replace HF := HF.and (Per.blkN Bb3 NotIn.nil)
 refine anx rfl (zj (srx (za rfl (zb Tryz.underlying28 rfl sz3 (by decide) rfl (za rfl (ze Tryz.underlying3 rfl rfl (HF.on E).here.1.2 rfl (za rfl (zb Tryz.underlying28 rfl sz3 (by decide) rfl (za rfl (ze Tryz.underlying3 rfl rfl (HF.on E).here.2 rfl (za rfl (qf rfl rfl (rnx (zu 9 (.bool false) rfl ((by show Value.bool (!(ua.k == ub.k)) = _; rw [h3]; rfl : (.bool (ua.k != ub.k) : Value) = _)) (zt rfl (zp (zh (zj (srx (za rfl (zb Tryz.underlying28 rfl sz3 (by decide) rfl (za rfl (ze Tryz.underlying3 rfl rfl (HF.on E).here.1.2 rfl (za rfl (ya rfl rfl (rnx (zu 12 (.bool true) rfl ((by simp [h4] : (.bool (ua.k == 3) : Value) = _)) (yb rfl (zj ?_)))))))))))))))))))))))))))))
 have OY : ∀ q9, (Mut (zaq [])) q9 → q9 < (World.drew w4).heap.size → (No) q9 := fun k h _ => (Mut.none_) k h;refine vc (No) Mut.none_ [] [] (zdv [Fx.of (.pointer (some ⟨gb1, 4, none⟩)),
  Fx.of (.int .u64 ((ua.bits : Nat) : Int)),
  Fx.of (.agg #[.int .i64 3, .bool false, .bool false, .slice none 0 0, .int .u64 ((yt ua.bits : Nat) : Int), .string ⟨#[]⟩, .slice none 0 0]),
  Fx.of (.int .u64 ((yt ua.bits : Nat) : Int)),
  Fx.of (.pointer (some ⟨gb3, 4, none⟩)),
  Fx.of (.int .u64 ((ub.bits : Nat) : Int)),
  Fx.of (.agg #[.int .i64 3, .bool false, .bool false, .slice none 0 0, .int .u64 ((yt ub.bits : Nat) : Int), .string ⟨#[]⟩, .slice none 0 0]),
  Fx.of (.int .u64 ((yt ub.bits : Nat) : Int)),
  Fx.of (.bool (((yt ua.bits : Nat) : Int) == ((yt ub.bits : Nat) : Int))),
  Fx.of (.bool (((yt ua.bits : Nat) : Int) == ((yt ub.bits : Nat) : Int)))]) mixed rfl trivial (fun _ h => by cases h) ?_ ?_
 · refine ⟨?_, ?_, ?_, ?_, ?_, ?_, ?_, ?_, ?_, ?_, trivial⟩
   · intro vs X wq K;exact zb Tryz.underlying28 rfl kz (by decide) rfl ⟨Below.refl _ _, Left.of rfl⟩
   · intro vs X wq K;have LE := K.1;obtain ⟨_, e0, k0⟩ := K.dep 0 rfl rfl rfl;refine zn 13 (.pointer (some ⟨gb1, 4, none⟩)) rfl e0 ?_;exact ze Tryz.underlying25 rfl rfl (HF.on (E.drew.trans (LE.mono OY))).here.1.2 rfl ⟨Below.refl _ _, Left.of rfl⟩
   · intro vs X wq K;obtain ⟨_, e1, k1⟩ := K.dep 1 rfl rfl rfl;refine zn 14 (.int .u64 ((ua.bits : Nat) : Int)) rfl e1 (zc en24 rfl ((ztz _ ua.bits ha).mono ?_));rintro e w2 ⟨rfl, hb⟩;exact ⟨_, rfl, hb, Left.of rfl⟩
   · intro vs X wq K;obtain ⟨_, e2, k2⟩ := K.dep 2 rfl rfl rfl;refine zn 15 (.agg #[.int .i64 3, .bool false, .bool false, .slice none 0 0, .int .u64 ((yt ua.bits : Nat) : Int), .string ⟨#[]⟩, .slice none 0 0]) rfl e2 ?_;exact ow_field1 Tryz.underlying28 rfl Tryz.underlying25 rfl rfl rfl ⟨Below.refl _ _, Left.of rfl⟩
   · intro vs X wq K;exact zb Tryz.underlying28 rfl kz (by decide) rfl ⟨Below.refl _ _, Left.of rfl⟩
   · intro vs X wq K;have LE := K.1;obtain ⟨_, e4, k4⟩ := K.dep 4 rfl rfl rfl;refine zn 17 (.pointer (some ⟨gb3, 4, none⟩)) rfl e4 ?_;exact ze Tryz.underlying25 rfl rfl (HF.on (E.drew.trans (LE.mono OY))).here.2 rfl ⟨Below.refl _ _, Left.of rfl⟩
   · intro vs X wq K;obtain ⟨_, e5, k5⟩ := K.dep 5 rfl rfl rfl;refine zn 18 (.int .u64 ((ub.bits : Nat) : Int)) rfl e5 (zc en24 rfl ((ztz _ ub.bits hb0).mono ?_));rintro e w2 ⟨rfl, hb⟩;exact ⟨_, rfl, hb, Left.of rfl⟩
   · intro vs X wq K;obtain ⟨_, e6, k6⟩ := K.dep 6 rfl rfl rfl;refine zn 19 (.agg #[.int .i64 3, .bool false, .bool false, .slice none 0 0, .int .u64 ((yt ub.bits : Nat) : Int), .string ⟨#[]⟩, .slice none 0 0]) rfl e6 ?_;exact ow_field1 Tryz.underlying28 rfl Tryz.underlying25 rfl rfl rfl ⟨Below.refl _ _, Left.of rfl⟩
   · intro vs X wq K;obtain ⟨_, e3, k3⟩ := K.dep 3 rfl rfl rfl;refine zn 16 (.int .u64 ((yt ua.bits : Nat) : Int)) rfl e3 ?_;obtain ⟨_, e7, k7⟩ := K.dep 7 rfl rfl rfl;refine zn 20 (.int .u64 ((yt ub.bits : Nat) : Int)) rfl e7 ?_;exact ya rfl rfl ⟨Below.refl _ _, Left.of rfl⟩
   · intro vs X wq K;obtain ⟨_, e8, k8⟩ := K.dep 8 rfl rfl rfl;refine zn 21 (.bool (((yt ua.bits : Nat) : Int) == ((yt ub.bits : Nat) : Int))) rfl e8 ?_;exact qd rfl ⟨Below.refl _ _, Left.of rfl⟩
 intro vs w5 LE AO AL AF AA;replace E := E.drew.trans (LE.mono OY);obtain ⟨_, e9, k9⟩ := AL.2.2.2.2.2.2.2.2.2.1;refine gg (τ := [(2, _), (3, _), (4, .bool (((yt ua.bits : Nat) : Int) == ((yt ub.bits : Nat) : Int)))]) ⟨rfl, rfl, congrArg some e9, trivial⟩ ?_;clear AL AF AA LE AO OY e9 k9;refine zh (zl (zf (zk (rs := [.tmp 4]) (vs := [_]) rfl ⟨rfl, trivial⟩ ?_)))
 exact ⟨by unfold je; rw [g1, g2, h3, if_neg (show ¬ ua.k = 2 by omega), if_pos h4, neg_same ha hb0]; rfl, (LW.step E XLW).toBelow⟩
theorem rl_sm6 (h3 : (ua.k == ub.k) = true) (h5 : ua.k ≠ 3) : Calls Tryz.prog 12 #[.agg #[.int .i64 ua.k, .bool ua.yes, .bool ua.neg, .slice A1 ua.xs.length c1, .int .u64 ((ua.bits : Nat) : Int), .string ua.s, .slice B1 ua.ni d1], .agg #[.int .i64 ub.k, .bool ub.yes, .bool ub.neg, .slice A2 ub.xs.length c2, .int .u64 ((ub.bits : Nat) : Int), .string ub.s, .slice B2 ub.ni d2]] w fun e w' => e = .returned (.bool (je ua ub)) ∧ Below w.heap.size w w' := by
 have _ := hx; have _ := hl; have _ := ha; have _ := hy; have _ := hl'; have _ := hb0; have _ := g1; have _ := g2;refine zr Tryz.func12 rfl Tryz.ntmps12 rfl ?_;have HF : Per (No) w (fun _ => True) := Per.true_;have LW := erx (No) w;have XLW := grx (No) w;have E := erx (No) w;replace HF := HF.on E;replace LW := LW.step E XLW;replace E := erx (No) w;replace HF := HF.and (Per.nums0 hx)
 replace HF := HF.on E;replace LW := LW.step E XLW;replace E := erx (No) w;replace HF := HF.and (Per.nums0 hy);refine srx (za rfl (zv rfl ?_));intro gb1 w2 Bb1 Eb1 Gb1;have Gb1 : _ ≤ gb1 := Nat.le_trans E.size Gb1;have GLb1 := Nat.le_trans LW.size Gb1;replace E := E.trans Eb1.no;replace HF := HF.cons (zg Gb1);replace E := E.cons (some gb1)
 replace XLW := Mut.grow XLW (fun k e => Or.inr (Nat.le_trans LW.size ((zg Gb1) k e)));replace HF := HF.on E;replace LW := LW.step E XLW;have SB : ∀ q9, No q9 → Mut [(some gb1)] q9 := (Mut.skip Mut.nil_);replace HF := HF.less SB;replace XLW := fun k h => XLW k (SB k h);clear SB;replace E := erx (No) w2;replace HF := HF.and (Per.blkN Bb1 NotIn.nil);refine za rfl (zv rfl ?_)
 intro gb3 w4 Bb3 Eb3 Gb3;have Gb3 : _ ≤ gb3 := Nat.le_trans E.size Gb3;have GLb3 := Nat.le_trans LW.size Gb3;replace E := E.trans Eb3.no;replace HF := HF.cons (zg Gb3);replace E := E.cons (some gb3);replace XLW := Mut.grow XLW (fun k e => Or.inr (Nat.le_trans LW.size ((zg Gb3) k e)));replace HF := HF.on E;replace LW := LW.step E XLW
 have SB : ∀ q9, No q9 → Mut [(some gb3)] q9 := (Mut.skip Mut.nil_);replace HF := HF.less SB;replace XLW := fun k h => XLW k (SB k h);clear SB;replace E := erx (No) w4;replace HF := HF.and (Per.blkN Bb3 NotIn.nil)
 refine anx rfl (zj (srx (za rfl (zb Tryz.underlying28 rfl sz3 (by decide) rfl (za rfl (ze Tryz.underlying3 rfl rfl (HF.on E).here.1.2 rfl (za rfl (zb Tryz.underlying28 rfl sz3 (by decide) rfl (za rfl (ze Tryz.underlying3 rfl rfl (HF.on E).here.2 rfl (za rfl (qf rfl rfl (rnx (zu 9 (.bool false) rfl ((by show Value.bool (!(ua.k == ub.k)) = _; rw [h3]; rfl : (.bool (ua.k != ub.k) : Value) = _)) (zt rfl (zp (zh (zj (srx (za rfl (zb Tryz.underlying28 rfl sz3 (by decide) rfl (za rfl (ze Tryz.underlying3 rfl rfl (HF.on E).here.1.2 rfl (za rfl (ya rfl rfl (rnx (zu 12 (.bool false) rfl ((by simp [h5] : (.bool (ua.k == 3) : Value) = _)) (zt rfl (zp (zh (srx (za rfl (zb Tryz.underlying28 rfl sz4 (by decide) rfl (za rfl (ze Tryz.underlying4 rfl rfl (HF.on E).here.1.2 rfl (za rfl (zb Tryz.underlying28 rfl sz4 (by decide) rfl (za rfl (ze Tryz.underlying4 rfl rfl (HF.on E).here.2 rfl (za rfl (zwq Tryz.underlying4 rfl rfl (mvx rfl ?_))))))))))))))))))))))))))))))))))))))))))
 by_cases ho : (ua.yes == ub.yes) = true
 ·
  refine zx 27 (.bool true) rfl ((by rw [ho] : (.bool (ua.yes == ub.yes) : Value) = _)) (onx rfl (zb Tryz.underlying28 rfl sz9 (by decide) rfl (onx rfl (ze Tryz.underlying9 rfl rfl (HF.on E).here.1.2 rfl (onx rfl (zb Tryz.underlying28 rfl sz9 (by decide) rfl (onx rfl (ze Tryz.underlying9 rfl rfl (HF.on E).here.2 rfl (onx rfl (kw rfl rfl (za rfl (zq rfl rfl (mvx rfl ?_)))))))))))))
  by_cases hs : (ua.s.toList == ub.s.toList) = true
  ·
   refine zx 34 (.bool true) rfl (by rw [hs]) (onx rfl (zb Tryz.underlying28 rfl yw (by decide) rfl (onx rfl (og Tryz.underlying24 rfl yw rfl (HF.on E).here.1.2 rfl rfl (onx rfl (zb Tryz.underlying28 rfl yw (by decide) rfl (onx rfl (og Tryz.underlying24 rfl yw rfl (HF.on E).here.2 rfl rfl (onx rfl (zc en34 rfl ((rsame_any A1 A2 c1 c2 ua.xs ub.xs _ ua.neg ub.neg (HF.on E).here.1.1.1.2 (HF.on E).here.1.1.2 (PV.xs_len g1) (PV.xs_len g2)).mono ?_)))))))))))
   rintro e w5 ⟨rfl, hb⟩;refine ⟨_, rfl, ?_⟩;replace E := blx E hb;refine za rfl (zq rfl rfl (anx rfl (zl (zk (rs := [.tmp 4]) (vs := [_]) rfl ⟨rfl, trivial⟩ ?_))));exact ⟨by rw [PV.same_at g1 g2 h3 h5 ho hs]; rfl, (LW.step E XLW).toBelow⟩
  ·
   have hs := Bool.eq_false_iff.2 hs;refine zx 34 (.bool false) rfl (by rw [hs]) (za rfl (zd rfl (za rfl (zd rfl (za rfl (zd rfl (za rfl (zd rfl (za rfl (zd rfl (za rfl (zi rfl rfl (anx rfl (zl (zk (rs := [.tmp 4]) (vs := [_]) rfl ⟨rfl, trivial⟩ ?_)))))))))))))));exact ⟨by rw [PV.same_s g1 g2 h3 h5 hs]; rfl, (LW.step E XLW).toBelow⟩
 ·
  have ho := Bool.eq_false_iff.2 ho
  refine zx 27 (.bool false) rfl ((by rw [ho] : (.bool (ua.yes == ub.yes) : Value) = _)) (za rfl (zd rfl (za rfl (zd rfl (za rfl (zd rfl (za rfl (zd rfl (za rfl (zd rfl (za rfl (zi rfl rfl (mvx rfl (za rfl (zd rfl (za rfl (zd rfl (za rfl (zd rfl (za rfl (zd rfl (za rfl (zd rfl (za rfl (zi rfl rfl (anx rfl (zl (zk (rs := [.tmp 4]) (vs := [_]) rfl ⟨rfl, trivial⟩ ?_))))))))))))))))))))))))))))
  exact ⟨by rw [PV.same_y g1 g2 h3 h5 ho]; rfl, (LW.step E XLW).toBelow⟩
theorem rl_same : Calls Tryz.prog 12 #[.agg #[.int .i64 ua.k, .bool ua.yes, .bool ua.neg, .slice A1 ua.xs.length c1, .int .u64 ((ua.bits : Nat) : Int), .string ua.s, .slice B1 ua.ni d1], .agg #[.int .i64 ub.k, .bool ub.yes, .bool ub.neg, .slice A2 ub.xs.length c2, .int .u64 ((ub.bits : Nat) : Int), .string ub.s, .slice B2 ub.ni d2]] w fun e w' => e = .returned (.bool (je ua ub)) ∧ Below w.heap.size w w' := by
 cases h3 : (ua.k == ub.k)
 · exact rl_sm3 w ua ub A1 B1 A2 B2 c1 d1 c2 d2 hx hl ha hy hl' hb0 g1 g2 h3
 by_cases h5 : ua.k = 3
 · exact rl_sm5 w ua ub A1 B1 A2 B2 c1 d1 c2 d2 hx hl ha hy hl' hb0 g1 g2 h3 h5
 · exact rl_sm6 w ua ub A1 B1 A2 B2 c1 d1 c2 d2 hx hl ha hy hl' hb0 g1 g2 h3 h5
end
end Go.Proofs.YtaleikoeklemmaaGreatDoor

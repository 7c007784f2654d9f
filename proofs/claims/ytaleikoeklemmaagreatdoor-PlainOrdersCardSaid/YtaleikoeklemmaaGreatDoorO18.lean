/- Texts of this claim. -/
import Derived.Test.YtaleikoeklemmaaGreatDoorO17
namespace Go.Proofs.YtaleikoeklemmaaGreatDoor
open Go.RowKit
set_option maxRecDepth 100000
attribute [local irreducible] OW RS
theorem add_v : (2 : Int) = outV (yf false [1] && yf false [1]) (num false [1] + num false [1]) := by
 have h := qx (i := 1) (by decide);rw [zjq] at h;have h : yf false [1] = true := h;rw [h, num_1];exact (ow (by decide)).symm
theorem add_f : (0 : Int) = outE (yf false [1] && yf false [1]) (num false [1] + num false [1]) := by
 have h := qx (i := 1) (by decide);rw [zjq] at h;have h : yf false [1] = true := h;rw [h, num_1];exact (oz (by decide)).symm
theorem CntV.own {w : World} {A1 A : Option Addr} {xs ys : List Nat} (h : CntV w A1 A xs ys) (hne : ys ≠ xs) : Nums w A ys := h.resolve_left (fun e => hne e.2)
def pvT : PV := ⟨1, true, false, [], 0, ⟨#[]⟩, 0⟩
def pvO : PV := ⟨2, false, false, [1], 0, ⟨#[]⟩, 0⟩
theorem sameB_self (n : Bool) (xs : List Nat) : od n xs n xs = true := by unfold od; simp
theorem pvT_good : PV.good pvT = true := by unfold PV.good pvT; simp
theorem pvO_good : PV.good pvO = true := by
 have h := qx (i := 1) (by decide);rw [zjq] at h;have h : yf false [1] = true := h;unfold PV.good pvO;simp [h]
theorem per_ownB {X : Nat → Prop} {w : World} {lo base c : Nat} {A : Option Addr} {xs : List Nat} (h : Own w base A c xs) (hX : ∀ k, X k → k < base) (hb : lo ≤ base) : Per X w (fun b => Own b lo A c xs) := fun b E => ⟨ydz (kc h.1 E (fun q hq hx => by have := owns_ge h.1 q hq; have := hX q hx; omega)) hb, h.2⟩
section
variable (w : World)
theorem pl_cnt (ua : PV) (A1 B1 : Option Addr) (c1 d1 : Nat) (n : Bool) (xs : List Nat) (hn : ua.cn = n) (hc : ua.cx = xs) : Calls Tryz.prog 37 #[.agg #[.int .i64 ua.k, .bool ua.yes, .bool ua.neg, .slice A1 ua.xs.length c1, .int .u64 ((ua.bits : Nat) : Int), .string ua.s, .slice B1 ua.ni d1]] w (RetCnt w A1 n ua.xs xs) := by
 subst hn hc;exact zcx w ua A1 B1 c1 d1
theorem rl_boolv (b : Bool) : Calls Tryz.prog 18 #[.bool b] w fun e w' => e = .returned (.agg #[.int .i64 1, .bool b, .bool false, .slice none 0 0, .int .u64 0, .string ⟨#[]⟩, .slice none 0 0]) ∧ Below w.heap.size w w' := by
 refine zr Tryz.func18 rfl Tryz.ntmps18 rfl (srx (za rfl (yq zr28 ?_)));rintro gR wB BY E2 G2;refine rnx (srx (mvx rfl (za rfl (xi (cs := #[.int .i64 1, .bool b, .bool false, .slice none 0 0, .int .u64 0, .string ⟨#[]⟩, .slice none 0 0]) pl28 zr28 rfl rfl (yu (ve yp rfl rfl BY rfl rfl rfl ?_))))));rintro wC BYd E4
 refine rnx (zl (zk (rs := [.cell 2 28]) (vs := [_]) rfl ⟨⟨_, rfl, qw Tryz.underlying28 rfl yp BYd rfl⟩, trivial⟩ ?_));exact ⟨rfl, (E2.step E4 (fun q hq => Or.inr (by have := xr hq; omega))).toBelow⟩
theorem rl_strv (s : ByteArray) : Calls Tryz.prog 23 #[.string s] w fun e w' => e = .returned (.agg #[.int .i64 4, .bool false, .bool false, .slice none 0 0, .int .u64 0, .string s, .slice none 0 0]) ∧ Below w.heap.size w w' := by
 refine zr Tryz.func23 rfl Tryz.ntmps23 rfl (srx (za rfl (yq zr28 ?_)));rintro gR wB BY E2 G2;refine rnx (srx (mvx rfl (za rfl (xi (cs := #[.int .i64 4, .bool false, .bool false, .slice none 0 0, .int .u64 0, .string s, .slice none 0 0]) pl28 zr28 rfl rfl (yu (ve yp rfl rfl BY rfl rfl rfl ?_))))));rintro wC BYd E4
 refine rnx (zl (zk (rs := [.cell 2 28]) (vs := [_]) rfl ⟨⟨_, rfl, qw Tryz.underlying28 rfl yp BYd rfl⟩, trivial⟩ ?_));exact ⟨rfl, (E2.step E4 (fun q hq => Or.inr (by have := xr hq; omega))).toBelow⟩
def RetIV (W : World) (i : Int) (e : Ending) (w' : World) : Prop := ∃ A c, e = .returned (.agg #[.int .i64 2, .bool false, .bool (decide (i < 0)), .slice A (limbs i).length c, .int .u64 0, .string ⟨#[]⟩, .slice none 0 0]) ∧ Own w' W.heap.size A c (limbs i) ∧ Below W.heap.size W w'
theorem rl_intv (A : Option Addr) (c : Nat) (i : Int) (hx : Nums8 w A (tens i)) (hl : (tens i).length ≤ 1048576) : Calls Tryz.prog 19 #[.agg #[.bool (decide (i < 0)), .slice A (tens i).length c]] w (RetIV w i) := by
 refine zr Tryz.func19 rfl Tryz.ntmps19 rfl (srx (za rfl (zv rfl ?_)));rintro gA wA BX E1 G1;refine za rfl (yq zr28 ?_);rintro gR wB BY E2 G2;have BXb := BX.ext E2 (fun h => h.elim);have E12 := E1.trans E2;have hs := E12.size
 refine rnx (srx (za rfl (zm Tryz.underlying45 rfl kh rfl BXb rfl (za rfl (zc en42 rfl ((rto_any A c i _ (Per.nums80 hx _ E12) hl).mono ?_))))));rintro e w1 ⟨A3, c3, rfl, hO, hb⟩;refine ⟨_, rfl, ?_⟩;have E3 := Ext.of_below hb No;have BYc := BY.ext E3 (fun h => h.elim)
 refine za rfl (xi (cs := #[.int .i64 2, .bool false, .bool (decide (i < 0)), .slice A3 (limbs i).length c3, .int .u64 0, .string ⟨#[]⟩, .slice none 0 0]) pl28 zr28 rfl rfl (yu (ve yp rfl rfl BYc rfl rfl rfl ?_)));rintro wC BYd E4;refine rnx (zl (zk (rs := [.cell 2 28]) (vs := [_]) rfl ⟨⟨_, rfl, qw Tryz.underlying28 rfl yp BYd rfl⟩, trivial⟩ ?_))
 exact ⟨A3, c3, rfl, zcz hO E4 BY.lt hs, ((E12.trans E3).step E4 (fun q hq => Or.inr (by have := xr hq; have := E1.size; omega))).toBelow⟩
theorem pl_ofint (A : Option Addr) (c : Nat) (n : Bool) (xs : List Nat) : Calls Tryz.prog 67 #[.agg #[.bool n, .slice A xs.length c]] w fun e w' => e = .returned (.agg #[.int .i64 2, .bool false, .bool n, .slice A xs.length c, .int .u64 0, .string ⟨#[]⟩, .slice none 0 0]) ∧ Below w.heap.size w w' := by
 refine zr Tryz.func67 rfl Tryz.ntmps67 rfl (srx (za rfl (zv rfl ?_)));rintro gA wA BX E1 G1;refine za rfl (yq zr28 ?_);rintro gR wB BY E2 G2;have BXb := BX.ext E2 (fun h => h.elim);have E12 := E1.trans E2;have hs := E12.size
 refine rnx (srx (za rfl (zm Tryz.underlying24 rfl yw rfl BXb rfl (za rfl (xi (cs := #[.int .i64 2, .bool false, .bool n, .slice A xs.length c, .int .u64 0, .string ⟨#[]⟩, .slice none 0 0]) pl28 zr28 rfl rfl (yu (ve yp rfl rfl BY rfl rfl rfl ?_)))))));rintro wC BYd E4
 refine rnx (zl (zk (rs := [.cell 2 28]) (vs := [_]) rfl ⟨⟨_, rfl, qw Tryz.underlying28 rfl yp BYd rfl⟩, trivial⟩ ?_));exact ⟨rfl, (E12.step E4 (fun q hq => Or.inr (by have := xr hq; have := E1.size; omega))).toBelow⟩
theorem pl_wadd (A B : Option Addr) (c d : Nat) (xs ys : List Nat) (n1 n2 : Bool) (v f : Int) (hv : v = outV (yf n1 xs && yf n2 ys) (num n1 xs + num n2 ys)) (hf : f = outE (yf n1 xs && yf n2 ys) (num n1 xs + num n2 ys)) (hx : Nums w A xs) (hy : Nums w B ys) (hl : xs.length ≤ 9223372036854775807) (hl' : ys.length ≤ 9223372036854775807) :
 Calls Tryz.prog 66 #[.int .i64 1, .agg #[.bool n1, .slice A xs.length c], .agg #[.bool n2, .slice B ys.length d]] w (qa w v f) := by
 refine zr Tryz.func66 rfl Tryz.ntmps66 rfl (srx (za rfl (zv rfl ?_)));rintro gA wA BX E1 G1;refine za rfl (zv rfl ?_);rintro gC wC BZ E2 G2;refine za rfl (yq xp ?_);rintro gR wB BY E3 G3;have BXb := (BX.ext E2 (fun h => h.elim)).ext E3 (fun h => h.elim);have BZb := BZ.ext E3 (fun h => h.elim);have E12 := (E1.trans E2).trans E3;have hs := E12.size
 refine anx rfl (zj (srx (mvx rfl (rnx (yh (srx (za rfl (ya rfl rfl (anx rfl (yb rfl (srx (za rfl (zm Tryz.underlying24 rfl yw rfl BXb rfl (za rfl (zm Tryz.underlying24 rfl yw rfl BZb rfl ?_)))))))))))))));have hadd := add_any A B c d xs ys wB n1 n2 (Per.nums0 hx _ E12) (Per.nums0 hy _ E12) hl hl';rw [← hv, ← hf] at hadd
 refine za rfl (zc en95 rfl ((hadd).mono ?_));rintro e w1 ⟨A3, c3, rfl, hO, hb⟩;refine ⟨_, rfl, ?_⟩;have E4 := Ext.of_below hb No;have BYc := BY.ext E4 (fun h => h.elim);refine za rfl (zo rfl rfl (za rfl (zo rfl rfl (yu (ve yw rfl rfl BYc rfl rfl rfl ?_)))));rintro wD BYd E5
 refine anx rfl (zl (zw (zf (zk (rs := [.cell 6 24, .tmp 7]) (vs := [_, _]) rfl ⟨⟨_, rfl, qw Tryz.underlying24 rfl yw BYd rfl⟩, rfl, trivial⟩ ?_))));exact ⟨A3, c3, rfl, zcz hO E5 BY.lt hs, ((E12.trans E4).step E5 (fun q hq => Or.inr (by have := xr hq; have := E1.size; have := E2.size; omega))).toBelow⟩
theorem num_known (A : Option Addr) (c : Nat) (hx : Nums w A [1]) : Calls Tryz.prog 39 #[.int .i64 1, .agg #[.int .i64 1, .bool true, .bool false, .slice none 0 0, .int .u64 0, .string ⟨#[]⟩, .slice none 0 0], .agg #[.int .i64 2, .bool false, .bool false, .slice A 1 c, .int .u64 0, .string ⟨#[]⟩, .slice none 0 0]] w fun e w' => ∃ A4 c4, e = .returned (.tuple #[.agg #[.int .i64 2, .bool false, .bool (decide (2 < 0)), .slice A4 (limbs 2).length c4, .int .u64 0, .string ⟨#[]⟩, .slice none 0 0], .int .i64 0]) ∧ Own w' w.heap.size A4 c4 (limbs 2) ∧ Below w.heap.size w w' := by
 refine zr Tryz.func39 rfl Tryz.ntmps39 rfl (srx (za rfl (zv rfl ?_)));rintro gA wA BX E1 G1;refine za rfl (zv rfl ?_);rintro gC wC BZ E2 G2;refine za rfl (yq zr28 ?_);rintro gR wB BY E3 G3;have BXb := (BX.ext E2 (fun h => h.elim)).ext E3 (fun h => h.elim);have BZb := BZ.ext E3 (fun h => h.elim);have E12 := (E1.trans E2).trans E3;have hs := E12.size
 refine anx rfl (srx (za rfl (zb Tryz.underlying28 rfl sz3 (by decide) rfl (za rfl (ze Tryz.underlying3 rfl rfl BXb rfl (za rfl (ya rfl rfl (mvx rfl (onx rfl (zb Tryz.underlying28 rfl sz3 (by decide) rfl (onx rfl (ze Tryz.underlying3 rfl rfl BZb rfl (onx rfl (ya rfl rfl (za rfl (zi rfl rfl (anx rfl (zj (srx (mvx rfl (mvx rfl (za rfl (zd rfl (za rfl (zd rfl (za rfl (zi rfl rfl (rnx (zt rfl (zp (zh (zj (srx (mvx rfl (za rfl (yi rfl (mvx rfl (onx rfl (zz rfl (onx rfl (qf rfl rfl (za rfl (zq rfl rfl (rnx ?_))))))))))))))))))))))))))))))))))))))))))))
 refine yb rfl (zj ?_);refine vc (No) Mut.none_ [⟨9, 10, 24, #[.bool false, .slice none 0 0]⟩] [] (zdv [Fx.of (.int .i64 1),
  Fx.of (.agg #[.int .i64 1, .bool true, .bool false, .slice none 0 0, .int .u64 0, .string ⟨#[]⟩, .slice none 0 0]),
  ⟨(Option Addr × Nat), fun (A5, c5) => .agg #[.bool false, .slice A5 1 c5], fun (A5, c5) b => (CntV b none A5 [] [1])⟩,
  Fx.of (.agg #[.int .i64 2, .bool false, .bool false, .slice A 1 c, .int .u64 0, .string ⟨#[]⟩, .slice none 0 0]),
  ⟨(Option Addr × Nat), fun (A6, c6) => .agg #[.bool false, .slice A6 1 c6], fun (A6, c6) b => (CntV b A A6 [1] [1])⟩,
  ⟨(Option Addr × Nat), fun (A7, c7) => .tuple #[.agg #[.bool (decide ((2 : Int) < 0)), .slice A7 (limbs 2).length c7], .int .i64 0], fun (A7, c7) b => (Own b wB.heap.size A7 c7 (limbs 2))⟩,
  ⟨(Option Addr × Nat), fun (A7, c7) => .tuple #[.agg #[.bool (decide ((2 : Int) < 0)), .slice A7 (limbs 2).length c7], .int .i64 0], fun (A7, c7) b => (Own b wB.heap.size A7 c7 (limbs 2))⟩,
  ⟨(Option Addr × Nat), fun (A7, c7) => .agg #[.bool (decide ((2 : Int) < 0)), .slice A7 (limbs 2).length c7], fun (A7, c7) b => (Own b wB.heap.size A7 c7 (limbs 2))⟩,
  Fx.of (.int .i64 0),
  Fx.of undef,
  Fx.of undef,
  Fx.of (.int .i64 0)]) mixed rfl trivial (fun _ h => by cases h) ?_ ?_
 · refine ⟨?_, ?_, ?_, ?_, ?_, ?_, ?_, ?_, ?_, ?_, ?_, ?_, trivial⟩
   · intro vs X wq K;exact zz rfl ⟨Below.refl _ _, Left.of rfl⟩
   · intro vs X wq K;have LE := K.1;exact zm Tryz.underlying28 rfl yp rfl (BXb.ext ((Ext.refl No _).drew.trans LE) (fun h ↦ h.elim)) rfl ⟨Below.refl _ _, Left.of rfl⟩
   · intro vs X wq K;have XN := K.2.1;obtain ⟨_, e1, k1⟩ := K.dep 1 rfl rfl rfl;refine zn 37 (.agg #[.int .i64 1, .bool true, .bool false, .slice none 0 0, .int .u64 0, .string ⟨#[]⟩, .slice none 0 0]) rfl e1 (zc en37 rfl ((pl_cnt _ pvT none none 0 0 false [1] rfl rfl).mono ?_));rintro e w2 ⟨A5, c5, rfl, hN, hb⟩;exact ⟨_, rfl, hb, ⟨(A5, c5), rfl, zok hN XN⟩⟩
   · intro vs X wq K;have LE := K.1;exact zm Tryz.underlying28 rfl yp rfl (BZb.ext ((Ext.refl No _).drew.trans LE) (fun h ↦ h.elim)) rfl ⟨Below.refl _ _, Left.of rfl⟩
   · intro vs X wq K;have XN := K.2.1;obtain ⟨_, e3, k3⟩ := K.dep 3 rfl rfl rfl;refine zn 39 (.agg #[.int .i64 2, .bool false, .bool false, .slice A 1 c, .int .u64 0, .string ⟨#[]⟩, .slice none 0 0]) rfl e3 (zc en37 rfl ((pl_cnt _ pvO A none c 0 false [1] rfl rfl).mono ?_));rintro e w2 ⟨A6, c6, rfl, hN, hb⟩;exact ⟨_, rfl, hb, ⟨(A6, c6), rfl, zok hN XN⟩⟩
   · intro vs X wq K;have LE := K.1;have XN := K.2.1;obtain ⟨_, e0, k0⟩ := K.dep 0 rfl rfl rfl;refine zn 36 (.int .i64 1) rfl e0 ?_;obtain ⟨⟨A5, c5⟩, e2, k2⟩ := K.dep 2 rfl rfl rfl;refine zn 38 (.agg #[.bool false, .slice A5 1 c5]) rfl e2 ?_;obtain ⟨⟨A6, c6⟩, e4, k4⟩ := K.dep 4 rfl rfl rfl
     refine zn 40 (.agg #[.bool false, .slice A6 1 c6]) rfl e4 (zc en66 rfl ((pl_wadd _ A5 A6 c5 c6 [1] [1] false false 2 0 add_v add_f ((k2.here).own (by decide)) ((k4.here).nums (Per.nums0 hx _ (E12.trans ((Ext.refl No _).drew.trans LE)))) (by decide) (by decide)).mono ?_));rintro e w2 ⟨A7, c7, rfl, hO, hb⟩;exact ⟨_, rfl, hb, ⟨(A7, c7), rfl, per_ownB hO XN LE.size⟩⟩
   · intro vs X wq K;obtain ⟨⟨A7, c7⟩, e5, k5⟩ := K.dep 5 rfl rfl rfl;refine zn 41 (.tuple #[.agg #[.bool (decide ((2 : Int) < 0)), .slice A7 (limbs 2).length c7], .int .i64 0]) rfl e5 ?_;exact zz rfl ⟨Below.refl _ _, ⟨⟨A7, c7⟩, rfl, (k5.map (fun _ h => h))⟩⟩
   · intro vs X wq K;obtain ⟨⟨A7, c7⟩, e6, k6⟩ := K.dep 6 rfl rfl rfl;refine zn 35 (.tuple #[.agg #[.bool (decide ((2 : Int) < 0)), .slice A7 (limbs 2).length c7], .int .i64 0]) rfl e6 ?_;exact zo rfl rfl ⟨Below.refl _ _, ⟨⟨A7, c7⟩, rfl, (k6.map (fun _ h => h))⟩⟩
   · intro vs X wq K;obtain ⟨⟨A7, c7⟩, e6, k6⟩ := K.dep 6 rfl rfl rfl;refine zn 35 (.tuple #[.agg #[.bool (decide ((2 : Int) < 0)), .slice A7 (limbs 2).length c7], .int .i64 0]) rfl e6 ?_;exact zo rfl rfl ⟨Below.refl _ _, Left.of rfl⟩
   · exact ⟨_, _, _, _, _, rfl, xp, rfl⟩
   · refine ⟨_, _, _, _, _, rfl, rfl, rfl, yw, fun vs X wq K => ?_⟩;obtain ⟨⟨A7, c7⟩, e0, _⟩ := K.dep 7 rfl rfl rfl;exact ⟨vs 7, rfl, by rw [e0]; rfl, by rw [e0]; rfl⟩
   · intro vs X wq K;obtain ⟨_, e8, k8⟩ := K.dep 8 rfl rfl rfl;refine zn 43 (.int .i64 0) rfl e8 ?_;exact qd rfl ⟨Below.refl _ _, Left.of rfl⟩
 intro vs w1 LE AO AL AF AA;have hbd : Below (wB).heap.size (wB) w1 := (((Ext.refl No (wB)).drew).trans LE).toBelow;obtain ⟨⟨A7, c7⟩, e7, k7⟩ := AL.2.2.2.2.2.2.2.1;obtain ⟨_, e11, k11⟩ := AL.2.2.2.2.2.2.2.2.2.2.2.1;have Wc5 := k7.here;obtain ⟨gX0, v0, y0, qX0, GX0, BX0, ey, ev0⟩ := AF.1;cases ey
 obtain rfl : vs 7 = v0 := Option.some.inj ev0;rw [e7] at BX0;have BX0 : Blk w1 gX0 24 #[.bool (decide ((2 : Int) < 0)), .slice A7 (limbs 2).length c7] := BX0;have e9 := qX0;refine gg (τ := [(0, _), (4, _), (5, _), (6, _), (7, _), (8, _), (9, .pointer (some ⟨gX0, 0, none⟩)), (10, .int .i64 0)]) ⟨rfl, rfl, rfl, rfl, rfl, rfl, congrArg some e9, congrArg some e11, trivial⟩ ?_;clear AL AF AA AO
 have E5 := Ext.of_below hbd No;have BYc := BY.ext E5 (fun h => h.elim);refine zh (zj (srx (mvx rfl (za rfl (qf rfl rfl (rnx (zt rfl (zp (zh (srx (za rfl (zm Tryz.underlying24 rfl yw rfl BX0 rfl (za rfl (zc en67 rfl ((pl_ofint _ A7 c7 (decide ((2 : Int) < 0)) (limbs 2)).mono ?_)))))))))))))));rintro e w2 ⟨rfl, hb⟩;refine ⟨_, rfl, ?_⟩
 have E6 := Ext.of_below hb No;have BYd := BYc.ext E6 (fun h => h.elim);have hN7 : Own w2 wB.heap.size A7 c7 (limbs 2) := ⟨kc Wc5.1 E6 (fun _ _ h => h.elim), Wc5.2⟩;refine yu (ve yp rfl rfl BYd rfl rfl rfl ?_);rintro wD BYe E7
 refine anx rfl (zl (zf (zk (rs := [.cell 6 28, .tmp 7]) (vs := [_, _]) rfl ⟨⟨_, rfl, qw Tryz.underlying28 rfl yp BYe rfl⟩, rfl, trivial⟩ ?_)));exact ⟨A7, c7, rfl, zcz hN7 E7 BY.lt hs, (((E12.trans E5).trans E6).step E7 (fun q hq => Or.inr (by have := xr hq; have := E1.size; have := E2.size; omega))).toBelow⟩
theorem bin_known (A : Option Addr) (c : Nat) (hx : Nums w A [1]) : Calls Tryz.prog 17 #[.int .i64 1, .agg #[.int .i64 1, .bool true, .bool false, .slice none 0 0, .int .u64 0, .string ⟨#[]⟩, .slice none 0 0], .agg #[.int .i64 2, .bool false, .bool false, .slice A 1 c, .int .u64 0, .string ⟨#[]⟩, .slice none 0 0]] w fun e w' => ∃ A4 c4, e = .returned (.tuple #[.agg #[.int .i64 2, .bool false, .bool (decide (2 < 0)), .slice A4 (limbs 2).length c4, .int .u64 0, .string ⟨#[]⟩, .slice none 0 0], .int .i64 0]) ∧ Own w' w.heap.size A4 c4 (limbs 2) ∧ Below w.heap.size w w' := by
 refine zr Tryz.func17 rfl Tryz.ntmps17 rfl (srx (za rfl (zv rfl ?_)));rintro gA wA BX E1 G1;refine za rfl (zv rfl ?_);rintro gC wC BZ E2 G2;refine za rfl (yq zr28 ?_);rintro gR wB BY E3 G3;have BXb := (BX.ext E2 (fun h => h.elim)).ext E3 (fun h => h.elim);have BZb := BZ.ext E3 (fun h => h.elim);have E12 := (E1.trans E2).trans E3;have hs := E12.size
 refine anx rfl (zj (srx (za rfl (zm Tryz.underlying28 rfl yp rfl BXb rfl (za rfl (zc gp rfl ((qe _ pvT none none 0 0 zkq (by decide) true pvT_good).mono ?_)))))));rintro e w1 ⟨rfl, hb⟩;refine ⟨_, rfl, ?_⟩;have F1 := Ext.of_below hb No;have E13 := E12.trans F1;have BX1 := BXb.ext F1 (fun h => h.elim);have BZ1 := BZb.ext F1 (fun h => h.elim)
 have BY1 := BY.ext F1 (fun h => h.elim);refine za rfl (yi rfl (mvx rfl (onx rfl (zm Tryz.underlying28 rfl yp rfl BZ1 rfl (onx rfl (zc gp rfl ((qe _ pvO A none c 0 (Per.nums0 hx _ E13) (by decide) true pvO_good).mono ?_)))))));rintro e w2 ⟨rfl, hb⟩;refine ⟨_, rfl, ?_⟩;have F2 := Ext.of_below hb No;have E14 := E13.trans F2;have BX2 := BX1.ext F2 (fun h => h.elim)
 have BZ2 := BZ1.ext F2 (fun h => h.elim);have BY2 := BY1.ext F2 (fun h => h.elim)
 refine onx rfl (yi rfl (za rfl (zi rfl rfl (rnx (zt rfl (zp (zh (zj (srx (mvx rfl (za rfl (vp rfl rfl (mvx rfl (onx rfl (zz rfl (onx rfl (vh rfl rfl (za rfl (zi rfl rfl (rnx (zt rfl (zp (zh (zj (yh (srx (za rfl (zm Tryz.underlying28 rfl yp rfl BX2 rfl (za rfl (zc en26 rfl ((xm _ pvT none none 0 0 true rfl).mono ?_)))))))))))))))))))))))))))))))
 rintro e w3 ⟨rfl, hb⟩;refine ⟨_, rfl, ?_⟩;have F3 := Ext.of_below hb No;have E15 := E14.trans F3;have BX3 := BX2.ext F3 (fun h => h.elim);have BZ3 := BZ2.ext F3 (fun h => h.elim);have BY3 := BY2.ext F3 (fun h => h.elim);refine mvx rfl (onx rfl (zm Tryz.underlying28 rfl yp rfl BZ3 rfl (onx rfl (zc en26 rfl ((xm _ pvO A none c 0 true rfl).mono ?_)))));rintro e w4 ⟨rfl, hb⟩
 refine ⟨_, rfl, ?_⟩;have F4 := Ext.of_below hb No;have E16 := E15.trans F4;have BX4 := BX3.ext F4 (fun h => h.elim);have BZ4 := BZ3.ext F4 (fun h => h.elim);have BY4 := BY3.ext F4 (fun h => h.elim)
 refine za rfl (zq rfl rfl (anx rfl (yb rfl (srx (mvx rfl (za rfl (zm Tryz.underlying28 rfl yp rfl BX4 rfl (za rfl (zm Tryz.underlying28 rfl yp rfl BZ4 rfl (za rfl (zc en39 rfl ((num_known _ A c (Per.nums0 hx _ E16)).mono ?_))))))))))));rintro e w5 ⟨A4, c4, rfl, hO, hb⟩;refine ⟨_, rfl, ?_⟩;have F5 := Ext.of_below hb No
 have BY5 := BY4.ext F5 (fun h => h.elim);refine za rfl (zo rfl rfl (za rfl (zo rfl rfl (yu (ve yp rfl rfl BY5 rfl rfl rfl ?_)))));rintro wD BYe E7;refine anx rfl (zl (zw (zf (zk (rs := [.cell 6 28, .tmp 7]) (vs := [_, _]) rfl ⟨⟨_, rfl, qw Tryz.underlying28 rfl yp BYe rfl⟩, rfl, trivial⟩ ?_))))
 exact ⟨A4, c4, rfl, zcz hO E7 BY4.lt E16.size, ((E16.trans F5).step E7 (fun q hq => Or.inr (by have := xr hq; have := E1.size; have := E2.size; omega))).toBelow⟩
theorem rl_is (A B : Option Addr) (c d : Nat) (n : Bool) (xs : List Nat) (hx : Nums w A xs) (hy : Nums w B xs) (hl : xs.length ≤ 1048576) : Calls Tryz.prog 21 #[.agg #[.int .i64 2, .bool false, .bool n, .slice A xs.length c, .int .u64 0, .string ⟨#[]⟩, .slice none 0 0], .agg #[.int .i64 2, .bool false, .bool n, .slice B xs.length d, .int .u64 0, .string ⟨#[]⟩, .slice none 0 0]] w fun e w' => e = .returned (.bool true) ∧ Below w.heap.size w w' := by
 refine zr Tryz.func21 rfl Tryz.ntmps21 rfl (srx (za rfl (zv rfl ?_)));rintro gA wA BX E1 G1;refine za rfl (zv rfl ?_);rintro gC wC BZ E2 G2;have BXb := BX.ext E2 (fun h => h.elim);have E12 := E1.trans E2;have hs := E12.size
 refine anx rfl (zj (srx (za rfl (zb Tryz.underlying28 rfl sz3 (by decide) rfl (za rfl (ze Tryz.underlying3 rfl rfl BXb rfl (za rfl (zb Tryz.underlying28 rfl sz3 (by decide) rfl (za rfl (ze Tryz.underlying3 rfl rfl BZ rfl (za rfl (qf rfl rfl (mvx rfl (onx rfl (zb Tryz.underlying28 rfl sz4 (by decide) rfl (onx rfl (ze Tryz.underlying4 rfl rfl BXb rfl (onx rfl (zb Tryz.underlying28 rfl sz4 (by decide) rfl (onx rfl (ze Tryz.underlying4 rfl rfl BZ rfl (onx rfl (ow_neqB Tryz.underlying4 rfl rfl (za rfl (zi rfl rfl (mvx rfl (onx rfl (zb Tryz.underlying28 rfl kz (by decide) rfl (onx rfl (ze Tryz.underlying25 rfl rfl BXb rfl (onx rfl (zb Tryz.underlying28 rfl kz (by decide) rfl (onx rfl (ze Tryz.underlying25 rfl rfl BZ rfl (onx rfl (qf rfl rfl (za rfl (zi rfl rfl (mvx rfl (onx rfl (zb Tryz.underlying28 rfl sz9 (by decide) rfl (onx rfl (ze Tryz.underlying9 rfl rfl BXb rfl (onx rfl (zb Tryz.underlying28 rfl sz9 (by decide) rfl (onx rfl (ze Tryz.underlying9 rfl rfl BZ rfl (onx rfl (zwz rfl rfl (zx 30 (.bool false) rfl (by simp only [bytes_list]; rfl : (.bool (!((⟨#[]⟩ : ByteArray).toList == (⟨#[]⟩ : ByteArray).toList)) : Value) = _) (za rfl (zi rfl rfl (mvx rfl (onx rfl (zb Tryz.underlying28 rfl yw (by decide) rfl (onx rfl (zcq (cs := #[.bool n, .slice A xs.length c]) Tryz.underlying24 rfl yw rfl rfl (znq (BXb.cell 2) (BXb.cell 3)) (onx rfl (zb Tryz.underlying28 rfl yw (by decide) rfl (onx rfl (zcq (cs := #[.bool n, .slice B xs.length d]) Tryz.underlying24 rfl yw rfl rfl (znq (BZ.cell 2) (BZ.cell 3)) (onx rfl (zc en34 rfl ((sameB_self n xs ▸ rsame_any A B c d xs xs _ n n (Per.nums0 hx _ E12) (Per.nums0 hy _ E12) hl hl).mono ?_))))))))))))))))))))))))))))))))))))))))))))))))))))))))))))))))
 rintro e w1 ⟨rfl, hb⟩;refine ⟨_, rfl, ?_⟩;have F1 := Ext.of_below hb No;have BX1 := BXb.ext F1 (fun h => h.elim);have BZ1 := BZ.ext F1 (fun h => h.elim)
 refine onx rfl (yi rfl (za rfl (zi rfl rfl (mvx rfl (onx rfl (zb Tryz.underlying28 rfl sz26 (by decide) rfl (onx rfl (ze Tryz.underlying26 rfl rfl BX1 rfl (onx rfl (vq Tryz.underlying26 rfl (zx 43 (.int .i64 0) rfl (by kernel_rfl : (.int .i64 (0 : Nat) : Value) = _) (onx rfl (zb Tryz.underlying28 rfl sz26 (by decide) rfl (onx rfl (ze Tryz.underlying26 rfl rfl BZ1 rfl (onx rfl (vq Tryz.underlying26 rfl (zx 46 (.int .i64 0) rfl (by kernel_rfl : (.int .i64 (0 : Nat) : Value) = _) (onx rfl (qf rfl rfl (za rfl (zi rfl rfl (rnx (zt rfl (zp (zh (zj (srx (anx rfl (yh (zax (ι := Unit) (fun _ => [(2, .pointer (some ⟨gA, 0, none⟩)), (5, .int .i64 0)]) (fun _ z => Ext No w z ∧ Blk z gA 28 #[.int .i64 2, .bool false, .bool n, .slice A xs.length c, .int .u64 0, .string ⟨#[]⟩, .slice none 0 0]) (fun _ => 0) () ⟨rfl, rfl, trivial⟩ (⟨E12.trans F1, BX1⟩) ?_)))))))))))))))))))))))))))))))
 rintro _ w3 ⟨E13, BX3⟩
 refine zj (srx (mvx rfl (za rfl (zb Tryz.underlying28 rfl sz26 (by decide) rfl (za rfl (ze Tryz.underlying26 rfl rfl BX3 rfl (za rfl (vq Tryz.underlying26 rfl (zx 52 (.int .i64 0) rfl (by kernel_rfl : (.int .i64 (0 : Nat) : Value) = _) (za rfl (vp rfl rfl (rnx (zt rfl (jq (ye (ye (qg (zh (srx (anx rfl (zl (zk (rs := [.tmp 4]) (vs := [_]) rfl ⟨rfl, trivial⟩ ?_))))))))))))))))))))))
 exact ⟨rfl, E13.toBelow⟩
theorem bin_known2 (A : Option Addr) (c : Nat) (hx : Nums w A (limbs 1)) : Calls Tryz.prog 17 #[.int .i64 1, .agg #[.int .i64 1, .bool true, .bool false, .slice none 0 0, .int .u64 0, .string ⟨#[]⟩, .slice none 0 0], .agg #[.int .i64 2, .bool false, .bool (decide (1 < 0)), .slice A (limbs 1).length c, .int .u64 0, .string ⟨#[]⟩, .slice none 0 0]] w fun e w' => ∃ A4 c4, e = .returned (.tuple #[.agg #[.int .i64 2, .bool false, .bool (decide (2 < 0)), .slice A4 (limbs 2).length c4, .int .u64 0, .string ⟨#[]⟩, .slice none 0 0], .int .i64 0]) ∧ Own w' w.heap.size A4 c4 (limbs 2) ∧ Below w.heap.size w w' := by
 rw [zjq] at hx ⊢;exact bin_known w A c hx
theorem quote_k : Calls Tryz.prog 22 #[.agg #[.int .i64 4, .bool false, .bool false, .slice none 0 0, .int .u64 0, .string ⟨#[97, 39, 10, 200]⟩, .slice none 0 0]] w fun e w' => e = .returned (.string ⟨#[39, 97, 92, 39, 92, 110, 92, 120, 99, 56, 39]⟩) ∧ Below w.heap.size w w' :=
 pl_quote w ⟨4, false, false, [], 0, ⟨#[97, 39, 10, 200]⟩, 0⟩ none none 0 0 zkq (by decide) (by unfold PV.good; simp; decide) rfl (by decide)
theorem hash_k : Calls Tryz.prog 13 #[.agg #[.int .i64 4, .bool false, .bool false, .slice none 0 0, .int .u64 0, .string ⟨#[97]⟩, .slice none 0 0]] w fun e w' => e = .returned (.int .i64 129) ∧ Below w.heap.size w w' := by
 have h := pl_hash w ⟨4, false, false, [], 0, ⟨#[97]⟩, 0⟩ none none 0 0 zkq (by decide) (by decide);have e : zdq ⟨4, false, false, [], 0, ⟨#[97]⟩, 0⟩ = 129 := by
  have hg : PV.good ⟨4, false, false, [], 0, ⟨#[97]⟩, 0⟩ = true := by unfold PV.good; simp; decide
  unfold zdq;rw [hg, if_pos rfl, if_neg (by decide), if_neg (by decide), if_pos rfl];rfl
 rw [e] at h;exact h
theorem nan_k : yt 9221120237041090560 = 9221120237041090560 := by decide
theorem float_k : Calls Tryz.prog 24 #[.int .u64 9221120237041090560] w fun e w' => e = .returned (.agg #[.int .i64 3, .bool false, .bool false, .slice none 0 0, .int .u64 9221120237041090560, .string ⟨#[]⟩, .slice none 0 0]) ∧ Below w.heap.size w w' := by
 have h := ztz w 9221120237041090560 (by decide);rw [nan_k] at h;exact h
theorem equal_k : Calls Tryz.prog 8 #[.agg #[.int .i64 3, .bool false, .bool false, .slice none 0 0, .int .u64 9221120237041090560, .string ⟨#[]⟩, .slice none 0 0], .agg #[.int .i64 3, .bool false, .bool false, .slice none 0 0, .int .u64 9221120237041090560, .string ⟨#[]⟩, .slice none 0 0]] w fun e w' => e = .returned (.bool false) ∧ Below w.heap.size w w' := by
 have h := pl_equal w ⟨3, false, false, [], 9221120237041090560, ⟨#[]⟩, 0⟩ ⟨3, false, false, [], 9221120237041090560, ⟨#[]⟩, 0⟩ none none none none 0 0 0 0 zkq (by decide) (by decide) zkq (by decide) (by decide);have e : eqV ⟨3, false, false, [], 9221120237041090560, ⟨#[]⟩, 0⟩ ⟨3, false, false, [], 9221120237041090560, ⟨#[]⟩, 0⟩ = false := by
  have hg : PV.good ⟨3, false, false, [], 9221120237041090560, ⟨#[]⟩, 0⟩ = true := by unfold PV.good; simp
  have ho : zgz ⟨3, false, false, [], 9221120237041090560, ⟨#[]⟩, 0⟩ ⟨3, false, false, [], 9221120237041090560, ⟨#[]⟩, 0⟩ = false := by decide
  unfold eqV;rw [hg, ho];rfl
 rw [e] at h;exact h
theorem pl_known : Calls Tryz.prog 5 #[] w fun e w' => e = .returned (.bool true) ∧ Below w.heap.size w w' := by
 have ht : ∀ i : Int, i.natAbs < B18 ^ 30 → (tens i).length ≤ 1048576 := fun i h => by have := (ziv i).2 h; omega
 have hlb : (limbs 2).length ≤ 1048576 := by have := vn (i := 2) (by decide); omega
 refine zr Tryz.func5 rfl Tryz.ntmps5 rfl (srx (anx rfl (srx (za rfl (zc en18 rfl ((rl_boolv _ true).mono ?_))))));rintro e w1 ⟨rfl, hb⟩;refine ⟨_, rfl, ?_⟩;have E1 := Ext.of_below hb No;refine za rfl (zc en20 rfl ((oe 1 _ (by decide) (by decide)).mono ?_));rintro e w2 ⟨A1, c1, rfl, hO1, hb⟩;refine ⟨_, rfl, ?_⟩;have E2 := E1.trans (Ext.of_below hb No)
 refine za rfl (zc en19 rfl ((rl_intv _ A1 c1 1 hO1.nums (ht 1 (by decide))).mono ?_));rintro e w3 ⟨A2, c2, rfl, hO2, hb⟩;refine ⟨_, rfl, ?_⟩;have E3 := E2.trans (Ext.of_below hb No);refine za rfl (zc en17 rfl ((bin_known2 _ A2 c2 hO2.nums).mono ?_));rintro e w4 ⟨A4, c4, rfl, hO4, hb⟩;refine ⟨_, rfl, ?_⟩;have E4 := E3.trans (Ext.of_below hb No)
 refine mvx rfl (za rfl (zo rfl rfl (za rfl (zo rfl rfl (za rfl (yq zr28 ?_))))));rintro gR wB BY E5 G2;refine yu (ve yp rfl rfl BY rfl rfl rfl ?_);rintro wC BZ E6;have hO5 : Own wC _ A4 c4 (limbs 2) := ⟨kc (kc hO4.1 E5 (fun _ _ h => h.elim)) E6 (fun q hq hm => by have := xr hm; have := owns_lt hO4.1 q hq; omega), hO4.2⟩
 have hN4 := hO5.nums;have E7 : Ext No w wC := (E4.trans E5).step E6 (fun q hq => Or.inr (by have := xr hq; have := E4.size; omega));refine anx rfl (zj ?_);refine vc (No) Mut.none_ [] [] (zdv [Fx.of (.int .i64 0),
  Fx.of (.bool true),
  Fx.of (.bool true),
  Fx.of (.agg #[.int .i64 2, .bool false, .bool (decide (2 < 0)), .slice A4 (limbs 2).length c4, .int .u64 0, .string ⟨#[]⟩, .slice none 0 0]),
  ⟨(Option Addr × Nat), fun (A5, c5) => .agg #[.bool (decide ((2 : Int) < 0)), .slice A5 (tens 2).length c5], fun (A5, c5) b => (Nums8 b A5 (tens 2))⟩,
  ⟨(Option Addr × Nat), fun (A6, c6) => .agg #[.int .i64 2, .bool false, .bool (decide (2 < 0)), .slice A6 (limbs 2).length c6, .int .u64 0, .string ⟨#[]⟩, .slice none 0 0], fun (A6, c6) b => (Nums b A6 (limbs 2))⟩,
  Fx.of (.bool true),
  Fx.of (.bool true),
  Fx.of (.bool true),
  Fx.of (.agg #[.int .i64 4, .bool false, .bool false, .slice none 0 0, .int .u64 0, .string ⟨#[97, 39, 10, 200]⟩, .slice none 0 0]),
  Fx.of (.string ⟨#[39, 97, 92, 39, 92, 110, 92, 120, 99, 56, 39]⟩),
  Fx.of (.bool true),
  Fx.of (.bool true),
  Fx.of (.bool true),
  Fx.of (.agg #[.int .i64 4, .bool false, .bool false, .slice none 0 0, .int .u64 0, .string ⟨#[97]⟩, .slice none 0 0]),
  Fx.of (.int .i64 129),
  Fx.of (.bool true),
  Fx.of (.bool true),
  Fx.of (.bool true),
  Fx.of (.agg #[.int .i64 3, .bool false, .bool false, .slice none 0 0, .int .u64 9221120237041090560, .string ⟨#[]⟩, .slice none 0 0]),
  Fx.of (.agg #[.int .i64 3, .bool false, .bool false, .slice none 0 0, .int .u64 9221120237041090560, .string ⟨#[]⟩, .slice none 0 0]),
  Fx.of (.bool false),
  Fx.of (.bool true),
  Fx.of (.bool true),
  Fx.of (.bool true)]) mixed rfl trivial (fun _ h => by cases h) ?_ ?_
 · refine ⟨?_, ?_, ?_, ?_, ?_, ?_, ?_, ?_, ?_, ?_, ?_, ?_, ?_, ?_, ?_, ?_, ?_, ?_, ?_, ?_, ?_, ?_, ?_, ?_, ?_, trivial⟩
   · intro vs X wq K;exact zz rfl ⟨Below.refl _ _, Left.of rfl⟩
   · intro vs X wq K;obtain ⟨_, e0, k0⟩ := K.dep 0 rfl rfl rfl;refine zn 10 (.int .i64 0) rfl e0 ?_;exact ya rfl rfl ⟨Below.refl _ _, Left.of rfl⟩
   · intro vs X wq K;obtain ⟨_, e1, k1⟩ := K.dep 1 rfl rfl rfl;refine zn 11 (.bool true) rfl e1 ?_;exact zz rfl ⟨Below.refl _ _, Left.of rfl⟩
   · intro vs X wq K;have LE := K.1;obtain ⟨_, e2, k2⟩ := K.dep 2 rfl rfl rfl;refine zn 12 (.bool true) rfl e2 ?_;exact jf rfl (zm Tryz.underlying28 rfl yp rfl (BZ.ext ((Ext.refl No _).drew.trans LE) (fun h ↦ h.elim)) rfl ⟨Below.refl _ _, Left.of rfl⟩)
   · intro vs X wq K;have XN := K.2.1;obtain ⟨_, e2, k2⟩ := K.dep 2 rfl rfl rfl;refine zn 12 (.bool true) rfl e2 (jf rfl (zc en20 rfl ((oe 2 _ (by decide) (by decide)).mono ?_)));rintro e w2 ⟨A5, c5, rfl, hO, hb⟩;exact ⟨_, rfl, hb, ⟨(A5, c5), rfl, Per.own8X hO XN⟩⟩
   · intro vs X wq K;have XN := K.2.1;obtain ⟨⟨A5, c5⟩, e4, k4⟩ := K.dep 4 rfl rfl rfl;refine zn 14 (.agg #[.bool (decide ((2 : Int) < 0)), .slice A5 (tens 2).length c5]) rfl e4 ?_;obtain ⟨_, e2, k2⟩ := K.dep 2 rfl rfl rfl;refine zn 12 (.bool true) rfl e2 (jf rfl (zc en19 rfl ((rl_intv _ A5 c5 2 (k4.here) (ht 2 (by decide))).mono ?_)));rintro e w2 ⟨A6, c6, rfl, hO, hb⟩
     exact ⟨_, rfl, hb, ⟨(A6, c6), rfl, Per.own hO XN⟩⟩
   · intro vs X wq K;have LE := K.1;obtain ⟨_, e3, k3⟩ := K.dep 3 rfl rfl rfl;refine zn 13 (.agg #[.int .i64 2, .bool false, .bool (decide (2 < 0)), .slice A4 (limbs 2).length c4, .int .u64 0, .string ⟨#[]⟩, .slice none 0 0]) rfl e3 ?_;obtain ⟨⟨A6, c6⟩, e5, k5⟩ := K.dep 5 rfl rfl rfl
     refine zn 15 (.agg #[.int .i64 2, .bool false, .bool (decide (2 < 0)), .slice A6 (limbs 2).length c6, .int .u64 0, .string ⟨#[]⟩, .slice none 0 0]) rfl e5 ?_;obtain ⟨_, e2, k2⟩ := K.dep 2 rfl rfl rfl
     refine zn 12 (.bool true) rfl e2 (jf rfl (zc en21 rfl ((rl_is _ A4 A6 c4 c6 (decide ((2 : Int) < 0)) (limbs 2) (Per.nums0 hN4 _ ((Ext.refl No _).drew.trans LE)) (k5.here) hlb).mono ?_)));rintro e w2 ⟨rfl, hb⟩;exact ⟨_, rfl, hb, Left.of rfl⟩
   · intro vs X wq K;obtain ⟨_, e2, k2⟩ := K.dep 2 rfl rfl rfl;refine zn 12 (.bool true) rfl e2 ?_;obtain ⟨_, e6, k6⟩ := K.dep 6 rfl rfl rfl;refine zn 16 (.bool true) rfl e6 ?_;exact zq rfl rfl ⟨Below.refl _ _, Left.of rfl⟩
   · intro vs X wq K;obtain ⟨_, e7, k7⟩ := K.dep 7 rfl rfl rfl;refine zn 17 (.bool true) rfl e7 ?_;exact zz rfl ⟨Below.refl _ _, Left.of rfl⟩
   · intro vs X wq K;obtain ⟨_, e8, k8⟩ := K.dep 8 rfl rfl rfl;refine zn 18 (.bool true) rfl e8 (jf rfl (zc en23 rfl ((rl_strv _ ⟨#[97, 39, 10, 200]⟩).mono ?_)));rintro e w2 ⟨rfl, hb⟩;exact ⟨_, rfl, hb, Left.of rfl⟩
   · intro vs X wq K;obtain ⟨_, e9, k9⟩ := K.dep 9 rfl rfl rfl;refine zn 19 (.agg #[.int .i64 4, .bool false, .bool false, .slice none 0 0, .int .u64 0, .string ⟨#[97, 39, 10, 200]⟩, .slice none 0 0]) rfl e9 ?_;obtain ⟨_, e8, k8⟩ := K.dep 8 rfl rfl rfl;refine zn 18 (.bool true) rfl e8 (jf rfl (zc en22 rfl ((quote_k _).mono ?_)));rintro e w2 ⟨rfl, hb⟩
     exact ⟨_, rfl, hb, Left.of rfl⟩
   · intro vs X wq K;obtain ⟨_, e10, k10⟩ := K.dep 10 rfl rfl rfl;refine zn 20 (.string ⟨#[39, 97, 92, 39, 92, 110, 92, 120, 99, 56, 39]⟩) rfl e10 ?_;obtain ⟨_, e8, k8⟩ := K.dep 8 rfl rfl rfl;refine zn 18 (.bool true) rfl e8 ?_
     exact jf rfl (kw rfl rfl ⟨Below.refl _ _, Left.of (by simp only [bytes_list]; rfl : (.bool ((⟨#[39, 97, 92, 39, 92, 110, 92, 120, 99, 56, 39]⟩ : ByteArray).toList == (⟨#[39, 97, 92, 39, 92, 110, 92, 120, 99, 56, 39]⟩ : ByteArray).toList) : Value) = _)⟩)
   · intro vs X wq K;obtain ⟨_, e8, k8⟩ := K.dep 8 rfl rfl rfl;refine zn 18 (.bool true) rfl e8 ?_;obtain ⟨_, e11, k11⟩ := K.dep 11 rfl rfl rfl;refine zn 21 (.bool true) rfl e11 ?_;exact zq rfl rfl ⟨Below.refl _ _, Left.of rfl⟩
   · intro vs X wq K;obtain ⟨_, e12, k12⟩ := K.dep 12 rfl rfl rfl;refine zn 22 (.bool true) rfl e12 ?_;exact zz rfl ⟨Below.refl _ _, Left.of rfl⟩
   · intro vs X wq K;obtain ⟨_, e13, k13⟩ := K.dep 13 rfl rfl rfl;refine zn 23 (.bool true) rfl e13 (jf rfl (zc en23 rfl ((rl_strv _ ⟨#[97]⟩).mono ?_)));rintro e w2 ⟨rfl, hb⟩;exact ⟨_, rfl, hb, Left.of rfl⟩
   · intro vs X wq K;obtain ⟨_, e14, k14⟩ := K.dep 14 rfl rfl rfl;refine zn 24 (.agg #[.int .i64 4, .bool false, .bool false, .slice none 0 0, .int .u64 0, .string ⟨#[97]⟩, .slice none 0 0]) rfl e14 ?_;obtain ⟨_, e13, k13⟩ := K.dep 13 rfl rfl rfl;refine zn 23 (.bool true) rfl e13 (jf rfl (zc en13 rfl ((hash_k _).mono ?_)));rintro e w2 ⟨rfl, hb⟩;exact ⟨_, rfl, hb, Left.of rfl⟩
   · intro vs X wq K;obtain ⟨_, e15, k15⟩ := K.dep 15 rfl rfl rfl;refine zn 25 (.int .i64 129) rfl e15 ?_;obtain ⟨_, e13, k13⟩ := K.dep 13 rfl rfl rfl;refine zn 23 (.bool true) rfl e13 ?_;exact jf rfl (ya rfl rfl ⟨Below.refl _ _, Left.of rfl⟩)
   · intro vs X wq K;obtain ⟨_, e13, k13⟩ := K.dep 13 rfl rfl rfl;refine zn 23 (.bool true) rfl e13 ?_;obtain ⟨_, e16, k16⟩ := K.dep 16 rfl rfl rfl;refine zn 26 (.bool true) rfl e16 ?_;exact zq rfl rfl ⟨Below.refl _ _, Left.of rfl⟩
   · intro vs X wq K;obtain ⟨_, e17, k17⟩ := K.dep 17 rfl rfl rfl;refine zn 27 (.bool true) rfl e17 ?_;exact zz rfl ⟨Below.refl _ _, Left.of rfl⟩
   · intro vs X wq K;obtain ⟨_, e18, k18⟩ := K.dep 18 rfl rfl rfl;refine zn 28 (.bool true) rfl e18 (jf rfl (zc en24 rfl ((float_k _).mono ?_)));rintro e w2 ⟨rfl, hb⟩;exact ⟨_, rfl, hb, Left.of rfl⟩
   · intro vs X wq K;obtain ⟨_, e18, k18⟩ := K.dep 18 rfl rfl rfl;refine zn 28 (.bool true) rfl e18 (jf rfl (zc en24 rfl ((float_k _).mono ?_)));rintro e w2 ⟨rfl, hb⟩;exact ⟨_, rfl, hb, Left.of rfl⟩
   · intro vs X wq K;obtain ⟨_, e19, k19⟩ := K.dep 19 rfl rfl rfl;refine zn 29 (.agg #[.int .i64 3, .bool false, .bool false, .slice none 0 0, .int .u64 9221120237041090560, .string ⟨#[]⟩, .slice none 0 0]) rfl e19 ?_;obtain ⟨_, e20, k20⟩ := K.dep 20 rfl rfl rfl
     refine zn 30 (.agg #[.int .i64 3, .bool false, .bool false, .slice none 0 0, .int .u64 9221120237041090560, .string ⟨#[]⟩, .slice none 0 0]) rfl e20 ?_;obtain ⟨_, e18, k18⟩ := K.dep 18 rfl rfl rfl;refine zn 28 (.bool true) rfl e18 (jf rfl (zc en8 rfl ((equal_k _).mono ?_)));rintro e w2 ⟨rfl, hb⟩;exact ⟨_, rfl, hb, Left.of rfl⟩
   · intro vs X wq K;obtain ⟨_, e21, k21⟩ := K.dep 21 rfl rfl rfl;refine zn 31 (.bool false) rfl e21 ?_;obtain ⟨_, e18, k18⟩ := K.dep 18 rfl rfl rfl;refine zn 28 (.bool true) rfl e18 ?_;exact jf rfl (yi rfl ⟨Below.refl _ _, Left.of rfl⟩)
   · intro vs X wq K;obtain ⟨_, e18, k18⟩ := K.dep 18 rfl rfl rfl;refine zn 28 (.bool true) rfl e18 ?_;obtain ⟨_, e22, k22⟩ := K.dep 22 rfl rfl rfl;refine zn 32 (.bool true) rfl e22 ?_;exact zq rfl rfl ⟨Below.refl _ _, Left.of rfl⟩
   · intro vs X wq K;obtain ⟨_, e23, k23⟩ := K.dep 23 rfl rfl rfl;refine zn 33 (.bool true) rfl e23 ?_;exact qd rfl ⟨Below.refl _ _, Left.of rfl⟩
 intro vs w5 LE AO AL AF AA;have hbd : Below (wC).heap.size (wC) w5 := (((Ext.refl No (wC)).drew).trans LE).toBelow;obtain ⟨_, e24, k24⟩ := AL.2.2.2.2.2.2.2.2.2.2.2.2.2.2.2.2.2.2.2.2.2.2.2.2.1;refine gg (τ := [(0, .bool true)]) ⟨congrArg some e24, trivial⟩ ?_;clear AL AF AA AO;refine zh (zl (zk (rs := [.tmp 0]) (vs := [_]) rfl ⟨rfl, trivial⟩ ?_))
 exact ⟨rfl, (E7.trans (Ext.of_below hbd No)).toBelow⟩
end
end Go.Proofs.YtaleikoeklemmaaGreatDoor
namespace Go.Proofs.YtaleikoeklemmaaGreatDoor
open Go.RowKit
set_option maxRecDepth 100000
attribute [local irreducible] OW RS
theorem at_bool {f : FuncId} {args : Array Value} {w : World} {a b : Bool} (e : a = b) (h : Calls Tryz.prog f args w fun e w' => e = .returned (.bool a) ∧ Below w.heap.size w w') : Calls Tryz.prog f args w fun e w' => e = .returned (.bool b) ∧ Below w.heap.size w w' := by
 subst e;exact h
theorem at_ord {f : FuncId} {args : Array Value} {w : World} {a b : Int × Bool × Int} (e : a = b) (h : Calls Tryz.prog f args w fun e w' => e = .returned (.tuple #[.int .i64 a.1, .bool a.2.1, .int .i64 a.2.2]) ∧ Below w.heap.size w w') : Calls Tryz.prog f args w fun e w' => e = .returned (.tuple #[.int .i64 b.1, .bool b.2.1, .int .i64 b.2.2]) ∧ Below w.heap.size w w' := by
 subst e;exact h
section
variable (w : World) (ua ub : PV) (A1 B1 A2 B2 : Option Addr) (c1 d1 c2 d2 : Nat) (hx : Nums w A1 ua.xs) (hl : ua.xs.length ≤ 9223372036854775807) (ha : ua.bits < 18446744073709551616) (hy : Nums w A2 ub.xs) (hl' : ub.xs.length ≤ 9223372036854775807) (hb0 : ub.bits < 18446744073709551616)
include hx hl hy hl'
omit hy hl' in
theorem pv_rgood (r : Bool) (hr : PV.good ua = r) : Calls Tryz.prog 15 #[.agg #[.int .i64 ua.k, .bool ua.yes, .bool ua.neg, .slice A1 ua.xs.length c1, .int .u64 ((ua.bits : Nat) : Int), .string ua.s, .slice B1 ua.ni d1]] w fun e w' => e = .returned (.bool r) ∧ Below w.heap.size w w' := by
 subst hr;exact rpgood_any w ua.k ua.yes ua.neg A1 B1 ua.xs c1 ua.bits ua.ni d1 ua.s hx hl
theorem pv_both1 (g1 : ua.good = false) : Calls Tryz.prog 7 #[.agg #[.int .i64 ua.k, .bool ua.yes, .bool ua.neg, .slice A1 ua.xs.length c1, .int .u64 ((ua.bits : Nat) : Int), .string ua.s, .slice B1 ua.ni d1], .agg #[.int .i64 ub.k, .bool ub.yes, .bool ub.neg, .slice A2 ub.xs.length c2, .int .u64 ((ub.bits : Nat) : Int), .string ub.s, .slice B2 ub.ni d2]] w fun e w' => e = .returned (.bool false) ∧ Below w.heap.size w w' := by
 have _ := hx; have _ := hl; have _ := hy; have _ := hl';refine zr Tryz.func7 rfl Tryz.ntmps7 rfl ?_;have HF : Per (No) w (fun _ => True) := Per.true_;have LW := erx (No) w;have XLW := grx (No) w;have E := erx (No) w;replace HF := HF.on E;replace LW := LW.step E XLW;replace E := erx (No) w;replace HF := HF.and (Per.nums0 hx);replace HF := HF.on E;replace LW := LW.step E XLW
 replace E := erx (No) w;replace HF := HF.and (Per.nums0 hy);refine srx (za rfl (zv rfl ?_));intro gb1 w2 Bb1 Eb1 Gb1;have Gb1 : _ ≤ gb1 := Nat.le_trans E.size Gb1;have GLb1 := Nat.le_trans LW.size Gb1;replace E := E.trans Eb1.no;replace HF := HF.cons (zg Gb1);replace E := E.cons (some gb1);replace XLW := Mut.grow XLW (fun k e => Or.inr (Nat.le_trans LW.size ((zg Gb1) k e)))
 replace HF := HF.on E;replace LW := LW.step E XLW;have SB : ∀ q9, No q9 → Mut [(some gb1)] q9 := (Mut.skip Mut.nil_);replace HF := HF.less SB;replace XLW := fun k h => XLW k (SB k h);clear SB;replace E := erx (No) w2;replace HF := HF.and (Per.blkN Bb1 NotIn.nil);refine za rfl (zv rfl ?_);intro gb3 w4 Bb3 Eb3 Gb3;have Gb3 : _ ≤ gb3 := Nat.le_trans E.size Gb3
 have GLb3 := Nat.le_trans LW.size Gb3;replace E := E.trans Eb3.no;replace HF := HF.cons (zg Gb3);replace E := E.cons (some gb3);replace XLW := Mut.grow XLW (fun k e => Or.inr (Nat.le_trans LW.size ((zg Gb3) k e)));replace HF := HF.on E;replace LW := LW.step E XLW;have SB : ∀ q9, No q9 → Mut [(some gb3)] q9 := (Mut.skip Mut.nil_);replace HF := HF.less SB
 replace XLW := fun k h => XLW k (SB k h);clear SB;replace E := erx (No) w4;replace HF := HF.and (Per.blkN Bb3 NotIn.nil);refine anx rfl (srx (za rfl (zm Tryz.underlying28 rfl yp rfl (HF.on E).here.1.2 rfl (za rfl (zc en15 rfl ((pv_rgood _ ua A1 B1 c1 d1 (HF.on E).here.1.1.1.2 hl false g1).mono ?_))))));rintro e w5 ⟨rfl, hb⟩;refine ⟨_, rfl, ?_⟩;replace E := blx E hb
 refine mvx rfl (za rfl (zd rfl (za rfl (zd rfl (za rfl (zi rfl rfl (anx rfl (zl (zk (rs := [.tmp 4]) (vs := [_]) rfl ⟨rfl, trivial⟩ ?_)))))))));exact ⟨rfl, (LW.step E XLW).toBelow⟩
theorem pv_both2 (g1 : ua.good = true) (r : Bool) (g2 : ub.good = r) : Calls Tryz.prog 7 #[.agg #[.int .i64 ua.k, .bool ua.yes, .bool ua.neg, .slice A1 ua.xs.length c1, .int .u64 ((ua.bits : Nat) : Int), .string ua.s, .slice B1 ua.ni d1], .agg #[.int .i64 ub.k, .bool ub.yes, .bool ub.neg, .slice A2 ub.xs.length c2, .int .u64 ((ub.bits : Nat) : Int), .string ub.s, .slice B2 ub.ni d2]] w fun e w' => e = .returned (.bool r) ∧ Below w.heap.size w w' := by
 have _ := hx; have _ := hl; have _ := hy; have _ := hl';refine zr Tryz.func7 rfl Tryz.ntmps7 rfl ?_;have HF : Per (No) w (fun _ => True) := Per.true_;have LW := erx (No) w;have XLW := grx (No) w;have E := erx (No) w;replace HF := HF.on E;replace LW := LW.step E XLW;replace E := erx (No) w;replace HF := HF.and (Per.nums0 hx);replace HF := HF.on E;replace LW := LW.step E XLW
 replace E := erx (No) w;replace HF := HF.and (Per.nums0 hy);refine srx (za rfl (zv rfl ?_));intro gb1 w2 Bb1 Eb1 Gb1;have Gb1 : _ ≤ gb1 := Nat.le_trans E.size Gb1;have GLb1 := Nat.le_trans LW.size Gb1;replace E := E.trans Eb1.no;replace HF := HF.cons (zg Gb1);replace E := E.cons (some gb1);replace XLW := Mut.grow XLW (fun k e => Or.inr (Nat.le_trans LW.size ((zg Gb1) k e)))
 replace HF := HF.on E;replace LW := LW.step E XLW;have SB : ∀ q9, No q9 → Mut [(some gb1)] q9 := (Mut.skip Mut.nil_);replace HF := HF.less SB;replace XLW := fun k h => XLW k (SB k h);clear SB;replace E := erx (No) w2;replace HF := HF.and (Per.blkN Bb1 NotIn.nil);refine za rfl (zv rfl ?_);intro gb3 w4 Bb3 Eb3 Gb3;have Gb3 : _ ≤ gb3 := Nat.le_trans E.size Gb3
 have GLb3 := Nat.le_trans LW.size Gb3;replace E := E.trans Eb3.no;replace HF := HF.cons (zg Gb3);replace E := E.cons (some gb3);replace XLW := Mut.grow XLW (fun k e => Or.inr (Nat.le_trans LW.size ((zg Gb3) k e)));replace HF := HF.on E;replace LW := LW.step E XLW;have SB : ∀ q9, No q9 → Mut [(some gb3)] q9 := (Mut.skip Mut.nil_);replace HF := HF.less SB
 replace XLW := fun k h => XLW k (SB k h);clear SB;replace E := erx (No) w4;replace HF := HF.and (Per.blkN Bb3 NotIn.nil);refine anx rfl (srx (za rfl (zm Tryz.underlying28 rfl yp rfl (HF.on E).here.1.2 rfl (za rfl (zc en15 rfl ((pv_rgood _ ua A1 B1 c1 d1 (HF.on E).here.1.1.1.2 hl true g1).mono ?_))))));rintro e w5 ⟨rfl, hb⟩;refine ⟨_, rfl, ?_⟩;replace E := blx E hb
 refine mvx rfl (onx rfl (zm Tryz.underlying28 rfl yp rfl (HF.on E).here.2 rfl (onx rfl (zc en15 rfl ((pv_rgood _ ub A2 B2 c2 d2 (HF.on E).here.1.1.2 hl' r g2).mono ?_)))));rintro e w6 ⟨rfl, hb⟩;refine ⟨_, rfl, ?_⟩;replace E := blx E hb;refine za rfl (zq rfl rfl (anx rfl (zl (zk (rs := [.tmp 4]) (vs := [_]) rfl ⟨rfl, trivial⟩ ?_))))
 exact ⟨rfl, (LW.step E XLW).toBelow⟩
theorem pv_both (r : Bool) (hr : (ua.good && ub.good) = r) : Calls Tryz.prog 7 #[.agg #[.int .i64 ua.k, .bool ua.yes, .bool ua.neg, .slice A1 ua.xs.length c1, .int .u64 ((ua.bits : Nat) : Int), .string ua.s, .slice B1 ua.ni d1], .agg #[.int .i64 ub.k, .bool ub.yes, .bool ub.neg, .slice A2 ub.xs.length c2, .int .u64 ((ub.bits : Nat) : Int), .string ub.s, .slice B2 ub.ni d2]] w fun e w' => e = .returned (.bool r) ∧ Below w.heap.size w w' := by
 cases g1 : ua.good
 · rw [g1] at hr;subst hr;exact pv_both1 w ua ub A1 B1 A2 B2 c1 d1 c2 d2 hx hl hy hl' g1
 · rw [g1, Bool.true_and] at hr;exact pv_both2 w ua ub A1 B1 A2 B2 c1 d1 c2 d2 hx hl hy hl' g1 r hr
include ha hb0
theorem po_bad (hr : (ua.good && ub.good) = false) : Calls Tryz.prog 3 #[.agg #[.int .i64 ua.k, .bool ua.yes, .bool ua.neg, .slice A1 ua.xs.length c1, .int .u64 ((ua.bits : Nat) : Int), .string ua.s, .slice B1 ua.ni d1], .agg #[.int .i64 ub.k, .bool ub.yes, .bool ub.neg, .slice A2 ub.xs.length c2, .int .u64 ((ub.bits : Nat) : Int), .string ub.s, .slice B2 ub.ni d2]] w fun e w' => e = .returned (.bool true) ∧ Below w.heap.size w w' := by
 have _ := hx; have _ := hl; have _ := hy; have _ := hl';refine zr Tryz.func3 rfl Tryz.ntmps3 rfl ?_;have HF : Per (No) w (fun _ => True) := Per.true_;have LW := erx (No) w;have XLW := grx (No) w;have E := erx (No) w;replace HF := HF.on E;replace LW := LW.step E XLW;replace E := erx (No) w;replace HF := HF.and (Per.nums0 hx);replace HF := HF.on E;replace LW := LW.step E XLW
 replace E := erx (No) w;replace HF := HF.and (Per.nums0 hy);have e1 : eqV ua ub = false := by unfold eqV; rw [hr]; rfl
 have e2 : je ua ub = false := by unfold je; rw [hr]; rfl
 have e3 : vb ua ub = (0, false, 3) := by unfold vb; rw [hr]; rfl
 refine srx (za rfl (zv rfl ?_));intro gb1 w2 Bb1 Eb1 Gb1;have Gb1 : _ ≤ gb1 := Nat.le_trans E.size Gb1;have GLb1 := Nat.le_trans LW.size Gb1;replace E := E.trans Eb1.no;replace HF := HF.cons (zg Gb1);replace E := E.cons (some gb1);replace XLW := Mut.grow XLW (fun k e => Or.inr (Nat.le_trans LW.size ((zg Gb1) k e)));replace HF := HF.on E;replace LW := LW.step E XLW
 have SB : ∀ q9, No q9 → Mut [(some gb1)] q9 := (Mut.skip Mut.nil_);replace HF := HF.less SB;replace XLW := fun k h => XLW k (SB k h);clear SB;replace E := erx (No) w2;replace HF := HF.and (Per.blkN Bb1 NotIn.nil);refine za rfl (zv rfl ?_);intro gb3 w4 Bb3 Eb3 Gb3;have Gb3 : _ ≤ gb3 := Nat.le_trans E.size Gb3;have GLb3 := Nat.le_trans LW.size Gb3;replace E := E.trans Eb3.no
 replace HF := HF.cons (zg Gb3);replace E := E.cons (some gb3);replace XLW := Mut.grow XLW (fun k e => Or.inr (Nat.le_trans LW.size ((zg Gb3) k e)));replace HF := HF.on E;replace LW := LW.step E XLW;have SB : ∀ q9, No q9 → Mut [(some gb3)] q9 := (Mut.skip Mut.nil_);replace HF := HF.less SB;replace XLW := fun k h => XLW k (SB k h);clear SB;replace E := erx (No) w4
 replace HF := HF.and (Per.blkN Bb3 NotIn.nil);refine anx rfl (zj (srx (za rfl (zc en5 rfl ((pl_known _).mono ?_)))));rintro e w5 ⟨rfl, hb⟩;refine ⟨_, rfl, ?_⟩;replace E := blx E hb
 refine za rfl (yi rfl (rnx (zt rfl (zp (zh (srx (za rfl (zm Tryz.underlying28 rfl yp rfl (HF.on E).here.1.2 rfl (za rfl (zm Tryz.underlying28 rfl yp rfl (HF.on E).here.2 rfl (za rfl (zc en6 rfl ((at_ord e3 (pl_orders _ ua ub A1 B1 A2 B2 c1 d1 c2 d2 (HF.on E).here.1.1.1.2 hl ha (HF.on E).here.1.1.2 hl' hb0)).mono ?_)))))))))))))
 rintro e w6 ⟨rfl, hb⟩;refine ⟨_, rfl, ?_⟩;replace E := blx E hb
 refine mvx rfl (za rfl (zo rfl rfl (za rfl (zo rfl rfl (za rfl (zo rfl rfl (avx rfl (avx rfl (anx rfl (zj (srx (za rfl (zm Tryz.underlying28 rfl yp rfl (HF.on E).here.1.2 rfl (za rfl (zm Tryz.underlying28 rfl yp rfl (HF.on E).here.2 rfl (za rfl (zc en7 rfl ((pv_both _ ua ub A1 B1 A2 B2 c1 d1 c2 d2 (HF.on E).here.1.1.1.2 hl (HF.on E).here.1.1.2 hl' false hr).mono ?_))))))))))))))))))
 rintro e w7 ⟨rfl, hb⟩;refine ⟨_, rfl, ?_⟩;replace E := blx E hb
 refine za rfl (yi rfl (rnx (yb rfl (srx (za rfl (zm Tryz.underlying28 rfl yp rfl (HF.on E).here.1.2 rfl (za rfl (zm Tryz.underlying28 rfl yp rfl (HF.on E).here.2 rfl (za rfl (zc en8 rfl ((at_bool e1 (pl_equal _ ua ub A1 B1 A2 B2 c1 d1 c2 d2 (HF.on E).here.1.1.1.2 hl ha (HF.on E).here.1.1.2 hl' hb0)).mono ?_)))))))))));rintro e w8 ⟨rfl, hb⟩
 refine ⟨_, rfl, ?_⟩;replace E := blx E hb;refine za rfl (yi rfl (mvx rfl (onx rfl (zm Tryz.underlying28 rfl yp rfl (HF.on E).here.1.2 rfl (onx rfl (zm Tryz.underlying28 rfl yp rfl (HF.on E).here.2 rfl (onx rfl (zc en9 rfl ((at_bool e2 (pl_same _ ua ub A1 B1 A2 B2 c1 d1 c2 d2 (HF.on E).here.1.1.1.2 hl ha (HF.on E).here.1.1.2 hl' hb0)).mono ?_)))))))))
 rintro e w9 ⟨rfl, hb⟩;refine ⟨_, rfl, ?_⟩;replace E := blx E hb
 refine onx rfl (yi rfl (za rfl (zq rfl rfl (mvx rfl (onx rfl (zz rfl (onx rfl (ya rfl rfl (za rfl (zq rfl rfl (mvx rfl (onx rfl (zz rfl (onx rfl (yi rfl (za rfl (zq rfl rfl (mvx rfl (onx rfl (zz rfl (onx rfl (ya rfl rfl (za rfl (zq rfl rfl (anx rfl (zl (zf (zk (rs := [.tmp 4]) (vs := [_]) rfl ⟨rfl, trivial⟩ ?_))))))))))))))))))))))))))))
 exact ⟨rfl, (LW.step E XLW).toBelow⟩
theorem po_ok (g1 : ua.good = true) (g2 : ub.good = true) : Calls Tryz.prog 3 #[.agg #[.int .i64 ua.k, .bool ua.yes, .bool ua.neg, .slice A1 ua.xs.length c1, .int .u64 ((ua.bits : Nat) : Int), .string ua.s, .slice B1 ua.ni d1], .agg #[.int .i64 ub.k, .bool ub.yes, .bool ub.neg, .slice A2 ub.xs.length c2, .int .u64 ((ub.bits : Nat) : Int), .string ub.s, .slice B2 ub.ni d2]] w fun e w' => e = .returned (.bool true) ∧ Below w.heap.size w w' := by
 have _ := hx; have _ := hl; have _ := hy; have _ := hl';refine zr Tryz.func3 rfl Tryz.ntmps3 rfl ?_;have HF : Per (No) w (fun _ => True) := Per.true_;have LW := erx (No) w;have XLW := grx (No) w;have E := erx (No) w;replace HF := HF.on E;replace LW := LW.step E XLW;replace E := erx (No) w;replace HF := HF.and (Per.nums0 hx);replace HF := HF.on E;replace LW := LW.step E XLW
 replace E := erx (No) w;replace HF := HF.and (Per.nums0 hy);refine srx (za rfl (zv rfl ?_));intro gb1 w2 Bb1 Eb1 Gb1;have Gb1 : _ ≤ gb1 := Nat.le_trans E.size Gb1;have GLb1 := Nat.le_trans LW.size Gb1;replace E := E.trans Eb1.no;replace HF := HF.cons (zg Gb1);replace E := E.cons (some gb1);replace XLW := Mut.grow XLW (fun k e => Or.inr (Nat.le_trans LW.size ((zg Gb1) k e)))
 replace HF := HF.on E;replace LW := LW.step E XLW;have SB : ∀ q9, No q9 → Mut [(some gb1)] q9 := (Mut.skip Mut.nil_);replace HF := HF.less SB;replace XLW := fun k h => XLW k (SB k h);clear SB;replace E := erx (No) w2;replace HF := HF.and (Per.blkN Bb1 NotIn.nil);refine za rfl (zv rfl ?_);intro gb3 w4 Bb3 Eb3 Gb3;have Gb3 : _ ≤ gb3 := Nat.le_trans E.size Gb3
 have GLb3 := Nat.le_trans LW.size Gb3;replace E := E.trans Eb3.no;replace HF := HF.cons (zg Gb3);replace E := E.cons (some gb3);replace XLW := Mut.grow XLW (fun k e => Or.inr (Nat.le_trans LW.size ((zg Gb3) k e)));replace HF := HF.on E;replace LW := LW.step E XLW;have SB : ∀ q9, No q9 → Mut [(some gb3)] q9 := (Mut.skip Mut.nil_);replace HF := HF.less SB
 replace XLW := fun k h => XLW k (SB k h);clear SB;replace E := erx (No) w4;replace HF := HF.and (Per.blkN Bb3 NotIn.nil);refine anx rfl (zj (srx (za rfl (zc en5 rfl ((pl_known _).mono ?_)))));rintro e w5 ⟨rfl, hb⟩;refine ⟨_, rfl, ?_⟩;replace E := blx E hb
 refine za rfl (yi rfl (rnx (zt rfl (zp (zh (srx (za rfl (zm Tryz.underlying28 rfl yp rfl (HF.on E).here.1.2 rfl (za rfl (zm Tryz.underlying28 rfl yp rfl (HF.on E).here.2 rfl (za rfl (zc en6 rfl ((pl_orders _ ua ub A1 B1 A2 B2 c1 d1 c2 d2 (HF.on E).here.1.1.1.2 hl ha (HF.on E).here.1.1.2 hl' hb0).mono ?_)))))))))))));rintro e w6 ⟨rfl, hb⟩
 refine ⟨_, rfl, ?_⟩;replace E := blx E hb
 refine mvx rfl (za rfl (zo rfl rfl (za rfl (zo rfl rfl (za rfl (zo rfl rfl (avx rfl (avx rfl (anx rfl (zj (srx (za rfl (zm Tryz.underlying28 rfl yp rfl (HF.on E).here.1.2 rfl (za rfl (zm Tryz.underlying28 rfl yp rfl (HF.on E).here.2 rfl (za rfl (zc en7 rfl ((pv_both _ ua ub A1 B1 A2 B2 c1 d1 c2 d2 (HF.on E).here.1.1.1.2 hl (HF.on E).here.1.1.2 hl' true (by rw [g1, g2]; rfl)).mono ?_))))))))))))))))))
 rintro e w7 ⟨rfl, hb⟩;refine ⟨_, rfl, ?_⟩;replace E := blx E hb
 refine za rfl (yi rfl (rnx (zt rfl (zp (zh (srx (za rfl (zm Tryz.underlying28 rfl yp rfl (HF.on E).here.1.2 rfl (za rfl (zm Tryz.underlying28 rfl yp rfl (HF.on E).here.2 rfl (za rfl (zc en10 rfl ((rl_orders _ ua ub A1 B1 A2 B2 c1 d1 c2 d2 (HF.on E).here.1.1.1.2 hl ha (HF.on E).here.1.1.2 hl' hb0 g1 g2).mono ?_)))))))))))))
 rintro e w8 ⟨rfl, hb⟩;refine ⟨_, rfl, ?_⟩;replace E := blx E hb;refine mvx rfl (za rfl (zo rfl rfl (za rfl (zo rfl rfl (za rfl (zo rfl rfl (avx rfl (avx rfl (anx rfl (zj ?_))))))))));have OY : ∀ q9, (Mut (zaq [])) q9 → q9 < (World.drew w8).heap.size → (No) q9 := fun k h _ => (Mut.none_) k h
 refine vc (No) Mut.none_ [] [] (zdv [Fx.of (.agg #[.int .i64 ua.k, .bool ua.yes, .bool ua.neg, .slice A1 ua.xs.length c1, .int .u64 ((ua.bits : Nat) : Int), .string ua.s, .slice B1 ua.ni d1]),
  Fx.of (.agg #[.int .i64 ub.k, .bool ub.yes, .bool ub.neg, .slice A2 ub.xs.length c2, .int .u64 ((ub.bits : Nat) : Int), .string ub.s, .slice B2 ub.ni d2]),
  Fx.of (.bool (eqV ua ub)),
  Fx.of (.agg #[.int .i64 ua.k, .bool ua.yes, .bool ua.neg, .slice A1 ua.xs.length c1, .int .u64 ((ua.bits : Nat) : Int), .string ua.s, .slice B1 ua.ni d1]),
  Fx.of (.agg #[.int .i64 ub.k, .bool ub.yes, .bool ub.neg, .slice A2 ub.xs.length c2, .int .u64 ((ub.bits : Nat) : Int), .string ub.s, .slice B2 ub.ni d2]),
  Fx.of (.bool (eqV ua ub)),
  Fx.of (.bool true),
  Fx.of (.bool true),
  Fx.of (.agg #[.int .i64 ua.k, .bool ua.yes, .bool ua.neg, .slice A1 ua.xs.length c1, .int .u64 ((ua.bits : Nat) : Int), .string ua.s, .slice B1 ua.ni d1]),
  Fx.of (.agg #[.int .i64 ub.k, .bool ub.yes, .bool ub.neg, .slice A2 ub.xs.length c2, .int .u64 ((ub.bits : Nat) : Int), .string ub.s, .slice B2 ub.ni d2]),
  Fx.of (.bool (je ua ub)),
  Fx.of (.agg #[.int .i64 ua.k, .bool ua.yes, .bool ua.neg, .slice A1 ua.xs.length c1, .int .u64 ((ua.bits : Nat) : Int), .string ua.s, .slice B1 ua.ni d1]),
  Fx.of (.agg #[.int .i64 ub.k, .bool ub.yes, .bool ub.neg, .slice A2 ub.xs.length c2, .int .u64 ((ub.bits : Nat) : Int), .string ub.s, .slice B2 ub.ni d2]),
  Fx.of (.bool (je ua ub)),
  Fx.of (.bool true),
  Fx.of (.bool true),
  Fx.of (.bool true),
  Fx.of (.int .i64 (vb ua ub).1),
  Fx.of (.int .i64 (vb ua ub).1),
  Fx.of (.bool true),
  Fx.of (.bool true),
  Fx.of (.bool true),
  Fx.of (.bool (vb ua ub).2.1),
  Fx.of (.bool (vb ua ub).2.1),
  Fx.of (.bool true),
  Fx.of (.bool true),
  Fx.of (.bool true),
  Fx.of (.int .i64 (vb ua ub).2.2),
  Fx.of (.int .i64 (vb ua ub).2.2),
  Fx.of (.bool true),
  Fx.of (.bool true),
  Fx.of (.bool true)]) mixed rfl trivial (fun _ h => by cases h) ?_ ?_
 · refine ⟨?_, ?_, ?_, ?_, ?_, ?_, ?_, ?_, ?_, ?_, ?_, ?_, ?_, ?_, ?_, ?_, ?_, ?_, ?_, ?_, ?_, ?_, ?_, ?_, ?_, ?_, ?_, ?_, ?_, ?_, ?_, ?_, trivial⟩
   · intro vs X wq K;have LE := K.1;exact zm Tryz.underlying28 rfl yp rfl (HF.on (E.drew.trans (LE.mono OY))).here.1.2 rfl ⟨Below.refl _ _, Left.of rfl⟩
   · intro vs X wq K;have LE := K.1;exact zm Tryz.underlying28 rfl yp rfl (HF.on (E.drew.trans (LE.mono OY))).here.2 rfl ⟨Below.refl _ _, Left.of rfl⟩
   · intro vs X wq K;have LE := K.1;obtain ⟨_, e0, k0⟩ := K.dep 0 rfl rfl rfl;refine zn 53 (.agg #[.int .i64 ua.k, .bool ua.yes, .bool ua.neg, .slice A1 ua.xs.length c1, .int .u64 ((ua.bits : Nat) : Int), .string ua.s, .slice B1 ua.ni d1]) rfl e0 ?_;obtain ⟨_, e1, k1⟩ := K.dep 1 rfl rfl rfl
     refine zn 54 (.agg #[.int .i64 ub.k, .bool ub.yes, .bool ub.neg, .slice A2 ub.xs.length c2, .int .u64 ((ub.bits : Nat) : Int), .string ub.s, .slice B2 ub.ni d2]) rfl e1 (zc en8 rfl ((pl_equal _ ua ub A1 B1 A2 B2 c1 d1 c2 d2 (HF.on (E.drew.trans (LE.mono OY))).here.1.1.1.2 hl ha (HF.on (E.drew.trans (LE.mono OY))).here.1.1.2 hl' hb0).mono ?_));rintro e w2 ⟨rfl, hb⟩
     exact ⟨_, rfl, hb, Left.of rfl⟩
   · intro vs X wq K;have LE := K.1;exact zm Tryz.underlying28 rfl yp rfl (HF.on (E.drew.trans (LE.mono OY))).here.1.2 rfl ⟨Below.refl _ _, Left.of rfl⟩
   · intro vs X wq K;have LE := K.1;exact zm Tryz.underlying28 rfl yp rfl (HF.on (E.drew.trans (LE.mono OY))).here.2 rfl ⟨Below.refl _ _, Left.of rfl⟩
   · intro vs X wq K;have LE := K.1;obtain ⟨_, e3, k3⟩ := K.dep 3 rfl rfl rfl;refine zn 56 (.agg #[.int .i64 ua.k, .bool ua.yes, .bool ua.neg, .slice A1 ua.xs.length c1, .int .u64 ((ua.bits : Nat) : Int), .string ua.s, .slice B1 ua.ni d1]) rfl e3 ?_;obtain ⟨_, e4, k4⟩ := K.dep 4 rfl rfl rfl
     refine zn 57 (.agg #[.int .i64 ub.k, .bool ub.yes, .bool ub.neg, .slice A2 ub.xs.length c2, .int .u64 ((ub.bits : Nat) : Int), .string ub.s, .slice B2 ub.ni d2]) rfl e4 (zc en11 rfl ((rl_equal _ ua ub A1 B1 A2 B2 c1 d1 c2 d2 (HF.on (E.drew.trans (LE.mono OY))).here.1.1.1.2 hl ha (HF.on (E.drew.trans (LE.mono OY))).here.1.1.2 hl' hb0 g1 g2).mono ?_));rintro e w2 ⟨rfl, hb⟩
     exact ⟨_, rfl, hb, Left.of rfl⟩
   · intro vs X wq K;obtain ⟨_, e2, k2⟩ := K.dep 2 rfl rfl rfl;refine zn 55 (.bool (eqV ua ub)) rfl e2 ?_;obtain ⟨_, e5, k5⟩ := K.dep 5 rfl rfl rfl;refine zn 58 (.bool (eqV ua ub)) rfl e5 ?_;exact zwq Tryz.underlying4 rfl rfl ⟨Below.refl _ _, Left.of (by simp)⟩
   · intro vs X wq K;obtain ⟨_, e6, k6⟩ := K.dep 6 rfl rfl rfl;refine zn 59 (.bool true) rfl e6 ?_;exact zz rfl ⟨Below.refl _ _, Left.of rfl⟩
   · intro vs X wq K;have LE := K.1;obtain ⟨_, e7, k7⟩ := K.dep 7 rfl rfl rfl;refine zn 60 (.bool true) rfl e7 ?_;exact jf rfl (zm Tryz.underlying28 rfl yp rfl (HF.on (E.drew.trans (LE.mono OY))).here.1.2 rfl ⟨Below.refl _ _, Left.of rfl⟩)
   · intro vs X wq K;have LE := K.1;obtain ⟨_, e7, k7⟩ := K.dep 7 rfl rfl rfl;refine zn 60 (.bool true) rfl e7 ?_;exact jf rfl (zm Tryz.underlying28 rfl yp rfl (HF.on (E.drew.trans (LE.mono OY))).here.2 rfl ⟨Below.refl _ _, Left.of rfl⟩)
   · intro vs X wq K;have LE := K.1;obtain ⟨_, e8, k8⟩ := K.dep 8 rfl rfl rfl;refine zn 61 (.agg #[.int .i64 ua.k, .bool ua.yes, .bool ua.neg, .slice A1 ua.xs.length c1, .int .u64 ((ua.bits : Nat) : Int), .string ua.s, .slice B1 ua.ni d1]) rfl e8 ?_;obtain ⟨_, e9, k9⟩ := K.dep 9 rfl rfl rfl
     refine zn 62 (.agg #[.int .i64 ub.k, .bool ub.yes, .bool ub.neg, .slice A2 ub.xs.length c2, .int .u64 ((ub.bits : Nat) : Int), .string ub.s, .slice B2 ub.ni d2]) rfl e9 ?_;obtain ⟨_, e7, k7⟩ := K.dep 7 rfl rfl rfl
     refine zn 60 (.bool true) rfl e7 (jf rfl (zc en9 rfl ((pl_same _ ua ub A1 B1 A2 B2 c1 d1 c2 d2 (HF.on (E.drew.trans (LE.mono OY))).here.1.1.1.2 hl ha (HF.on (E.drew.trans (LE.mono OY))).here.1.1.2 hl' hb0).mono ?_)));rintro e w2 ⟨rfl, hb⟩;exact ⟨_, rfl, hb, Left.of rfl⟩
   · intro vs X wq K;have LE := K.1;obtain ⟨_, e7, k7⟩ := K.dep 7 rfl rfl rfl;refine zn 60 (.bool true) rfl e7 ?_;exact jf rfl (zm Tryz.underlying28 rfl yp rfl (HF.on (E.drew.trans (LE.mono OY))).here.1.2 rfl ⟨Below.refl _ _, Left.of rfl⟩)
   · intro vs X wq K;have LE := K.1;obtain ⟨_, e7, k7⟩ := K.dep 7 rfl rfl rfl;refine zn 60 (.bool true) rfl e7 ?_;exact jf rfl (zm Tryz.underlying28 rfl yp rfl (HF.on (E.drew.trans (LE.mono OY))).here.2 rfl ⟨Below.refl _ _, Left.of rfl⟩)
   · intro vs X wq K;have LE := K.1;obtain ⟨_, e11, k11⟩ := K.dep 11 rfl rfl rfl;refine zn 64 (.agg #[.int .i64 ua.k, .bool ua.yes, .bool ua.neg, .slice A1 ua.xs.length c1, .int .u64 ((ua.bits : Nat) : Int), .string ua.s, .slice B1 ua.ni d1]) rfl e11 ?_;obtain ⟨_, e12, k12⟩ := K.dep 12 rfl rfl rfl
     refine zn 65 (.agg #[.int .i64 ub.k, .bool ub.yes, .bool ub.neg, .slice A2 ub.xs.length c2, .int .u64 ((ub.bits : Nat) : Int), .string ub.s, .slice B2 ub.ni d2]) rfl e12 ?_;obtain ⟨_, e7, k7⟩ := K.dep 7 rfl rfl rfl
     refine zn 60 (.bool true) rfl e7 (jf rfl (zc en12 rfl ((rl_same _ ua ub A1 B1 A2 B2 c1 d1 c2 d2 (HF.on (E.drew.trans (LE.mono OY))).here.1.1.1.2 hl ha (HF.on (E.drew.trans (LE.mono OY))).here.1.1.2 hl' hb0 g1 g2).mono ?_)));rintro e w2 ⟨rfl, hb⟩;exact ⟨_, rfl, hb, Left.of rfl⟩
   · intro vs X wq K;obtain ⟨_, e10, k10⟩ := K.dep 10 rfl rfl rfl;refine zn 63 (.bool (je ua ub)) rfl e10 ?_;obtain ⟨_, e13, k13⟩ := K.dep 13 rfl rfl rfl;refine zn 66 (.bool (je ua ub)) rfl e13 ?_;obtain ⟨_, e7, k7⟩ := K.dep 7 rfl rfl rfl;refine zn 60 (.bool true) rfl e7 ?_;exact jf rfl (zwq Tryz.underlying4 rfl rfl ⟨Below.refl _ _, Left.of (by simp)⟩)
   · intro vs X wq K;obtain ⟨_, e7, k7⟩ := K.dep 7 rfl rfl rfl;refine zn 60 (.bool true) rfl e7 ?_;obtain ⟨_, e14, k14⟩ := K.dep 14 rfl rfl rfl;refine zn 67 (.bool true) rfl e14 ?_;exact zq rfl rfl ⟨Below.refl _ _, Left.of rfl⟩
   · intro vs X wq K;obtain ⟨_, e15, k15⟩ := K.dep 15 rfl rfl rfl;refine zn 68 (.bool true) rfl e15 ?_;exact zz rfl ⟨Below.refl _ _, Left.of rfl⟩
   · intro vs X wq K;obtain ⟨_, e16, k16⟩ := K.dep 16 rfl rfl rfl;refine zn 69 (.bool true) rfl e16 ?_;exact jf rfl (zz rfl ⟨Below.refl _ _, Left.of rfl⟩)
   · intro vs X wq K;obtain ⟨_, e16, k16⟩ := K.dep 16 rfl rfl rfl;refine zn 69 (.bool true) rfl e16 ?_;exact jf rfl (zz rfl ⟨Below.refl _ _, Left.of rfl⟩)
   · intro vs X wq K;obtain ⟨_, e17, k17⟩ := K.dep 17 rfl rfl rfl;refine zn 70 (.int .i64 (vb ua ub).1) rfl e17 ?_;obtain ⟨_, e18, k18⟩ := K.dep 18 rfl rfl rfl;refine zn 71 (.int .i64 (vb ua ub).1) rfl e18 ?_;obtain ⟨_, e16, k16⟩ := K.dep 16 rfl rfl rfl;refine zn 69 (.bool true) rfl e16 ?_;exact jf rfl (ya rfl rfl ⟨Below.refl _ _, Left.of (by simp)⟩)
   · intro vs X wq K;obtain ⟨_, e16, k16⟩ := K.dep 16 rfl rfl rfl;refine zn 69 (.bool true) rfl e16 ?_;obtain ⟨_, e19, k19⟩ := K.dep 19 rfl rfl rfl;refine zn 72 (.bool true) rfl e19 ?_;exact zq rfl rfl ⟨Below.refl _ _, Left.of rfl⟩
   · intro vs X wq K;obtain ⟨_, e20, k20⟩ := K.dep 20 rfl rfl rfl;refine zn 73 (.bool true) rfl e20 ?_;exact zz rfl ⟨Below.refl _ _, Left.of rfl⟩
   · intro vs X wq K;obtain ⟨_, e21, k21⟩ := K.dep 21 rfl rfl rfl;refine zn 74 (.bool true) rfl e21 ?_;exact jf rfl (zz rfl ⟨Below.refl _ _, Left.of rfl⟩)
   · intro vs X wq K;obtain ⟨_, e21, k21⟩ := K.dep 21 rfl rfl rfl;refine zn 74 (.bool true) rfl e21 ?_;exact jf rfl (zz rfl ⟨Below.refl _ _, Left.of rfl⟩)
   · intro vs X wq K;obtain ⟨_, e22, k22⟩ := K.dep 22 rfl rfl rfl;refine zn 75 (.bool (vb ua ub).2.1) rfl e22 ?_;obtain ⟨_, e23, k23⟩ := K.dep 23 rfl rfl rfl;refine zn 76 (.bool (vb ua ub).2.1) rfl e23 ?_;obtain ⟨_, e21, k21⟩ := K.dep 21 rfl rfl rfl;refine zn 74 (.bool true) rfl e21 ?_;exact jf rfl (zwq Tryz.underlying4 rfl rfl ⟨Below.refl _ _, Left.of (by simp)⟩)
   · intro vs X wq K;obtain ⟨_, e21, k21⟩ := K.dep 21 rfl rfl rfl;refine zn 74 (.bool true) rfl e21 ?_;obtain ⟨_, e24, k24⟩ := K.dep 24 rfl rfl rfl;refine zn 77 (.bool true) rfl e24 ?_;exact zq rfl rfl ⟨Below.refl _ _, Left.of rfl⟩
   · intro vs X wq K;obtain ⟨_, e25, k25⟩ := K.dep 25 rfl rfl rfl;refine zn 78 (.bool true) rfl e25 ?_;exact zz rfl ⟨Below.refl _ _, Left.of rfl⟩
   · intro vs X wq K;obtain ⟨_, e26, k26⟩ := K.dep 26 rfl rfl rfl;refine zn 79 (.bool true) rfl e26 ?_;exact jf rfl (zz rfl ⟨Below.refl _ _, Left.of rfl⟩)
   · intro vs X wq K;obtain ⟨_, e26, k26⟩ := K.dep 26 rfl rfl rfl;refine zn 79 (.bool true) rfl e26 ?_;exact jf rfl (zz rfl ⟨Below.refl _ _, Left.of rfl⟩)
   · intro vs X wq K;obtain ⟨_, e27, k27⟩ := K.dep 27 rfl rfl rfl;refine zn 80 (.int .i64 (vb ua ub).2.2) rfl e27 ?_;obtain ⟨_, e28, k28⟩ := K.dep 28 rfl rfl rfl;refine zn 81 (.int .i64 (vb ua ub).2.2) rfl e28 ?_;obtain ⟨_, e26, k26⟩ := K.dep 26 rfl rfl rfl;refine zn 79 (.bool true) rfl e26 ?_;exact jf rfl (ya rfl rfl ⟨Below.refl _ _, Left.of (by simp)⟩)
   · intro vs X wq K;obtain ⟨_, e26, k26⟩ := K.dep 26 rfl rfl rfl;refine zn 79 (.bool true) rfl e26 ?_;obtain ⟨_, e29, k29⟩ := K.dep 29 rfl rfl rfl;refine zn 82 (.bool true) rfl e29 ?_;exact zq rfl rfl ⟨Below.refl _ _, Left.of rfl⟩
   · intro vs X wq K;obtain ⟨_, e30, k30⟩ := K.dep 30 rfl rfl rfl;refine zn 83 (.bool true) rfl e30 ?_;exact qd rfl ⟨Below.refl _ _, Left.of rfl⟩
 intro vs w9 LE AO AL AF AA;replace E := E.drew.trans (LE.mono OY);obtain ⟨_, e31, k31⟩ := AL.2.2.2.2.2.2.2.2.2.2.2.2.2.2.2.2.2.2.2.2.2.2.2.2.2.2.2.2.2.2.2.1;refine gg (τ := [(4, .bool true)]) ⟨congrArg some e31, trivial⟩ ?_;clear AL AF AA LE AO OY e31 k31;refine zh (zl (zk (rs := [.tmp 4]) (vs := [_]) rfl ⟨rfl, trivial⟩ ?_));exact ⟨rfl, (LW.step E XLW).toBelow⟩
theorem porders_law : Calls Tryz.prog 3 #[.agg #[.int .i64 ua.k, .bool ua.yes, .bool ua.neg, .slice A1 ua.xs.length c1, .int .u64 ((ua.bits : Nat) : Int), .string ua.s, .slice B1 ua.ni d1], .agg #[.int .i64 ub.k, .bool ub.yes, .bool ub.neg, .slice A2 ub.xs.length c2, .int .u64 ((ub.bits : Nat) : Int), .string ub.s, .slice B2 ub.ni d2]] w fun e w' => e = .returned (.bool true) ∧ Below w.heap.size w w' := by
 cases g1 : ua.good
 · exact po_bad w ua ub A1 B1 A2 B2 c1 d1 c2 d2 hx hl ha hy hl' hb0 (by rw [g1]; rfl)
 cases g2 : ub.good
 · exact po_bad w ua ub A1 B1 A2 B2 c1 d1 c2 d2 hx hl ha hy hl' hb0 (by rw [g1, g2]; rfl)
 · exact po_ok w ua ub A1 B1 A2 B2 c1 d1 c2 d2 hx hl ha hy hl' hb0 g1 g2
end
end Go.Proofs.YtaleikoeklemmaaGreatDoor

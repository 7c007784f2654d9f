/- Texts of this claim. -/
import Derived.Test.YtjhmifebmplahaaK8
namespace Go.Proofs.Ytjhmifebmplahaa
open Go.RowKit
set_option maxRecDepth 100000
attribute [local irreducible] OW RS
theorem ahas_any (w : World) (a k t s i : Nat) (hs : s < 16777216) (hi : i + 2 < s) : Calls Try.prog 66 #[.agg #[.int .i64 ((a : Nat) : Int), .int .i64 ((k : Nat) : Int), .int .i64 ((t : Nat) : Int), .int .i64 ((s : Nat) : Int)], .int .i64 ((i : Nat) : Int)] w fun e w' => e = .returned (.bool true) ∧ Below w.heap.size w w' := by
 refine yg Try.func66 rfl Try.ntmps66 rfl (srx (zb rfl (qr rfl ?_)));rintro g1 wA B1 E1 G1
 refine anx rfl (srx (mvx rfl (zb rfl (vm rfl rfl (zt 6 (.bool true) rfl ((by rw [decide_eq_true]; omega : (.bool (decide ((0 : Int) ≤ ((i : Nat) : Int))) : Value) = _)) (mvx rfl (onx rfl (ze rfl (onx rfl (zc Try.underlying105 rfl sz3 (by decide) rfl (onx rfl (zg Try.underlying3 rfl rfl B1 rfl (onx rfl (vq rfl rfl (zo (by omega)) (onx rfl (yl rfl rfl (zt 12 (.bool true) rfl ((by rw [decide_eq_true]; omega : (.bool (decide (((i : Nat) : Int) < ((s : Nat) : Int) - 2)) : Value) = _)) (zb rfl (yh rfl rfl (anx rfl (zx (zw (rs := [.tmp 4]) (vs := [_]) rfl ⟨rfl, trivial⟩ ?_))))))))))))))))))))))
 exact ⟨rfl, E1.toBelow⟩
section
variable (w : World) (A : Option Addr) (W : List Nat) (c n top a : Nat) (hM : MemA n w A W top) (hS : Seen W top a)
include hM hS
theorem akind_any : Calls Try.prog 62 #[memV A W c top, .int .i64 ((a : Nat) : Int)] w fun e w' => e = .returned (.tuple #[.int .i64 ((yd (wat W a) : Nat) : Int), .int .i64 0]) ∧ Below w.heap.size w w' := by
 refine yg Try.func62 rfl Try.ntmps62 rfl (srx (zb rfl (qr rfl ?_)));rintro g1 wA B1 E1 G1;have hsA := E1.size;refine avx rfl (anx rfl (srx (zb rfl (yj Try.underlying24 rfl qz rfl B1 rfl (mvx rfl (zb rfl (zq en59 rfl ((gu _ A W c n top a (hM.no E1) hS).mono ?_))))))));rintro e w1 ⟨rfl, hb⟩;refine ⟨_, rfl, ?_⟩;have E2 := E1.trans (Ext.of_below hb No)
 have hs2 := (Ext.of_below hb No).size;refine mvx rfl (zb rfl (zf rfl rfl (zb rfl (zf rfl rfl (zb rfl (qc xn ?_))))));rintro g6 wB B60 E3 G6;refine qd (yr ko rfl rfl B60 rfl rfl rfl ?_);rintro wC B6 E4
 refine anx rfl (zi (srx (mvx rfl (zb rfl (qe rfl (rnx (zy rfl (zp (zd (srx (zb rfl (zc Try.underlying105 rfl sz3 (by decide) rfl (zb rfl (zg Try.underlying3 rfl rfl B6 rfl (avx rfl (anx rfl (zx (zw (rs := [.tmp 4, .tmp 5]) (vs := [_, _]) rfl ⟨rfl, rfl, trivial⟩ ?_))))))))))))))))))
 exact ⟨rfl, (((E2.trans E3).noL w.heap.size).step E4 (fun q hq => Or.inl (show w.heap.size ≤ q by have := qp hq; omega))).below (fun _ h => h)⟩
theorem asize_any : Calls Try.prog 63 #[memV A W c top, .int .i64 ((a : Nat) : Int)] w fun e w' => e = .returned (.tuple #[.int .i64 ((ye (wat W a) : Nat) : Int), .int .i64 ((zv (wat W a) - 2 - ye (wat W a) : Nat) : Int), .int .i64 0]) ∧ Below w.heap.size w w' := by
 have h6 := hS.fit;have h9 := kj (wat W a);have h10 := jw (wat W a);refine yg Try.func63 rfl Try.ntmps63 rfl (srx (zb rfl (qr rfl ?_)));rintro g1 wA B1 E1 G1;have hsA := E1.size;refine avx rfl (avx rfl (anx rfl (srx (zb rfl (yj Try.underlying24 rfl qz rfl B1 rfl (mvx rfl (zb rfl (zq en59 rfl ((gu _ A W c n top a (hM.no E1) hS).mono ?_)))))))))
 rintro e w1 ⟨rfl, hb⟩;refine ⟨_, rfl, ?_⟩;have E2 := E1.trans (Ext.of_below hb No);have hs2 := (Ext.of_below hb No).size;refine mvx rfl (zb rfl (zf rfl rfl (zb rfl (zf rfl rfl (zb rfl (qc xn ?_))))));rintro g6 wB B60 E3 G6;refine qd (yr ko rfl rfl B60 rfl rfl rfl ?_);rintro wC B6 E4
 have B6b : Blk wC g6 105 #[.int .i64 ((a : Nat) : Int), .int .i64 ((yd (wat W a) : Nat) : Int), .int .i64 ((ye (wat W a) : Nat) : Int), .int .i64 ((zv (wat W a) : Nat) : Int)] := B6;refine anx rfl (zi (srx (mvx rfl (zb rfl (qe rfl (rnx (zy rfl (zp (zd (zi ?_))))))))));refine qt (No) Mut.none_ [] [] (ji [Fx.of (.pointer (some ⟨g6, 2, none⟩)),
  Fx.of (.int .i64 ((ye (wat W a) : Nat) : Int)),
  Fx.of (.pointer (some ⟨g6, 3, none⟩)),
  Fx.of (.int .i64 ((zv (wat W a) : Nat) : Int)),
  Fx.of (.int .i64 (((zv (wat W a) : Nat) : Int) - 2)),
  Fx.of (.pointer (some ⟨g6, 2, none⟩)),
  Fx.of (.int .i64 ((ye (wat W a) : Nat) : Int)),
  Fx.of (.int .i64 ((zv (wat W a) - 2 - ye (wat W a) : Nat) : Int)),
  Fx.of (.int .i64 ((ye (wat W a) : Nat) : Int)),
  Fx.of (.int .i64 ((zv (wat W a) - 2 - ye (wat W a) : Nat) : Int)),
  Fx.of (.int .i64 0)]) vf rfl trivial (fun _ h => by cases h) ?_ ?_
 · refine ⟨?_, ?_, ?_, ?_, ?_, ?_, ?_, ?_, ?_, ?_, ?_, trivial⟩
   · intro vs X wq K;exact zc Try.underlying105 rfl sz3 (by decide) rfl ⟨Below.refl _ _, Left.of rfl⟩
   · intro vs X wq K;have LE := K.1;obtain ⟨_, e0, k0⟩ := K.dep 0 rfl rfl rfl;refine za 17 (.pointer (some ⟨g6, 2, none⟩)) rfl e0 ?_;exact zg Try.underlying3 rfl rfl (yv LE B6b) rfl ⟨Below.refl _ _, Left.of rfl⟩
   · intro vs X wq K;exact zc Try.underlying105 rfl sz3 (by decide) rfl ⟨Below.refl _ _, Left.of rfl⟩
   · intro vs X wq K;have LE := K.1;obtain ⟨_, e2, k2⟩ := K.dep 2 rfl rfl rfl;refine za 19 (.pointer (some ⟨g6, 3, none⟩)) rfl e2 ?_;exact zg Try.underlying3 rfl rfl (yv LE B6b) rfl ⟨Below.refl _ _, Left.of rfl⟩
   · intro vs X wq K;obtain ⟨_, e3, k3⟩ := K.dep 3 rfl rfl rfl;refine za 20 (.int .i64 ((zv (wat W a) : Nat) : Int)) rfl e3 ?_;exact vq rfl rfl (zo (by omega)) ⟨Below.refl _ _, Left.of rfl⟩
   · intro vs X wq K;exact zc Try.underlying105 rfl sz3 (by decide) rfl ⟨Below.refl _ _, Left.of rfl⟩
   · intro vs X wq K;have LE := K.1;obtain ⟨_, e5, k5⟩ := K.dep 5 rfl rfl rfl;refine za 22 (.pointer (some ⟨g6, 2, none⟩)) rfl e5 ?_;exact zg Try.underlying3 rfl rfl (yv LE B6b) rfl ⟨Below.refl _ _, Left.of rfl⟩
   · intro vs X wq K;obtain ⟨_, e4, k4⟩ := K.dep 4 rfl rfl rfl;refine za 21 (.int .i64 (((zv (wat W a) : Nat) : Int) - 2)) rfl e4 ?_;obtain ⟨_, e6, k6⟩ := K.dep 6 rfl rfl rfl;refine za 23 (.int .i64 ((ye (wat W a) : Nat) : Int)) rfl e6 ?_
     exact vq rfl rfl (zo (by omega)) ⟨Below.refl _ _, Left.of ((by congr 1; omega : (.int .i64 ((((zv (wat W a) : Nat) : Int) - 2) - ((ye (wat W a) : Nat) : Int)) : Value) = _))⟩
   · intro vs X wq K;obtain ⟨_, e1, k1⟩ := K.dep 1 rfl rfl rfl;refine za 18 (.int .i64 ((ye (wat W a) : Nat) : Int)) rfl e1 ?_;exact qq rfl ⟨Below.refl _ _, Left.of rfl⟩
   · intro vs X wq K;obtain ⟨_, e7, k7⟩ := K.dep 7 rfl rfl rfl;refine za 24 (.int .i64 ((zv (wat W a) - 2 - ye (wat W a) : Nat) : Int)) rfl e7 ?_;exact qq rfl ⟨Below.refl _ _, Left.of rfl⟩
   · intro vs X wq K;exact qq rfl ⟨Below.refl _ _, Left.of rfl⟩
 intro vs w2 LE AO AL AF AA;have hbd : Below (wC).heap.size (wC) w2 := (((Ext.refl No (wC)).drew).trans LE).toBelow;obtain ⟨_, e8, k8⟩ := AL.2.2.2.2.2.2.2.2.1;obtain ⟨_, e9, k9⟩ := AL.2.2.2.2.2.2.2.2.2.1;obtain ⟨_, e10, k10⟩ := AL.2.2.2.2.2.2.2.2.2.2.1
 refine qw (τ := [(4, .int .i64 ((ye (wat W a) : Nat) : Int)), (5, .int .i64 ((zv (wat W a) - 2 - ye (wat W a) : Nat) : Int)), (6, .int .i64 0)]) ⟨congrArg some e8, congrArg some e9, congrArg some e10, trivial⟩ ?_;clear AL AF AA AO;refine zd (zx (zw (rs := [.tmp 4, .tmp 5, .tmp 6]) (vs := [_, _, _]) rfl ⟨rfl, rfl, rfl, trivial⟩ ?_))
 exact ⟨rfl, ((((E2.trans E3).noL w.heap.size).step E4 (fun q hq => Or.inl (show w.heap.size ≤ q by have := qp hq; omega))).step (Ext.of_below hbd No) (fun _ h => h.elim)).below (fun _ h => h)⟩
theorem aget_any (i : Nat) (hi : i + 2 < zv (wat W a)) : Calls Try.prog 65 #[memV A W c top, .int .i64 ((a : Nat) : Int), .int .i64 ((i : Nat) : Int)] w fun e w' => e = .returned (.tuple #[.int .u64 ((wat W (a + 2 + i) : Nat) : Int), .int .i64 0]) ∧ Below w.heap.size w w' := by
 have h2 := hS.hi;have h7 := hS.room;have h3 := hM.len;have h4 := hM.most;have h10 := jw (wat W a);refine yg Try.func65 rfl Try.ntmps65 rfl (srx (zb rfl (qr rfl ?_)));rintro g1 wA B1 E1 G1;have hsA := E1.size;have h1l := B1.lt
 refine avx rfl (anx rfl (srx (zb rfl (yj Try.underlying24 rfl qz rfl B1 rfl (mvx rfl (zb rfl (zq en59 rfl ((gu _ A W c n top a (hM.no E1) hS).mono ?_))))))));rintro e w1 ⟨rfl, hb⟩;refine ⟨_, rfl, ?_⟩;have E2 := E1.trans (Ext.of_below hb No);have hs2 := (Ext.of_below hb No).size;have B12 := B1.ext (Ext.of_below hb No) (fun h => h.elim)
 refine mvx rfl (zb rfl (zf rfl rfl (zb rfl (zf rfl rfl (zb rfl (qc xn ?_))))));rintro g6 wB B60 E3 G6;refine qd (yr ko rfl rfl B60 rfl rfl rfl ?_);rintro wC B6 E4;have hEC := ((E2.trans E3).noL w.heap.size).step E4 (fun q hq => Or.inl (show w.heap.size ≤ q by have := qp hq; omega))
 have B13 : Blk wC g1 24 #[.slice A W.length c, .int .i64 ((top : Nat) : Int)] := (B12.ext E3 (fun h => h.elim)).ext E4 (fun h => by have := qp h; omega);refine anx rfl (zi (srx (mvx rfl (zb rfl (qe rfl (mvx rfl (onx rfl (yj Try.underlying105 rfl ko rfl B6 rfl (onx rfl (ze rfl (onx rfl (zq en66 rfl ((ahas_any _ a _ _ _ i h10 hi).mono ?_)))))))))))))
 rintro e w2 ⟨rfl, hb⟩;refine ⟨_, rfl, ?_⟩;have hED := hEC.step (Ext.of_below hb No) (fun _ h => h.elim);have B14 := B13.ext (Ext.of_below hb No) (fun h => h.elim);have hMD := hM.low ⟨hED, fun q hq => Nat.le_trans hM.size hq⟩;obtain ⟨gm, om, hA, hgm, hcm⟩ := hMD.words.at (show a + 2 + i < W.length by omega)
 refine onx rfl (qe rfl (zb rfl (zr rfl rfl (rnx (zy rfl (zp (zd (srx (zb rfl (zc Try.underlying24 rfl qv (by decide) rfl (zb rfl (zg Try.underlying22 rfl rfl B14 rfl (mvx rfl (zb rfl (yc rfl rfl (zo (by omega)) (mvx rfl (zb rfl (yc rfl rfl (zo (by omega)) (zb rfl (zk (j := a + 2 + i) Try.underlying22 qi (congrArg (fun z ↦ some (Value.slice z W.length c)) hA) rfl (by omega) (by omega) (zb rfl (yk Try.underlying27 rfl rfl hcm (avx rfl (anx rfl (zx (zw (rs := [.tmp 6, .tmp 7]) (vs := [_, _]) rfl ⟨rfl, rfl, trivial⟩ ?_))))))))))))))))))))))))))
 exact ⟨rfl, hED.below (fun _ h => h)⟩
theorem xx (i : Nat) (hi : i + 2 < zv (wat W a)) : Calls Try.prog 45 #[memV A W c top, .int .i64 ((a : Nat) : Int), .int .i64 ((i : Nat) : Int)] w fun e w' => e = .returned (.int .u64 ((wat W (a + 2 + i) : Nat) : Int)) ∧ Below w.heap.size w w' := by
 refine yg Try.func45 rfl Try.ntmps45 rfl (srx (zb rfl (qr rfl ?_)));rintro g1 wA B1 E1 G1;refine anx rfl (srx (zb rfl (yj Try.underlying24 rfl qz rfl B1 rfl (mvx rfl (mvx rfl (zb rfl (zq en65 rfl ((aget_any _ A W c n top a (hM.no E1) hS i hi).mono ?_))))))));rintro e w1 ⟨rfl, hb⟩
 refine ⟨_, rfl, (mvx rfl (zb rfl (zf rfl rfl (zb rfl (zf rfl rfl (avx rfl (anx rfl (srx (mvx rfl (anx rfl (zx (zw (rs := [.tmp 6]) (vs := [_]) rfl ⟨rfl, trivial⟩ ?_))))))))))))⟩;exact ⟨rfl, (E1.trans (Ext.of_below hb No)).toBelow⟩
end
section
variable (w : World) (A : Option Addr) (W : List Nat) (c n top x : Nat) (hM : MemA n w A W top) (hx : U64 x)
include hM hx
theorem kw (hk : yq x = 0) (hS : Seen W top (x / 4)) : Calls Try.prog 43 #[memV A W c top, .int .u64 ((x : Nat) : Int)] w fun e w' => e = .returned (.tuple #[.int .i64 ((x / 4 : Nat) : Int), .agg #[.int .i64 ((yd (wat W (x / 4)) : Nat) : Int), .int .i64 ((ye (wat W (x / 4)) : Nat) : Int), .int .i64 ((zv (wat W (x / 4)) - 2 - ye (wat W (x / 4)) : Nat) : Int)], .bool true]) ∧ Below w.heap.size w w' := by
 refine yg Try.func43 rfl Try.ntmps43 rfl (srx (zb rfl (qr rfl ?_)));rintro g1 wA B1 E1 G1;refine avx rfl (zb rfl (qc zr81 ?_));rintro g5 wB B5 E2 G5;have hsA := E1.size;have h5l := B5.lt;have B1b : Blk wB g1 24 #[.slice A W.length c, .int .i64 ((top : Nat) : Int)] := B1.ext E2 (fun h => h.elim);have hEB := E1.trans E2
 refine anx rfl (srx (mvx rfl (zb rfl (zq en61 rfl (((at_any _ x hx).mono (fun _ _ h => by rw [if_pos hk] at h; exact h)).mono ?_)))));rintro e w1 ⟨rfl, hb⟩;refine ⟨_, rfl, ?_⟩;have E3 := Ext.of_below hb No;have B12 := B1b.ext E3 (fun h => h.elim);have hE3 := hEB.trans E3
 refine mvx rfl (zb rfl (zf rfl rfl (zb rfl (zf rfl rfl (avx rfl (anx rfl (zi (srx (mvx rfl (zb rfl (qj rfl rfl (rnx (zy rfl (zp (zd (srx (zb rfl (yj Try.underlying24 rfl qz rfl B12 rfl (mvx rfl (zb rfl (zq en62 rfl ((akind_any _ A W c n top (x / 4) (hM.no hE3) hS).mono ?_))))))))))))))))))))));rintro e w2 ⟨rfl, hb⟩
 refine ⟨_, rfl, ?_⟩;have E4 := Ext.of_below hb No;have B13 := B12.ext E4 (fun h => h.elim);have hE4 := hE3.trans E4;refine mvx rfl (zb rfl (zf rfl rfl (zb rfl (zf rfl rfl (avx rfl (anx rfl (srx (zb rfl (yj Try.underlying24 rfl qz rfl B13 rfl (mvx rfl (zb rfl (zq en63 rfl ((asize_any _ A W c n top (x / 4) (hM.no hE4) hS).mono ?_)))))))))))))
 rintro e w3 ⟨rfl, hb⟩;refine ⟨_, rfl, ?_⟩;have E5 := Ext.of_below hb No;have hE5 := hE4.trans E5;have B5e := ((B5.ext E3 (fun h => h.elim)).ext E4 (fun h => h.elim)).ext E5 (fun h => h.elim)
 refine mvx rfl (zb rfl (zf rfl rfl (zb rfl (zf rfl rfl (zb rfl (zf rfl rfl (avx rfl (avx rfl (anx rfl (srx (mvx rfl (mvx rfl (mvx rfl (mvx rfl (zb rfl (vw (cs := #[.int .i64 ((yd (wat W (x / 4)) : Nat) : Int), .int .i64 ((ye (wat W (x / 4)) : Nat) : Int), .int .i64 ((zv (wat W (x / 4)) - 2 - ye (wat W (x / 4)) : Nat) : Int)]) pl81 zr81 rfl rfl (mvx rfl (zb rfl (yz rfl rfl (avx rfl (qd (yr sz81 rfl rfl B5e rfl rfl rfl ?_))))))))))))))))))))))
 rintro wC B5f E6;refine anx rfl (zx (zw (rs := [.tmp 4, .cell 5 81, .tmp 6]) (vs := [_, _, _]) rfl ⟨rfl, ⟨_, rfl, vv Try.underlying81 rfl sz81 B5f rfl⟩, rfl, trivial⟩ ?_));exact ⟨rfl, ((hE5.noL w.heap.size).step E6 (fun q hq => Or.inl (show w.heap.size ≤ q by have := qp hq; omega))).below (fun _ h => h)⟩
theorem ogood_any (hk3 : yq x ≠ 3) (hS : yq x = 0 → Seen W top (x / 4)) : Calls Try.prog 58 #[memV A W c top, .int .u64 ((x : Nat) : Int)] w fun e w' => e = .returned (.bool true) ∧ Below w.heap.size w w' := by
 refine yg Try.func58 rfl Try.ntmps58 rfl (srx (zb rfl (qr rfl ?_)));rintro g1 wA B1 E1 G1;have hsA := E1.size;refine anx rfl (zi (srx (mvx rfl (zb rfl (zq en60 rfl ((jp _ x hx).mono ?_))))));rintro e w1 ⟨rfl, hb⟩;refine ⟨_, rfl, ?_⟩;have E2 := Ext.of_below hb No;have hE2 := E1.trans E2;have B12 := B1.ext E2 (fun h => h.elim);have hs2 := E2.size
 refine zb rfl (yz rfl rfl ?_);by_cases hk : yq x = 0
 ·
  refine zt 10 (.bool true) rfl ((by rw [hk]; rfl : (.bool (((yq x : Nat) : Int) == 0) : Value) = _)) (rnx (yw rfl (srx (zb rfl (yj Try.underlying24 rfl qz rfl B12 rfl (mvx rfl (zb rfl (zq en43 rfl ((kw _ A W c n top x (hM.no hE2) hx hk (hS hk)).mono ?_)))))))));rintro e w2 ⟨rfl, hb⟩;refine ⟨_, rfl, ?_⟩;have E3 := Ext.of_below hb No;have hs3 := E3.size
  refine mvx rfl (zb rfl (zf rfl rfl (zb rfl (zf rfl rfl (zb rfl (zf rfl rfl (zb rfl (qc zr81 ?_))))))));rintro g5 wB B5 E4 G5;refine avx rfl (qd (yr sz81 rfl rfl B5 rfl rfl rfl ?_));rintro wC B5f E6;refine anx rfl (srx (mvx rfl (anx rfl (zx (zn (zw (rs := [.tmp 4]) (vs := [_]) rfl ⟨rfl, trivial⟩ ?_))))))
  exact ⟨rfl, ((((hE2.trans E3).trans E4).noL w.heap.size).step E6 (fun q hq => Or.inl (show w.heap.size ≤ q by have := qp hq; omega))).below (fun _ h => h)⟩
 ·
  refine zt 10 (.bool false) rfl ((by congr 1; rw [beq_eq_false_iff_ne]; omega : (.bool (((yq x : Nat) : Int) == 0) : Value) = _)) (rnx (zy rfl (zp (zd (srx (mvx rfl (zb rfl (zq en60 rfl ((jp _ x hx).mono ?_)))))))));rintro e w3 ⟨rfl, hb⟩
  refine ⟨_, rfl, (zb rfl (qj rfl rfl (zt 21 (.bool true) rfl ((by congr 1; rw [bne_iff_ne]; omega : (.bool (((yq x : Nat) : Int) != 3) : Value) = _)) (anx rfl (zx (zw (rs := [.tmp 4]) (vs := [_]) rfl ⟨rfl, trivial⟩ ?_))))))⟩;exact ⟨rfl, (hE2.trans (Ext.of_below hb No)).toBelow⟩
end
theorem oall_any (w : World) (A B : Option Addr) (W R : List Nat) (c d n top : Nat) (hM : MemA n w A W top) (hr : WordsA n w B R) (hg : ∀ x ∈ R, yq x ≠ 3 ∧ (yq x = 0 → Seen W top (x / 4))) : Calls Try.prog 40 #[memV A W c top, .slice B R.length d] w fun e w' => e = .returned (.bool true) ∧ Below w.heap.size w w' := by
 have hrl := hr.len;refine yg Try.func40 rfl Try.ntmps40 rfl (srx (zb rfl (qr rfl ?_)));rintro g1 wA B1 E1 G1
 refine anx rfl (zi (srx (mvx rfl (zb rfl (yi Try.underlying22 rfl (mvx rfl (rnx (zu (qa (ι := Nat) (fun i => [(2, .pointer (some ⟨g1, 0, none⟩)), (7, .slice B R.length d), (8, .int .i64 ((R.length : Nat) : Int)), (9, .int .i64 ((i : Nat) : Int))]) (fun i w' => i ≤ R.length ∧ Ext No wA w') (fun i => R.length - i) 0 ⟨rfl, rfl, rfl, rfl, trivial⟩ (⟨Nat.zero_le _, Ext.refl _ _⟩) ?_)))))))))
 rintro i w2 ⟨hil, hEi⟩;refine srx (zb rfl (yl rfl rfl (rnx (zi (ym rfl (fun hc => ?_) (fun hc => ?_))))))
 ·
  have hc := of_decide_eq_true hc;have hlt : i < R.length := by omega
  obtain ⟨x, hx⟩ : ∃ x, R[i]? = some x := ⟨_, List.getElem?_eq_getElem hlt⟩;have hxm := List.mem_of_getElem? hx;have hEw := E1.trans hEi;obtain ⟨g, o, hB, hgb, hcx⟩ := (hr.no hEw).cell hx;have B1i := B1.ext hEi (fun h => h.elim)
  refine zp (zd (zi (zu (srx (zb rfl (zk (j := i) Try.underlying22 qi (congrArg (fun z ↦ some (Value.slice z R.length d)) hB) rfl rfl hlt (zb rfl (yk Try.underlying27 rfl rfl hcx (anx rfl (srx (zb rfl (yj Try.underlying24 rfl qz rfl B1i rfl (mvx rfl (zb rfl (zq en58 rfl ((ogood_any _ A W c n top x (hM.no hEw) (hr.in_ x hxm) (hg x hxm).1 (hg x hxm).2).mono ?_))))))))))))))))
  rintro e w3 ⟨rfl, hb⟩;refine ⟨_, rfl, (zb rfl (qe rfl (rnx (zy rfl (zp (zh (zd (zz (zb rfl (yc rfl rfl (zo (by omega)) (mvx rfl (yp ?_))))))))))))⟩;exact yo (i + 1) (by show R.length - (i + 1) < R.length - i; omega) ⟨rfl, rfl, rfl, rfl, trivial⟩ (⟨hlt, hEi.trans (Ext.of_below hb No)⟩)
 ·
  refine qb (zm (zm (yb (zd (srx (anx rfl (zx (zw (rs := [.tmp 4]) (vs := [_]) rfl ⟨rfl, trivial⟩ ?_))))))));exact ⟨rfl, (E1.trans hEi).toBelow⟩
end Go.Proofs.Ytjhmifebmplahaa
namespace Go.Proofs.Ytjhmifebmplahaa
open Go.RowKit
set_option maxRecDepth 100000
attribute [local irreducible] OW RS
section
variable {P : Program} {N : Nat} {ops : Array Oper} {Q : Exit → Act → World → Prop} {σ : Env} {w : World} {ty : TypeId} {pos : String} {af : Array Edge} {dst : Option Nat} {Post : Value → World → Prop}
theorem gk {x y : Operand} {T U e : TypeId} {a : Addr} (hd : P.underlying T = some (.pointer e)) (hx : ev σ x = some (.pointer (some a))) (hy : ev σ y = some (.pointer none)) (k : Post (.bool false) w) : OW P N ops Q ⟨dst, .binOp .eql T x y U, ty, pos, af, none⟩ σ w Post :=
 yu (fun ρ ha => by
  have e1 : (Op.equal T (.pointer (some a)) (.pointer none)).run P w = .ok false w := by
   unfold Op.equal;rw [show Op.maxDepth = 9999 + 1 from rfl, Op.equalIn];simp only [Sem.run_bind, run_underlying hd, Result.andThen_ok]
   rfl
  simp only [execOp, ha hx, ha hy, eqGuard, binOp]
  simp [e1, go_sem]) k
end
structure OwnM (lo : Nat) (w : World) (gm gW cap : Nat) (W : List Nat) (top : Nat) : Prop where
 mb : Blk w gm 24 #[.slice (some ⟨gW, 0, none⟩) W.length cap, .int .i64 ((top : Nat) : Int)]
 row : w.ownsRow lo 27 1 (.slice (some ⟨gW, 0, none⟩) W.length cap) W.length (yy W)
 in_ : ∀ x ∈ W, U64 x
 one : 1 ≤ top
 len : top ≤ W.length
 most : W.length ≤ 1048576
section
variable {lo gm gW cap top : Nat} {w w' : World} {W : List Nat} {X : Nat → Prop}
theorem OwnM.mem (h : OwnM lo w gm gW cap W top) : MemA w.heap.size w (some ⟨gW, 0, none⟩) W top := ⟨words_of_owns h.row (by have := h.most; omega) h.in_, h.one, h.len, h.most, Nat.le_refl _⟩
theorem OwnM.ext (h : OwnM lo w gm gW cap W top) (k : Ext X w w') (h1 : ¬ X gm) (h2 : ¬ X gW) : OwnM lo w' gm gW cap W top := ⟨h.mb.ext k h1, qu h.row k (fun q hq hx => by cases hq; exact h2 hx), h.in_, h.one, h.len, h.most⟩
theorem OwnM.lt (h : OwnM lo w gm gW cap W top) : gm < w.heap.size ∧ gW < w.heap.size := ⟨h.mb.lt, kg h.row gW rfl⟩
theorem OwnM.late (h : OwnM lo w gm gW cap W top) (k : Ext X w w') (hX : ∀ q, X q → w.heap.size ≤ q) : OwnM lo w' gm gW cap W top := h.ext k (fun hx => by have := hX _ hx; have := h.lt.1; omega) (fun hx => by have := hX _ hx; have := h.lt.2; omega)
theorem OwnM.put {j x : Nat} (h : OwnM lo w gm gW cap W top) (hx : U64 x) (ho : w'.ownsRow lo 27 1 (.slice (some ⟨gW, 0, none⟩) W.length cap) W.length (yy (W.set j x))) (k : Ext (Mut [some gW]) w w') : OwnM lo w' gm gW cap (W.set j x) top :=
 ⟨by rw [List.length_set]; exact jq h.mb h.row (by decide) k, by rw [List.length_set]; exact ho, fun y hy => by
  rcases List.mem_or_eq_of_mem_set hy with hy | rfl
  · exact h.in_ y hy
  · exact hx, h.one, by rw [List.length_set]; exact h.len, by rw [List.length_set]; exact h.most⟩
theorem Ext.step2w {g : Nat} {w1 w2 w3 : World} (h : Ext (fun q => w1.heap.size ≤ q) w1 w2) (k : Ext (Mut [some g]) w2 w3) : Ext (Mut [some g]) w1 w3 :=
 (h.mono (Y := No) (fun q hq hlt => by have hq : w1.heap.size ≤ q := hq; omega)).mono (Y := Mut [some g]) (fun _ h _ => h.elim) |>.step k fun _ h => Or.inl h
theorem vh {j x : Nat} : (yy W).set j (.int .u64 ((x : Nat) : Int)) = yy (W.set j x) := by unfold yy; rw [List.map_set]
end
theorem aset_any (lo gm gW cap top a i x : Nat) (w : World) (W : List Nat) (hM : OwnM lo w gm gW cap W top) (hS : Seen W top a) (hi : i + 2 < zv (wat W a)) (hx : U64 x) (hk : i < ye (wat W a) → yq x ≠ 3) :
 Calls Try.prog 53 #[.pointer (some ⟨gm, 0, none⟩), .int .i64 ((a : Nat) : Int), .int .i64 ((i : Nat) : Int), .int .u64 ((x : Nat) : Int)] w fun e w' => e = .returned (.int .i64 0) ∧ OwnM lo w' gm gW cap (W.set (a + 2 + i) x) top ∧ Ext (Mut [some gW]) w w' := by
 have h2 := hS.hi;have h7 := hS.room;have h3 := hM.len;have h4 := hM.most;have h10 := jw (wat W a)
 refine yg Try.func53 rfl Try.ntmps53 rfl (srx (anx rfl (zi (srx (mvx rfl (zb rfl (gk Try.underlying39 rfl rfl (rnx (zy rfl (zp (zd (srx (mvx rfl (zb rfl (yn rfl (zb rfl (yj Try.underlying24 rfl qz rfl hM.mb rfl (mvx rfl (zb rfl (zq en59 rfl ((gu _ (some ⟨gW, 0, none⟩) W cap _ top a hM.mem hS).mono ?_)))))))))))))))))))))
 rintro e w1 ⟨rfl, hb⟩;refine ⟨_, rfl, ?_⟩;have E1 := Ext.of_below hb No;have hs1 := E1.size;refine mvx rfl (zb rfl (zf rfl rfl (zb rfl (zf rfl rfl (zb rfl (qc xn ?_))))));rintro g9 wB B90 E2 G9;refine qd (yr ko rfl rfl B90 rfl rfl rfl ?_);rintro wC B9a E3
 have B9 : Blk wC g9 105 #[.int .i64 ((a : Nat) : Int), .int .i64 ((yd (wat W a) : Nat) : Int), .int .i64 ((ye (wat W a) : Nat) : Int), .int .i64 ((zv (wat W a) : Nat) : Int)] := B9a;have hEC : Ext (fun q => w.heap.size ≤ q) w wC := ((E1.trans E2).noL w.heap.size).step E3 (fun q hq => Or.inl (show w.heap.size ≤ q by have := qp hq; omega))
 refine anx rfl (zi (srx (mvx rfl (zb rfl (qe rfl (mvx rfl (onx rfl (yj Try.underlying105 rfl ko rfl B9 rfl (onx rfl (ze rfl (onx rfl (zq en66 rfl ((ahas_any _ a _ _ _ i h10 hi).mono ?_)))))))))))));rintro e w2 ⟨rfl, hb⟩;refine ⟨_, rfl, ?_⟩;have E4 := Ext.of_below hb No;have B94 := B9.ext E4 (fun h => h.elim);have hED := hEC.step E4 (fun _ h => h.elim)
 refine onx rfl (qe rfl (zb rfl (zr rfl rfl (rnx (zy rfl (zp (zd (zi (srx (mvx rfl (zb rfl (zc Try.underlying105 rfl sz3 (by decide) rfl (zb rfl (zg Try.underlying3 rfl rfl B94 rfl (zb rfl (yl rfl rfl ?_))))))))))))))));by_cases hlt : i < ye (wat W a)
 ·
  refine zt 32 (.bool true) rfl ((by rw [decide_eq_true]; omega : (.bool (decide (((i : Nat) : Int) < ((ye (wat W a) : Nat) : Int))) : Value) = _)) (mvx rfl (onx rfl (ze rfl (onx rfl (zq en60 rfl ((jp _ x hx).mono ?_))))));rintro e w3 ⟨rfl, hb⟩;refine ⟨_, rfl, ?_⟩;have hEE := hED.step (Ext.of_below hb No) (fun _ h => h.elim);have hk3 := hk hlt
  refine onx rfl (yz rfl rfl (zt 36 (.bool false) rfl ((by congr 1; rw [beq_eq_false_iff_ne]; omega : (.bool (((yq x : Nat) : Int) == 3) : Value) = _)) ?_));have hMZ := hM.late hEE (fun _ h => h)
  refine zb rfl (yh rfl rfl (rnx (zy rfl (zp (zd (srx (mvx rfl (zb rfl (yn rfl (zb rfl (zc Try.underlying24 rfl qv (by decide) rfl (zb rfl (zg Try.underlying22 rfl rfl hMZ.mb rfl (mvx rfl (zb rfl (yc rfl rfl (zo (by omega)) (mvx rfl (zb rfl (yc rfl rfl (zo (by omega)) (mvx rfl (zb rfl (zk (j := a + 2 + i) Try.underlying22 qi rfl rfl (by omega) (by omega) (qd (ju (o := 0 + (a + 2 + i)) (xs' := yy (W.set (a + 2 + i) x)) qi rfl rfl hMZ.row (by omega) rfl rfl (by rw [Nat.zero_add, vh]) ?_))))))))))))))))))))))))
  rintro wS OS ES;refine rnx (srx (anx rfl (zx (zw (rs := [.tmp 8]) (vs := [_]) rfl ⟨rfl, trivial⟩ ?_))));exact ⟨rfl, hMZ.put hx OS ES, (hEE.step2w ES)⟩
 ·
  refine zt 32 (.bool false) rfl ((by rw [decide_eq_false]; omega : (.bool (decide (((i : Nat) : Int) < ((ye (wat W a) : Nat) : Int))) : Value) = _)) ?_;have hMZ := hM.late hED (fun _ h => h)
  refine mvx rfl (zb rfl (zl rfl (zb rfl (zl rfl (zb rfl (zl rfl (zb rfl (zr rfl rfl (rnx (zy rfl (zp (zd (srx (mvx rfl (zb rfl (yn rfl (zb rfl (zc Try.underlying24 rfl qv (by decide) rfl (zb rfl (zg Try.underlying22 rfl rfl hMZ.mb rfl (mvx rfl (zb rfl (yc rfl rfl (zo (by omega)) (mvx rfl (zb rfl (yc rfl rfl (zo (by omega)) (mvx rfl (zb rfl (zk (j := a + 2 + i) Try.underlying22 qi rfl rfl (by omega) (by omega) (qd (ju (o := 0 + (a + 2 + i)) (xs' := yy (W.set (a + 2 + i) x)) qi rfl rfl hMZ.row (by omega) rfl rfl (by rw [Nat.zero_add, vh]) ?_)))))))))))))))))))))))))))))))
  rintro wS OS ES;refine rnx (srx (anx rfl (zx (zw (rs := [.tmp 8]) (vs := [_]) rfl ⟨rfl, trivial⟩ ?_))));exact ⟨rfl, hMZ.put hx OS ES, (hED.step2w ES)⟩
end Go.Proofs.Ytjhmifebmplahaa
namespace Go.Proofs.Ytjhmifebmplahaa
open Go.RowKit
set_option maxRecDepth 100000
attribute [local irreducible] OW RS
theorem wat_set {W : List Nat} {j x : Nat} (hj : j < W.length) (i : Nat) : wat (W.set j x) i = if i = j then x else wat W i := by
 unfold wat;rw [List.getD_eq_getElem?_getD, List.getD_eq_getElem?_getD, List.getElem?_set];by_cases h : j = i
 · subst h; simp [hj]
 · rw [if_neg h, if_neg (fun e => h e.symm)]
theorem set_zero {W : List Nat} {j : Nat} (hj : j < W.length) (h : wat W j = 0) : W.set j 0 = W := by
 apply List.ext_getElem?
 intro i;rw [List.getElem?_set];split
 · rename_i e; subst e; have h9 := zbk hj; rw [h] at h9; rw [h9]
 · rfl
theorem wat_ext {W V : List Nat} (hl : V.length = W.length) (h : ∀ i, i < W.length → wat V i = wat W i) : V = W := by
 apply List.ext_getElem?
 intro i;by_cases hi : i < W.length
 · rw [zbk hi, zbk (by omega), h i hi]
 · rw [List.getElem?_eq_none (by omega), List.getElem?_eq_none (by omega)]
def NewM (W V : List Nat) (top h i : Nat) : Prop := V.length = W.length ∧ ∀ j, j < W.length → wat V j = if j = top then h else if top + 2 ≤ j ∧ j < top + 2 + i then 2 else wat W j
theorem NewM.zero {W : List Nat} {top h : Nat} (ht : top < W.length) : NewM W (W.set top h) top h 0 := ⟨List.length_set .., fun j hj => by
 rw [wat_set ht];split
 · rfl
 · rw [if_neg (by omega)]⟩
theorem NewM.next {W V : List Nat} {top h i : Nat} (hN : NewM W V top h i) (hi : top + 2 + i < W.length) : NewM W (V.set (top + 2 + i) 2) top h (i + 1) := ⟨by rw [List.length_set]; exact hN.1, fun j hj => by
 rw [wat_set (by rw [hN.1]; exact hi), hN.2 j hj];by_cases e : j = top + 2 + i
 · rw [if_pos e, if_neg (by omega), if_pos (by omega)]
 · rw [if_neg e];by_cases e2 : j = top
   · rw [if_pos e2, if_pos e2]
   · rw [if_neg e2, if_neg e2];by_cases e3 : top + 2 ≤ j ∧ j < top + 2 + i
     · rw [if_pos e3, if_pos (by omega)]
     · rw [if_neg e3, if_neg (by omega)]⟩
theorem NewM.isLaid {W V : List Nat} {top k t r : Nat} (hN : NewM W V top (vb k t (2 + t + r)) t) (hz : ∀ i, top ≤ i → wat W i = 0) (hr : top + (2 + t + r) ≤ W.length) : V = laid W top k (List.replicate t 2) (List.replicate r 0) := by
 have hL : top + (2 + (List.replicate t 2).length + (List.replicate r 0).length) ≤ W.length := by simpa using hr
 have h1 : (laid W top k (List.replicate t 2) (List.replicate r 0)).length = W.length := va hL;refine wat_ext (by rw [h1, hN.1]) fun i hi => ?_;rw [h1] at hi;rw [hN.2 i hi];by_cases e1 : i < top
 · rw [if_neg (by omega), if_neg (by omega)]; exact (kx hL i e1).symm
 · by_cases e2 : i = top
   · rw [if_pos e2, e2, jb hL]; simp
   · rw [if_neg e2];by_cases e3 : i = top + 1
     · rw [if_neg (by omega), e3, laid_nil hL]; exact hz _ (by omega)
     · by_cases e4 : i < top + (2 + t + r)
       · obtain ⟨j, rfl⟩ : ∃ j, i = top + 2 + j := ⟨i - top - 2, by omega⟩;by_cases e5 : j < t
         · rw [if_pos (by omega), ja hL (v := 2) (by rw [List.getElem?_append_left (by simpa using e5), List.getElem?_replicate, if_pos e5])]
         · rw [if_neg (by omega), ja hL (v := 0) (by rw [List.getElem?_append_right (by simp; omega), List.length_replicate, List.getElem?_replicate, if_pos (by omega)])];exact hz _ (by omega)
       · rw [if_neg (by omega), ow hL (by simp; omega)]
theorem ov {x y k : Nat} (hx : x < 2 ^ k) (hy : y < 18446744073709551616) (hk : k ≤ 64) (h0 : y % 2 ^ k = 0) : IntKind.u64.wrap (BitVec.ofInt IntKind.u64.bits (x : Int) ||| BitVec.ofInt IntKind.u64.bits (y : Int)).toNat = ((x + y : Nat) : Int) := by
 rw [BitVec.or_comm, Nat.add_comm];exact or_maskO hy hx hk h0
theorem const0_any (w : World) : Calls Try.prog 31 #[.int .i64 0] w fun e w' => e = .returned (.tuple #[.int .u64 2, .int .i64 0]) ∧ Below w.heap.size w w' := by
 refine yg Try.func31 rfl Try.ntmps31 rfl (srx (avx rfl (anx rfl (zi (srx (mvx rfl (zb rfl (yl rfl rfl (mvx rfl (onx rfl (ze rfl (onx rfl (qh rfl rfl (zb rfl (zr rfl rfl (rnx (zy rfl (zp (zd (srx (mvx rfl (zb rfl (yt (z := 0) Try.underlying27 Try.underlying3 rfl (by kernel_rfl) (zb rfl (ou (z := 0) rfl rfl (by decide) (by kernel_rfl) (zb rfl (ow_or (z := 2) rfl rfl (by kernel_rfl) (avx rfl (anx rfl (zx (zw (rs := [.tmp 2, .tmp 3]) (vs := [_, _]) rfl ⟨rfl, rfl, trivial⟩ ?_)))))))))))))))))))))))))))))))
 exact ⟨rfl, Below.refl _ _⟩
section
variable (lo gm gW cap top k t r : Nat) (w : World) (W : List Nat) (hM : OwnM lo w gm gW cap W top) (hk : 1 ≤ k ∧ k < 256) (ht : t ≤ 1048576) (hr : r ≤ 1048576) (hmW : gm ≠ gW)
include hM hk ht hr hmW
theorem aalloc_ok (hz : ∀ i, top ≤ i → wat W i = 0) (hf : top + (2 + t + r) ≤ W.length) : Calls Try.prog 52 #[.pointer (some ⟨gm, 0, none⟩), .int .i64 ((k : Nat) : Int), .int .i64 ((t : Nat) : Int), .int .i64 ((r : Nat) : Int)] w fun e w' => e = .returned (.tuple #[.int .i64 ((top : Nat) : Int), .int .i64 0]) ∧ OwnM lo w' gm gW cap (laid W top k (List.replicate t 2) (List.replicate r 0)) (top + (2 + t + r)) ∧ Ext (Mut [some gm, some gW]) w w' := by
 have h1 := hM.one;have h3 := hM.len;have h4 := hM.most;have hXm : ∀ q, Mut [some gm] q → Mut [some gm, some gW] q := fun q hq => Or.inl (by rw [qp hq]);have hXw : ∀ q, Mut [some gW] q → Mut [some gm, some gW] q := fun q hq => Or.inr (Or.inl (by rw [qp hq]));refine yg Try.func52 rfl Try.ntmps52 rfl (srx (avx rfl (anx rfl (zi (zi ?_)))))
 refine qt (No) Mut.none_ [] [] (ji [Fx.of (.pointer (some ⟨gm, 0, none⟩)),
  Fx.of (.bool false),
  Fx.of (.bool false),
  Fx.of (.pointer (some ⟨gm, 0, none⟩)),
  Fx.of (.pointer (some ⟨gm, 0, none⟩)),
  Fx.of (.pointer (some ⟨gm, 1, none⟩)),
  Fx.of (.int .i64 ((top : Nat) : Int)),
  Fx.of (.bool false),
  Fx.of (.bool false),
  Fx.of (.bool false),
  Fx.of (.pointer (some ⟨gm, 0, none⟩)),
  Fx.of (.pointer (some ⟨gm, 0, none⟩)),
  Fx.of (.pointer (some ⟨gm, 1, none⟩)),
  Fx.of (.int .i64 ((top : Nat) : Int)),
  Fx.of (.pointer (some ⟨gm, 0, none⟩)),
  Fx.of (.pointer (some ⟨gm, 0, none⟩)),
  Fx.of (.pointer (some ⟨gm, 0, none⟩)),
  Fx.of (.slice (some ⟨gW, 0, none⟩) W.length cap),
  Fx.of (.int .i64 (((W.length : Nat)) : Int)),
  Fx.of (.bool false),
  Fx.of (.bool false),
  Fx.of (.bool false),
  Fx.of (.int .i64 ((k : Nat) : Int)),
  Fx.of (.bool false),
  Fx.of (.bool false),
  Fx.of (.bool false),
  Fx.of (.int .i64 ((k : Nat) : Int)),
  Fx.of (.bool false),
  Fx.of (.bool false),
  Fx.of (.bool false),
  Fx.of (.int .i64 ((t : Nat) : Int)),
  Fx.of (.bool false),
  Fx.of (.bool false),
  Fx.of (.bool false),
  Fx.of (.int .i64 ((r : Nat) : Int)),
  Fx.of (.bool false),
  Fx.of (.bool false),
  Fx.of (.bool false),
  Fx.of (.int .i64 ((t : Nat) : Int)),
  Fx.of (.bool false),
  Fx.of (.bool false),
  Fx.of (.bool false),
  Fx.of (.int .i64 ((r : Nat) : Int)),
  Fx.of (.bool false),
  Fx.of (.bool false)]) vf rfl trivial (fun _ h => by cases h) ?_ ?_
 · refine ⟨?_, ?_, ?_, ?_, ?_, ?_, ?_, ?_, ?_, ?_, ?_, ?_, ?_, ?_, ?_, ?_, ?_, ?_, ?_, ?_, ?_, ?_, ?_, ?_, ?_, ?_, ?_, ?_, ?_, ?_, ?_, ?_, ?_, ?_, ?_, ?_, ?_, ?_, ?_, ?_, ?_, ?_, ?_, ?_, ?_, trivial⟩
   · intro vs X wq K;exact ze rfl ⟨Below.refl _ _, Left.of rfl⟩
   · intro vs X wq K;obtain ⟨_, e0, k0⟩ := K.dep 0 rfl rfl rfl;refine za 16 (.pointer (some ⟨gm, 0, none⟩)) rfl e0 ?_;exact gk Try.underlying39 rfl rfl ⟨Below.refl _ _, Left.of rfl⟩
   · intro vs X wq K;obtain ⟨_, e1, k1⟩ := K.dep 1 rfl rfl rfl;refine za 17 (.bool false) rfl e1 ?_;exact ze rfl ⟨Below.refl _ _, Left.of rfl⟩
   · intro vs X wq K;obtain ⟨_, e2, k2⟩ := K.dep 2 rfl rfl rfl;refine za 18 (.bool false) rfl e2 ?_;exact zj rfl (ze rfl ⟨Below.refl _ _, Left.of rfl⟩)
   · intro vs X wq K;obtain ⟨_, e3, k3⟩ := K.dep 3 rfl rfl rfl;refine za 19 (.pointer (some ⟨gm, 0, none⟩)) rfl e3 ?_;obtain ⟨_, e2, k2⟩ := K.dep 2 rfl rfl rfl;refine za 18 (.bool false) rfl e2 ?_;exact zj rfl (yn rfl ⟨Below.refl _ _, Left.of rfl⟩)
   · intro vs X wq K;obtain ⟨_, e4, k4⟩ := K.dep 4 rfl rfl rfl;refine za 20 (.pointer (some ⟨gm, 0, none⟩)) rfl e4 ?_;obtain ⟨_, e2, k2⟩ := K.dep 2 rfl rfl rfl;refine za 18 (.bool false) rfl e2 ?_;exact zj rfl (zc Try.underlying24 rfl sz3 (by decide) rfl ⟨Below.refl _ _, Left.of rfl⟩)
   · intro vs X wq K;have LE := K.1;obtain ⟨_, e5, k5⟩ := K.dep 5 rfl rfl rfl;refine za 21 (.pointer (some ⟨gm, 1, none⟩)) rfl e5 ?_;obtain ⟨_, e2, k2⟩ := K.dep 2 rfl rfl rfl;refine za 18 (.bool false) rfl e2 ?_;exact zj rfl (zg Try.underlying3 rfl rfl (yv LE hM.mb) rfl ⟨Below.refl _ _, Left.of rfl⟩)
   · intro vs X wq K;obtain ⟨_, e6, k6⟩ := K.dep 6 rfl rfl rfl;refine za 22 (.int .i64 ((top : Nat) : Int)) rfl e6 ?_;obtain ⟨_, e2, k2⟩ := K.dep 2 rfl rfl rfl;refine za 18 (.bool false) rfl e2 ?_;exact zj rfl (yl rfl rfl ⟨Below.refl _ _, Left.of ((by rw [decide_eq_false]; omega : (.bool (decide (((top : Nat) : Int) < 1)) : Value) = _))⟩)
   · intro vs X wq K;obtain ⟨_, e2, k2⟩ := K.dep 2 rfl rfl rfl;refine za 18 (.bool false) rfl e2 ?_;obtain ⟨_, e7, k7⟩ := K.dep 7 rfl rfl rfl;refine za 23 (.bool false) rfl e7 ?_;exact zr rfl rfl ⟨Below.refl _ _, Left.of rfl⟩
   · intro vs X wq K;obtain ⟨_, e8, k8⟩ := K.dep 8 rfl rfl rfl;refine za 24 (.bool false) rfl e8 ?_;exact ze rfl ⟨Below.refl _ _, Left.of rfl⟩
   · intro vs X wq K;obtain ⟨_, e9, k9⟩ := K.dep 9 rfl rfl rfl;refine za 25 (.bool false) rfl e9 ?_;exact zj rfl (ze rfl ⟨Below.refl _ _, Left.of rfl⟩)
   · intro vs X wq K;obtain ⟨_, e10, k10⟩ := K.dep 10 rfl rfl rfl;refine za 26 (.pointer (some ⟨gm, 0, none⟩)) rfl e10 ?_;obtain ⟨_, e9, k9⟩ := K.dep 9 rfl rfl rfl;refine za 25 (.bool false) rfl e9 ?_;exact zj rfl (yn rfl ⟨Below.refl _ _, Left.of rfl⟩)
   · intro vs X wq K;obtain ⟨_, e11, k11⟩ := K.dep 11 rfl rfl rfl;refine za 27 (.pointer (some ⟨gm, 0, none⟩)) rfl e11 ?_;obtain ⟨_, e9, k9⟩ := K.dep 9 rfl rfl rfl;refine za 25 (.bool false) rfl e9 ?_;exact zj rfl (zc Try.underlying24 rfl sz3 (by decide) rfl ⟨Below.refl _ _, Left.of rfl⟩)
   · intro vs X wq K;have LE := K.1;obtain ⟨_, e12, k12⟩ := K.dep 12 rfl rfl rfl;refine za 28 (.pointer (some ⟨gm, 1, none⟩)) rfl e12 ?_;obtain ⟨_, e9, k9⟩ := K.dep 9 rfl rfl rfl;refine za 25 (.bool false) rfl e9 ?_;exact zj rfl (zg Try.underlying3 rfl rfl (yv LE hM.mb) rfl ⟨Below.refl _ _, Left.of rfl⟩)
   · intro vs X wq K;obtain ⟨_, e9, k9⟩ := K.dep 9 rfl rfl rfl;refine za 25 (.bool false) rfl e9 ?_;exact zj rfl (ze rfl ⟨Below.refl _ _, Left.of rfl⟩)
   · intro vs X wq K;obtain ⟨_, e14, k14⟩ := K.dep 14 rfl rfl rfl;refine za 30 (.pointer (some ⟨gm, 0, none⟩)) rfl e14 ?_;obtain ⟨_, e9, k9⟩ := K.dep 9 rfl rfl rfl;refine za 25 (.bool false) rfl e9 ?_;exact zj rfl (yn rfl ⟨Below.refl _ _, Left.of rfl⟩)
   · intro vs X wq K;obtain ⟨_, e15, k15⟩ := K.dep 15 rfl rfl rfl;refine za 31 (.pointer (some ⟨gm, 0, none⟩)) rfl e15 ?_;obtain ⟨_, e9, k9⟩ := K.dep 9 rfl rfl rfl;refine za 25 (.bool false) rfl e9 ?_;exact zj rfl (zc Try.underlying24 rfl qv (by decide) rfl ⟨Below.refl _ _, Left.of rfl⟩)
   · intro vs X wq K;have LE := K.1;obtain ⟨_, e16, k16⟩ := K.dep 16 rfl rfl rfl;refine za 32 (.pointer (some ⟨gm, 0, none⟩)) rfl e16 ?_;obtain ⟨_, e9, k9⟩ := K.dep 9 rfl rfl rfl;refine za 25 (.bool false) rfl e9 ?_;exact zj rfl (zg Try.underlying22 rfl rfl (yv LE hM.mb) rfl ⟨Below.refl _ _, Left.of rfl⟩)
   · intro vs X wq K;obtain ⟨_, e17, k17⟩ := K.dep 17 rfl rfl rfl;refine za 33 (.slice (some ⟨gW, 0, none⟩) W.length cap) rfl e17 ?_;obtain ⟨_, e9, k9⟩ := K.dep 9 rfl rfl rfl;refine za 25 (.bool false) rfl e9 ?_;exact zj rfl (yi Try.underlying22 rfl ⟨Below.refl _ _, Left.of rfl⟩)
   · intro vs X wq K;obtain ⟨_, e13, k13⟩ := K.dep 13 rfl rfl rfl;refine za 29 (.int .i64 ((top : Nat) : Int)) rfl e13 ?_;obtain ⟨_, e18, k18⟩ := K.dep 18 rfl rfl rfl;refine za 34 (.int .i64 (((W.length : Nat)) : Int)) rfl e18 ?_;obtain ⟨_, e9, k9⟩ := K.dep 9 rfl rfl rfl;refine za 25 (.bool false) rfl e9 ?_
     exact zj rfl (qh rfl rfl ⟨Below.refl _ _, Left.of ((by rw [decide_eq_false]; omega : (.bool (decide ((((W.length : Nat)) : Int) < ((top : Nat) : Int))) : Value) = _))⟩)
   · intro vs X wq K;obtain ⟨_, e9, k9⟩ := K.dep 9 rfl rfl rfl;refine za 25 (.bool false) rfl e9 ?_;obtain ⟨_, e19, k19⟩ := K.dep 19 rfl rfl rfl;refine za 35 (.bool false) rfl e19 ?_;exact zr rfl rfl ⟨Below.refl _ _, Left.of rfl⟩
   · intro vs X wq K;obtain ⟨_, e20, k20⟩ := K.dep 20 rfl rfl rfl;refine za 36 (.bool false) rfl e20 ?_;exact ze rfl ⟨Below.refl _ _, Left.of rfl⟩
   · intro vs X wq K;obtain ⟨_, e21, k21⟩ := K.dep 21 rfl rfl rfl;refine za 37 (.bool false) rfl e21 ?_;exact zj rfl (ze rfl ⟨Below.refl _ _, Left.of rfl⟩)
   · intro vs X wq K;obtain ⟨_, e22, k22⟩ := K.dep 22 rfl rfl rfl;refine za 38 (.int .i64 ((k : Nat) : Int)) rfl e22 ?_;obtain ⟨_, e21, k21⟩ := K.dep 21 rfl rfl rfl;refine za 37 (.bool false) rfl e21 ?_;exact zj rfl (yl rfl rfl ⟨Below.refl _ _, Left.of ((by rw [decide_eq_false]; omega : (.bool (decide (((k : Nat) : Int) < 1)) : Value) = _))⟩)
   · intro vs X wq K;obtain ⟨_, e21, k21⟩ := K.dep 21 rfl rfl rfl;refine za 37 (.bool false) rfl e21 ?_;obtain ⟨_, e23, k23⟩ := K.dep 23 rfl rfl rfl;refine za 39 (.bool false) rfl e23 ?_;exact zr rfl rfl ⟨Below.refl _ _, Left.of rfl⟩
   · intro vs X wq K;obtain ⟨_, e24, k24⟩ := K.dep 24 rfl rfl rfl;refine za 40 (.bool false) rfl e24 ?_;exact ze rfl ⟨Below.refl _ _, Left.of rfl⟩
   · intro vs X wq K;obtain ⟨_, e25, k25⟩ := K.dep 25 rfl rfl rfl;refine za 41 (.bool false) rfl e25 ?_;exact zj rfl (ze rfl ⟨Below.refl _ _, Left.of rfl⟩)
   · intro vs X wq K;obtain ⟨_, e26, k26⟩ := K.dep 26 rfl rfl rfl;refine za 42 (.int .i64 ((k : Nat) : Int)) rfl e26 ?_;obtain ⟨_, e25, k25⟩ := K.dep 25 rfl rfl rfl;refine za 41 (.bool false) rfl e25 ?_;exact zj rfl (qh rfl rfl ⟨Below.refl _ _, Left.of ((by rw [decide_eq_false]; omega : (.bool (decide (255 < ((k : Nat) : Int))) : Value) = _))⟩)
   · intro vs X wq K;obtain ⟨_, e25, k25⟩ := K.dep 25 rfl rfl rfl;refine za 41 (.bool false) rfl e25 ?_;obtain ⟨_, e27, k27⟩ := K.dep 27 rfl rfl rfl;refine za 43 (.bool false) rfl e27 ?_;exact zr rfl rfl ⟨Below.refl _ _, Left.of rfl⟩
   · intro vs X wq K;obtain ⟨_, e28, k28⟩ := K.dep 28 rfl rfl rfl;refine za 44 (.bool false) rfl e28 ?_;exact ze rfl ⟨Below.refl _ _, Left.of rfl⟩
   · intro vs X wq K;obtain ⟨_, e29, k29⟩ := K.dep 29 rfl rfl rfl;refine za 45 (.bool false) rfl e29 ?_;exact zj rfl (ze rfl ⟨Below.refl _ _, Left.of rfl⟩)
   · intro vs X wq K;obtain ⟨_, e30, k30⟩ := K.dep 30 rfl rfl rfl;refine za 46 (.int .i64 ((t : Nat) : Int)) rfl e30 ?_;obtain ⟨_, e29, k29⟩ := K.dep 29 rfl rfl rfl;refine za 45 (.bool false) rfl e29 ?_;exact zj rfl (yl rfl rfl ⟨Below.refl _ _, Left.of ((by rw [decide_eq_false]; omega : (.bool (decide (((t : Nat) : Int) < 0)) : Value) = _))⟩)
   · intro vs X wq K;obtain ⟨_, e29, k29⟩ := K.dep 29 rfl rfl rfl;refine za 45 (.bool false) rfl e29 ?_;obtain ⟨_, e31, k31⟩ := K.dep 31 rfl rfl rfl;refine za 47 (.bool false) rfl e31 ?_;exact zr rfl rfl ⟨Below.refl _ _, Left.of rfl⟩
   · intro vs X wq K;obtain ⟨_, e32, k32⟩ := K.dep 32 rfl rfl rfl;refine za 48 (.bool false) rfl e32 ?_;exact ze rfl ⟨Below.refl _ _, Left.of rfl⟩
   · intro vs X wq K;obtain ⟨_, e33, k33⟩ := K.dep 33 rfl rfl rfl;refine za 49 (.bool false) rfl e33 ?_;exact zj rfl (ze rfl ⟨Below.refl _ _, Left.of rfl⟩)
   · intro vs X wq K;obtain ⟨_, e34, k34⟩ := K.dep 34 rfl rfl rfl;refine za 50 (.int .i64 ((r : Nat) : Int)) rfl e34 ?_;obtain ⟨_, e33, k33⟩ := K.dep 33 rfl rfl rfl;refine za 49 (.bool false) rfl e33 ?_;exact zj rfl (yl rfl rfl ⟨Below.refl _ _, Left.of ((by rw [decide_eq_false]; omega : (.bool (decide (((r : Nat) : Int) < 0)) : Value) = _))⟩)
   · intro vs X wq K;obtain ⟨_, e33, k33⟩ := K.dep 33 rfl rfl rfl;refine za 49 (.bool false) rfl e33 ?_;obtain ⟨_, e35, k35⟩ := K.dep 35 rfl rfl rfl;refine za 51 (.bool false) rfl e35 ?_;exact zr rfl rfl ⟨Below.refl _ _, Left.of rfl⟩
   · intro vs X wq K;obtain ⟨_, e36, k36⟩ := K.dep 36 rfl rfl rfl;refine za 52 (.bool false) rfl e36 ?_;exact ze rfl ⟨Below.refl _ _, Left.of rfl⟩
   · intro vs X wq K;obtain ⟨_, e37, k37⟩ := K.dep 37 rfl rfl rfl;refine za 53 (.bool false) rfl e37 ?_;exact zj rfl (ze rfl ⟨Below.refl _ _, Left.of rfl⟩)
   · intro vs X wq K;obtain ⟨_, e38, k38⟩ := K.dep 38 rfl rfl rfl;refine za 54 (.int .i64 ((t : Nat) : Int)) rfl e38 ?_;obtain ⟨_, e37, k37⟩ := K.dep 37 rfl rfl rfl;refine za 53 (.bool false) rfl e37 ?_;exact zj rfl (qh rfl rfl ⟨Below.refl _ _, Left.of ((by rw [decide_eq_false]; omega : (.bool (decide (1048576 < ((t : Nat) : Int))) : Value) = _))⟩)
   · intro vs X wq K;obtain ⟨_, e37, k37⟩ := K.dep 37 rfl rfl rfl;refine za 53 (.bool false) rfl e37 ?_;obtain ⟨_, e39, k39⟩ := K.dep 39 rfl rfl rfl;refine za 55 (.bool false) rfl e39 ?_;exact zr rfl rfl ⟨Below.refl _ _, Left.of rfl⟩
   · intro vs X wq K;obtain ⟨_, e40, k40⟩ := K.dep 40 rfl rfl rfl;refine za 56 (.bool false) rfl e40 ?_;exact ze rfl ⟨Below.refl _ _, Left.of rfl⟩
   · intro vs X wq K;obtain ⟨_, e41, k41⟩ := K.dep 41 rfl rfl rfl;refine za 57 (.bool false) rfl e41 ?_;exact zj rfl (ze rfl ⟨Below.refl _ _, Left.of rfl⟩)
   · intro vs X wq K;obtain ⟨_, e42, k42⟩ := K.dep 42 rfl rfl rfl;refine za 58 (.int .i64 ((r : Nat) : Int)) rfl e42 ?_;obtain ⟨_, e41, k41⟩ := K.dep 41 rfl rfl rfl;refine za 57 (.bool false) rfl e41 ?_;exact zj rfl (qh rfl rfl ⟨Below.refl _ _, Left.of ((by rw [decide_eq_false]; omega : (.bool (decide (1048576 < ((r : Nat) : Int))) : Value) = _))⟩)
   · intro vs X wq K;obtain ⟨_, e41, k41⟩ := K.dep 41 rfl rfl rfl;refine za 57 (.bool false) rfl e41 ?_;obtain ⟨_, e43, k43⟩ := K.dep 43 rfl rfl rfl;refine za 59 (.bool false) rfl e43 ?_;exact zr rfl rfl ⟨Below.refl _ _, Left.of rfl⟩
 intro vs w1 LE AO AL AF AA;have hbd : Below (w).heap.size (w) w1 := (((Ext.refl No (w)).drew).trans LE).toBelow;obtain ⟨_, e44, k44⟩ := AL.2.2.2.2.2.2.2.2.2.2.2.2.2.2.2.2.2.2.2.2.2.2.2.2.2.2.2.2.2.2.2.2.2.2.2.2.2.2.2.2.2.2.2.2.1;refine qw (τ := [(0, _), (1, _), (2, _), (3, _), (8, _), (9, _), (60, .bool false)]) ⟨rfl, rfl, rfl, rfl, rfl, rfl, congrArg some e44, trivial⟩ ?_;clear AL AF AA AO
 have E1 := Ext.of_below hbd No;obtain ⟨wu1, hwu1⟩ : ∃ wu1, wu1 = w1 := ⟨_, rfl⟩;subst hwu1;have hM1 := hM.ext E1 (fun h => h) (fun h => h)
 refine zd (zy rfl (zp (zd (srx (mvx rfl (zb rfl (yc rfl rfl (zo (by omega)) (mvx rfl (zb rfl (yc rfl rfl (zo (by omega)) (anx rfl (zi (zi (qk 10 (.int .i64 ((2 + t + r : Nat) : Int)) rfl ((by first | rfl | (congr 1; omega) : (.int .i64 ((2 + ((t : Nat) : Int)) + ((r : Nat) : Int)) : Value) = _)) ?_))))))))))))))
 refine qt (No) Mut.none_ [] [] (ji [Fx.of (.int .i64 ((2 + t + r : Nat) : Int)),
  Fx.of (.bool false),
  Fx.of (.bool false),
  Fx.of (.int .i64 ((2 + t + r : Nat) : Int)),
  Fx.of (.pointer (some ⟨gm, 0, none⟩)),
  Fx.of (.pointer (some ⟨gm, 0, none⟩)),
  Fx.of (.pointer (some ⟨gm, 0, none⟩)),
  Fx.of (.slice (some ⟨gW, 0, none⟩) W.length cap),
  Fx.of (.int .i64 (((W.length : Nat)) : Int)),
  Fx.of (.pointer (some ⟨gm, 0, none⟩)),
  Fx.of (.pointer (some ⟨gm, 0, none⟩)),
  Fx.of (.pointer (some ⟨gm, 1, none⟩)),
  Fx.of (.int .i64 ((top : Nat) : Int)),
  Fx.of (.int .i64 ((((W.length : Nat)) : Int) - ((top : Nat) : Int))),
  Fx.of (.bool false),
  Fx.of (.bool false)]) vf rfl trivial (fun _ h => by cases h) ?_ ?_
 · refine ⟨?_, ?_, ?_, ?_, ?_, ?_, ?_, ?_, ?_, ?_, ?_, ?_, ?_, ?_, ?_, ?_, trivial⟩
   · intro vs X wq K;exact ze rfl ⟨Below.refl _ _, Left.of rfl⟩
   · intro vs X wq K;obtain ⟨_, e0, k0⟩ := K.dep 0 rfl rfl rfl;refine za 65 (.int .i64 ((2 + t + r : Nat) : Int)) rfl e0 ?_;exact vm rfl rfl ⟨Below.refl _ _, Left.of ((by rw [decide_eq_false]; omega : (.bool (decide (16777216 ≤ ((2 + t + r : Nat) : Int))) : Value) = _))⟩
   · intro vs X wq K;obtain ⟨_, e1, k1⟩ := K.dep 1 rfl rfl rfl;refine za 66 (.bool false) rfl e1 ?_;exact ze rfl ⟨Below.refl _ _, Left.of rfl⟩
   · intro vs X wq K;obtain ⟨_, e2, k2⟩ := K.dep 2 rfl rfl rfl;refine za 67 (.bool false) rfl e2 ?_;exact zj rfl (ze rfl ⟨Below.refl _ _, Left.of rfl⟩)
   · intro vs X wq K;obtain ⟨_, e2, k2⟩ := K.dep 2 rfl rfl rfl;refine za 67 (.bool false) rfl e2 ?_;exact zj rfl (ze rfl ⟨Below.refl _ _, Left.of rfl⟩)
   · intro vs X wq K;obtain ⟨_, e4, k4⟩ := K.dep 4 rfl rfl rfl;refine za 69 (.pointer (some ⟨gm, 0, none⟩)) rfl e4 ?_;obtain ⟨_, e2, k2⟩ := K.dep 2 rfl rfl rfl;refine za 67 (.bool false) rfl e2 ?_;exact zj rfl (yn rfl ⟨Below.refl _ _, Left.of rfl⟩)
   · intro vs X wq K;obtain ⟨_, e5, k5⟩ := K.dep 5 rfl rfl rfl;refine za 70 (.pointer (some ⟨gm, 0, none⟩)) rfl e5 ?_;obtain ⟨_, e2, k2⟩ := K.dep 2 rfl rfl rfl;refine za 67 (.bool false) rfl e2 ?_;exact zj rfl (zc Try.underlying24 rfl qv (by decide) rfl ⟨Below.refl _ _, Left.of rfl⟩)
   · intro vs X wq K;have LE := K.1;obtain ⟨_, e6, k6⟩ := K.dep 6 rfl rfl rfl;refine za 71 (.pointer (some ⟨gm, 0, none⟩)) rfl e6 ?_;obtain ⟨_, e2, k2⟩ := K.dep 2 rfl rfl rfl;refine za 67 (.bool false) rfl e2 ?_;exact zj rfl (zg Try.underlying22 rfl rfl (yv LE hM1.mb) rfl ⟨Below.refl _ _, Left.of rfl⟩)
   · intro vs X wq K;obtain ⟨_, e7, k7⟩ := K.dep 7 rfl rfl rfl;refine za 72 (.slice (some ⟨gW, 0, none⟩) W.length cap) rfl e7 ?_;obtain ⟨_, e2, k2⟩ := K.dep 2 rfl rfl rfl;refine za 67 (.bool false) rfl e2 ?_;exact zj rfl (yi Try.underlying22 rfl ⟨Below.refl _ _, Left.of rfl⟩)
   · intro vs X wq K;obtain ⟨_, e2, k2⟩ := K.dep 2 rfl rfl rfl;refine za 67 (.bool false) rfl e2 ?_;exact zj rfl (ze rfl ⟨Below.refl _ _, Left.of rfl⟩)
   · intro vs X wq K;obtain ⟨_, e9, k9⟩ := K.dep 9 rfl rfl rfl;refine za 74 (.pointer (some ⟨gm, 0, none⟩)) rfl e9 ?_;obtain ⟨_, e2, k2⟩ := K.dep 2 rfl rfl rfl;refine za 67 (.bool false) rfl e2 ?_;exact zj rfl (yn rfl ⟨Below.refl _ _, Left.of rfl⟩)
   · intro vs X wq K;obtain ⟨_, e10, k10⟩ := K.dep 10 rfl rfl rfl;refine za 75 (.pointer (some ⟨gm, 0, none⟩)) rfl e10 ?_;obtain ⟨_, e2, k2⟩ := K.dep 2 rfl rfl rfl;refine za 67 (.bool false) rfl e2 ?_;exact zj rfl (zc Try.underlying24 rfl sz3 (by decide) rfl ⟨Below.refl _ _, Left.of rfl⟩)
   · intro vs X wq K;have LE := K.1;obtain ⟨_, e11, k11⟩ := K.dep 11 rfl rfl rfl;refine za 76 (.pointer (some ⟨gm, 1, none⟩)) rfl e11 ?_;obtain ⟨_, e2, k2⟩ := K.dep 2 rfl rfl rfl;refine za 67 (.bool false) rfl e2 ?_;exact zj rfl (zg Try.underlying3 rfl rfl (yv LE hM1.mb) rfl ⟨Below.refl _ _, Left.of rfl⟩)
   · intro vs X wq K;obtain ⟨_, e8, k8⟩ := K.dep 8 rfl rfl rfl;refine za 73 (.int .i64 (((W.length : Nat)) : Int)) rfl e8 ?_;obtain ⟨_, e12, k12⟩ := K.dep 12 rfl rfl rfl;refine za 77 (.int .i64 ((top : Nat) : Int)) rfl e12 ?_;obtain ⟨_, e2, k2⟩ := K.dep 2 rfl rfl rfl;refine za 67 (.bool false) rfl e2 ?_
     exact zj rfl (vq rfl rfl (zo (by omega)) ⟨Below.refl _ _, Left.of rfl⟩)
   · intro vs X wq K;obtain ⟨_, e3, k3⟩ := K.dep 3 rfl rfl rfl;refine za 68 (.int .i64 ((2 + t + r : Nat) : Int)) rfl e3 ?_;obtain ⟨_, e13, k13⟩ := K.dep 13 rfl rfl rfl;refine za 78 (.int .i64 ((((W.length : Nat)) : Int) - ((top : Nat) : Int))) rfl e13 ?_;obtain ⟨_, e2, k2⟩ := K.dep 2 rfl rfl rfl;refine za 67 (.bool false) rfl e2 ?_
     exact zj rfl (qh rfl rfl ⟨Below.refl _ _, Left.of ((by rw [decide_eq_false]; omega : (.bool (decide (((((W.length : Nat)) : Int) - ((top : Nat) : Int)) < ((2 + t + r : Nat) : Int))) : Value) = _))⟩)
   · intro vs X wq K;obtain ⟨_, e2, k2⟩ := K.dep 2 rfl rfl rfl;refine za 67 (.bool false) rfl e2 ?_;obtain ⟨_, e14, k14⟩ := K.dep 14 rfl rfl rfl;refine za 79 (.bool false) rfl e14 ?_;exact zr rfl rfl ⟨Below.refl _ _, Left.of rfl⟩
 intro vs w2 LE AO AL AF AA;have hbd : Below (wu1).heap.size (wu1) w2 := (((Ext.refl No (wu1)).drew).trans LE).toBelow;obtain ⟨_, e15, k15⟩ := AL.2.2.2.2.2.2.2.2.2.2.2.2.2.2.2.1;refine qw (τ := [(0, _), (1, _), (2, _), (8, _), (9, _), (10, _), (80, .bool false)]) ⟨rfl, rfl, rfl, rfl, rfl, rfl, congrArg some e15, trivial⟩ ?_;clear AL AF AA AO;have E2 := E1.trans (Ext.of_below hbd No)
 have hM2 := hM1.ext (Ext.of_below hbd No) (fun h => h) (fun h => h)
 refine zd (zy rfl (zp (zd (srx (mvx rfl (zb rfl (yn rfl (zb rfl (zc Try.underlying24 rfl sz3 (by decide) rfl (zb rfl (zg Try.underlying3 rfl rfl hM2.mb rfl (anx rfl (srx (mvx rfl (zb rfl (yn rfl (zb rfl (zc Try.underlying24 rfl sz3 (by decide) rfl (zb rfl (zg Try.underlying3 rfl rfl hM2.mb rfl (mvx rfl (zb rfl (yc rfl rfl (zo (by omega)) (zb rfl (yn rfl (zb rfl (zc Try.underlying24 rfl sz3 (by decide) rfl (qd (vr (cs' := #[.slice (some ⟨gW, 0, none⟩) W.length cap, .int .i64 ((top + (2 + t + r) : Nat) : Int)]) sz3 rfl rfl hM2.mb rfl rfl (Nat.le_of_ble_eq_true rfl) (by rw [show (((top + (2 + t + r) : Nat)) : Int) = ((top : Nat) : Int) + ((2 + t + r : Nat) : Int) from by omega]; rfl) ?_)))))))))))))))))))))))))))))
 rintro wu3 bm3 E3;have hM3 : OwnM lo wu3 gm gW cap W (top + (2 + t + r)) := ⟨bm3, qu hM2.row E3 (fun q hq hx => by cases hq; exact hmW (qp hx).symm), hM.in_, by omega, hf, h4⟩;have hE3 : Ext (Mut [some gm, some gW]) w wu3 := (E2.mono (Y := Mut [some gm, some gW]) (fun _ h _ => h.elim)).step E3 (fun q hq => Or.inl (hXm q hq))
 refine rnx (srx (zb rfl (zq en31 rfl ((const0_any _).mono ?_))));rintro e w3 ⟨rfl, hb⟩;refine ⟨_, rfl, ?_⟩;have E4 := Ext.of_below hb No;have hM4 := hM3.ext E4 (fun h => h) (fun h => h);have hE4 := hE3.step E4 (fun _ h => h.elim);have hcap : W.length ≤ cap := by
  rcases hM4.row.2 with ⟨h9, _⟩ | ⟨g9, c9, u9, h9, _, _, h8, _⟩
  · cases h9
  · cases h9; exact h8
 refine mvx rfl (zb rfl (zf rfl rfl (zb rfl (zf rfl rfl (avx rfl (anx rfl (zi (zi ?_))))))));refine qt (No) Mut.none_ [] [] (ji [Fx.of (.pointer (some ⟨gm, 0, none⟩)),
  Fx.of (.pointer (some ⟨gm, 0, none⟩)),
  Fx.of (.pointer (some ⟨gm, 0, none⟩)),
  Fx.of (.slice (some ⟨gW, 0, none⟩) W.length cap),
  Fx.of (.int .i64 ((top : Nat) : Int)),
  Fx.of (.pointer (some ⟨gm, 0, none⟩)),
  Fx.of (.pointer (some ⟨gm, 0, none⟩)),
  Fx.of (.pointer (some ⟨gm, 1, none⟩)),
  Fx.of (.int .i64 ((top + (2 + t + r) : Nat) : Int)),
  Fx.of (.slice (if cap = top then (some ⟨gW, 0, none⟩) else (some (⟨gW, 0, none⟩ : Addr)).map (·.add (top * 1))) (top + (2 + t + r) - top) (cap - top)),
  Fx.of (.int .i64 ((((top + (2 + t + r) - top) : Nat)) : Int)),
  Fx.of (.int .i64 0)]) vf rfl trivial (fun _ h => by cases h) ?_ ?_
 · refine ⟨?_, ?_, ?_, ?_, ?_, ?_, ?_, ?_, ?_, ?_, ?_, ?_, trivial⟩
   · intro vs X wq K;exact ze rfl ⟨Below.refl _ _, Left.of rfl⟩
   · intro vs X wq K;obtain ⟨_, e0, k0⟩ := K.dep 0 rfl rfl rfl;refine za 97 (.pointer (some ⟨gm, 0, none⟩)) rfl e0 ?_;exact yn rfl ⟨Below.refl _ _, Left.of rfl⟩
   · intro vs X wq K;obtain ⟨_, e1, k1⟩ := K.dep 1 rfl rfl rfl;refine za 98 (.pointer (some ⟨gm, 0, none⟩)) rfl e1 ?_;exact zc Try.underlying24 rfl qv (by decide) rfl ⟨Below.refl _ _, Left.of rfl⟩
   · intro vs X wq K;have LE := K.1;obtain ⟨_, e2, k2⟩ := K.dep 2 rfl rfl rfl;refine za 99 (.pointer (some ⟨gm, 0, none⟩)) rfl e2 ?_;exact zg Try.underlying22 rfl rfl (yv LE hM4.mb) rfl ⟨Below.refl _ _, Left.of rfl⟩
   · intro vs X wq K;exact ze rfl ⟨Below.refl _ _, Left.of rfl⟩
   · intro vs X wq K;exact ze rfl ⟨Below.refl _ _, Left.of rfl⟩
   · intro vs X wq K;obtain ⟨_, e5, k5⟩ := K.dep 5 rfl rfl rfl;refine za 102 (.pointer (some ⟨gm, 0, none⟩)) rfl e5 ?_;exact yn rfl ⟨Below.refl _ _, Left.of rfl⟩
   · intro vs X wq K;obtain ⟨_, e6, k6⟩ := K.dep 6 rfl rfl rfl;refine za 103 (.pointer (some ⟨gm, 0, none⟩)) rfl e6 ?_;exact zc Try.underlying24 rfl sz3 (by decide) rfl ⟨Below.refl _ _, Left.of rfl⟩
   · intro vs X wq K;have LE := K.1;obtain ⟨_, e7, k7⟩ := K.dep 7 rfl rfl rfl;refine za 104 (.pointer (some ⟨gm, 1, none⟩)) rfl e7 ?_;exact zg Try.underlying3 rfl rfl (yv LE hM4.mb) rfl ⟨Below.refl _ _, Left.of rfl⟩
   · intro vs X wq K;obtain ⟨_, e3, k3⟩ := K.dep 3 rfl rfl rfl;refine za 100 (.slice (some ⟨gW, 0, none⟩) W.length cap) rfl e3 ?_;obtain ⟨_, e4, k4⟩ := K.dep 4 rfl rfl rfl;refine za 101 (.int .i64 ((top : Nat) : Int)) rfl e4 ?_;obtain ⟨_, e8, k8⟩ := K.dep 8 rfl rfl rfl;refine za 105 (.int .i64 ((top + (2 + t + r) : Nat) : Int)) rfl e8 ?_
     exact kq (l := top) (h := top + (2 + t + r)) Try.underlying22 qi rfl ⟨_, rfl⟩ ⟨_, rfl⟩ (by omega) (by omega) ⟨Below.refl _ _, Left.of rfl⟩
   · intro vs X wq K;obtain ⟨_, e9, k9⟩ := K.dep 9 rfl rfl rfl;refine za 106 (.slice (if cap = top then (some ⟨gW, 0, none⟩) else (some (⟨gW, 0, none⟩ : Addr)).map (·.add (top * 1))) (top + (2 + t + r) - top) (cap - top)) rfl e9 ?_;exact yi Try.underlying22 rfl ⟨Below.refl _ _, Left.of rfl⟩
   · intro vs X wq K;exact ze rfl ⟨Below.refl _ _, Left.of rfl⟩
 intro vs w4 LE AO AL AF AA;have hbd : Below (w3).heap.size (w3) w4 := (((Ext.refl No (w3)).drew).trans LE).toBelow;obtain ⟨_, e10, k10⟩ := AL.2.2.2.2.2.2.2.2.2.2.1;obtain ⟨_, e11, k11⟩ := AL.2.2.2.2.2.2.2.2.2.2.2.1
 refine qw (τ := [(0, _), (1, _), (2, _), (8, _), (9, _), (10, _), (11, _), (12, _), (107, .int .i64 ((((top + (2 + t + r) - top) : Nat)) : Int)), (108, .int .i64 0)]) ⟨rfl, rfl, rfl, rfl, rfl, rfl, rfl, rfl, congrArg some e10, congrArg some e11, trivial⟩ ?_;clear AL AF AA AO;have hM5 := hM4.ext (Ext.of_below hbd No) (fun h => h) (fun h => h)
 have hE5 := hE4.step (Ext.of_below hbd No) (fun _ h => h.elim)
 refine zd (zu (qa (ι := Nat) (fun i => [(0, .pointer (some ⟨gm, 0, none⟩)), (1, .int .i64 ((k : Nat) : Int)), (2, .int .i64 ((t : Nat) : Int)), (10, .int .i64 ((2 + t + r : Nat) : Int)), (11, .int .i64 ((top : Nat) : Int)), (12, .int .u64 2), (107, .int .i64 ((top + (2 + t + r) - top : Nat) : Int)), (108, .int .i64 ((i : Nat) : Int))]) (fun i w' => i ≤ 2 + t + r ∧ OwnM lo w' gm gW cap W (top + (2 + t + r)) ∧ Ext (Mut [some gm, some gW]) w w') (fun i => 2 + t + r - i) 0 ⟨rfl, rfl, rfl, rfl, rfl, rfl, rfl, rfl, trivial⟩ (⟨Nat.zero_le _, hM5, hE5⟩) ?_))
 rintro i w6 ⟨hi0, hMi, hEi⟩;refine srx (zb rfl (yl rfl rfl (rnx (zi (ym rfl (fun hc => ?_) (fun hc => ?_))))))
 ·
  have hc := of_decide_eq_true hc;have hlt : i < 2 + t + r := by omega
  refine zp (zd (zi (zu (srx (mvx rfl (anx rfl (zz (mvx rfl (zb rfl (yn rfl (zb rfl (zc Try.underlying24 rfl qv (by decide) rfl (zb rfl (zg Try.underlying22 rfl rfl hMi.mb rfl (mvx rfl (mvx rfl (zb rfl (yc rfl rfl (zo (by omega)) (zb rfl (zk (j := top + i) Try.underlying22 qi rfl rfl (by omega) (by omega) (qd (ju (o := 0 + (top + i)) (xs' := yy W) qi rfl rfl hMi.row (by omega) rfl rfl (by rw [Nat.zero_add]; exact (vh (x := 0)).trans (by rw [set_zero (by omega) (hz _ (by omega))])) ?_))))))))))))))))))))))
  rintro wS OS ES;refine yp (zh (zd (zz (zb rfl (yc rfl rfl (zo (by omega)) (mvx rfl (yp ?_)))))))
  exact yo (i + 1) (by show 2 + t + r - (i + 1) < 2 + t + r - i; omega) ⟨rfl, rfl, rfl, rfl, rfl, rfl, rfl, rfl, trivial⟩ (⟨hlt, ⟨jq hMi.mb hMi.row (by decide) ES, OS, hMi.in_, hMi.one, hMi.len, hMi.most⟩, hEi.step ES (fun q hq => Or.inl (hXw q hq))⟩)
 ·
  obtain ⟨s, hs⟩ : ∃ s, s = 2 + t + r := ⟨_, rfl⟩;have hc := of_decide_eq_false hc
  refine qk 10 (.int .i64 ((s : Nat) : Int)) rfl ((by rw [hs] : (.int .i64 ((2 + t + r : Nat) : Int) : Value) = _)) (qb (zm (zm (yb (zd (srx (mvx rfl (zb rfl (yn rfl (zb rfl (zc Try.underlying24 rfl qv (by decide) rfl (zb rfl (zg Try.underlying22 rfl rfl hMi.mb rfl (mvx rfl (mvx rfl (zb rfl (yt Try.underlying27 Try.underlying3 rfl (yf (by omega)) (mvx rfl (zb rfl (yt Try.underlying27 Try.underlying3 rfl (yf (by omega)) (zb rfl (ou rfl rfl (by decide) (shl_O (x := t) (k := 8) (by decide) (by omega)) (zb rfl (ow_or rfl rfl (ov (x := k) (y := t * 2 ^ 8) (k := 8) (by omega) (by omega) (by decide) (by omega)) (mvx rfl (zb rfl (yt Try.underlying27 Try.underlying3 rfl (yf (by omega)) (zb rfl (ou rfl rfl (by decide) (shl_O (x := s) (k := 32) (by decide) (by omega)) (zb rfl (ow_or rfl rfl (ov (x := k + t * 2 ^ 8) (y := s * 2 ^ 32) (k := 32) (by omega) (by omega) (by decide) (by omega)) (zt 134 (.int .u64 ((vb k t s : Nat) : Int)) rfl ((by congr 1; unfold vb; omega : (.int .u64 ((k + t * 2 ^ 8 + s * 2 ^ 32 : Nat) : Int) : Value) = _)) (zb rfl (zk (j := top) Try.underlying22 qi rfl rfl rfl (by omega) (qd (ju (o := 0 + top) (xs' := yy (W.set top (vb k t s))) qi rfl rfl hMi.row (by omega) rfl rfl (by rw [Nat.zero_add, vh]) ?_))))))))))))))))))))))))))))))))))))
  rintro wS OS ES;have hh : U64 (vb k t s) := by unfold U64 vb; omega
  have hM6 := hMi.put hh OS ES;have hE6 := hEi.step ES (fun q hq => Or.inl (hXw q hq));have hN0 : NewM W (W.set top (vb k t s)) top (vb k t s) 0 := .zero (by omega)
  refine rnx (zi (srx (mvx rfl (mvx rfl (rnx (zu (qa (ι := Nat × List Nat) (fun (j, V) => [(0, .pointer (some ⟨gm, 0, none⟩)), (11, .int .i64 ((top : Nat) : Int)), (12, .int .u64 2), (136, .int .i64 ((t : Nat) : Int)), (137, .int .i64 ((j : Nat) : Int))]) (fun (j, V) w' => j ≤ t ∧ NewM W V top (vb k t s) j ∧ OwnM lo w' gm gW cap V (top + (2 + t + r)) ∧ Ext (Mut [some gm, some gW]) w w') (fun (j, _) => t - j) (0, W.set top (vb k t s)) ⟨rfl, rfl, rfl, rfl, rfl, trivial⟩ (⟨Nat.zero_le _, hN0, hM6, hE6⟩) ?_)))))))
  rintro ⟨j, V⟩ w8 ⟨hjt, hNj, hMj, hEj⟩;have hVl := hNj.1;refine srx (zb rfl (yl rfl rfl (rnx (zi (ym rfl (fun hc2 => ?_) (fun hc2 => ?_))))))
  ·
   have hc2 := of_decide_eq_true hc2;have hjlt : j < t := by omega
   refine zp (zd (zi (zu (srx (mvx rfl (anx rfl (zz (mvx rfl (zb rfl (yn rfl (zb rfl (zc Try.underlying24 rfl qv (by decide) rfl (zb rfl (zg Try.underlying22 rfl rfl hMj.mb rfl (mvx rfl (zb rfl (yc rfl rfl (zo (by omega)) (mvx rfl (zb rfl (yc rfl rfl (zo (by omega)) (mvx rfl (zb rfl (zk (j := top + 2 + j) Try.underlying22 qi rfl rfl (by omega) (by omega) (qd (ju (o := 0 + (top + 2 + j)) (xs' := yy (V.set (top + 2 + j) 2)) qi rfl rfl hMj.row (by omega) rfl rfl (by rw [Nat.zero_add]; exact vh (x := 2)) ?_)))))))))))))))))))))))))
   rintro wT OT ET;refine yp (zh (zd (zz (zb rfl (yc rfl rfl (zo (by omega)) (mvx rfl (yp ?_)))))));exact yo (j + 1, V.set (top + 2 + j) 2) (by show t - (j + 1) < t - j; omega) ⟨rfl, rfl, rfl, rfl, rfl, trivial⟩ (⟨hjlt, hNj.next (by omega), hMj.put (show U64 2 from by unfold U64; omega) OT ET, hEj.step ET (fun q hq => Or.inl (hXw q hq))⟩)
  ·
   have hc2 := of_decide_eq_false hc2;have hjt2 : j = t := by omega
   have hV : V = laid W top k (List.replicate t 2) (List.replicate r 0) := NewM.isLaid (hs ▸ hjt2 ▸ hNj) hz hf;refine qb (zm (zm (yb (zd (srx (mvx rfl (avx rfl (anx rfl (zx (zw (rs := [.tmp 8, .tmp 9]) (vs := [_, _]) rfl ⟨rfl, rfl, trivial⟩ ?_))))))))));exact ⟨rfl, hV ▸ hMj, hEj⟩
theorem aalloc_full (hf : W.length < top + (2 + t + r)) : Calls Try.prog 52 #[.pointer (some ⟨gm, 0, none⟩), .int .i64 ((k : Nat) : Int), .int .i64 ((t : Nat) : Int), .int .i64 ((r : Nat) : Int)] w fun e w' => e = .returned (.tuple #[.int .i64 0, .int .i64 5]) ∧ Below w.heap.size w w' := by
 have _ := hmW;have h1 := hM.one;have h3 := hM.len;have h4 := hM.most;refine yg Try.func52 rfl Try.ntmps52 rfl (srx (avx rfl (anx rfl (zi (zi ?_)))));refine qt (No) Mut.none_ [] [] (ji [Fx.of (.pointer (some ⟨gm, 0, none⟩)),
  Fx.of (.bool false),
  Fx.of (.bool false),
  Fx.of (.pointer (some ⟨gm, 0, none⟩)),
  Fx.of (.pointer (some ⟨gm, 0, none⟩)),
  Fx.of (.pointer (some ⟨gm, 1, none⟩)),
  Fx.of (.int .i64 ((top : Nat) : Int)),
  Fx.of (.bool false),
  Fx.of (.bool false),
  Fx.of (.bool false),
  Fx.of (.pointer (some ⟨gm, 0, none⟩)),
  Fx.of (.pointer (some ⟨gm, 0, none⟩)),
  Fx.of (.pointer (some ⟨gm, 1, none⟩)),
  Fx.of (.int .i64 ((top : Nat) : Int)),
  Fx.of (.pointer (some ⟨gm, 0, none⟩)),
  Fx.of (.pointer (some ⟨gm, 0, none⟩)),
  Fx.of (.pointer (some ⟨gm, 0, none⟩)),
  Fx.of (.slice (some ⟨gW, 0, none⟩) W.length cap),
  Fx.of (.int .i64 (((W.length : Nat)) : Int)),
  Fx.of (.bool false),
  Fx.of (.bool false),
  Fx.of (.bool false),
  Fx.of (.int .i64 ((k : Nat) : Int)),
  Fx.of (.bool false),
  Fx.of (.bool false),
  Fx.of (.bool false),
  Fx.of (.int .i64 ((k : Nat) : Int)),
  Fx.of (.bool false),
  Fx.of (.bool false),
  Fx.of (.bool false),
  Fx.of (.int .i64 ((t : Nat) : Int)),
  Fx.of (.bool false),
  Fx.of (.bool false),
  Fx.of (.bool false),
  Fx.of (.int .i64 ((r : Nat) : Int)),
  Fx.of (.bool false),
  Fx.of (.bool false),
  Fx.of (.bool false),
  Fx.of (.int .i64 ((t : Nat) : Int)),
  Fx.of (.bool false),
  Fx.of (.bool false),
  Fx.of (.bool false),
  Fx.of (.int .i64 ((r : Nat) : Int)),
  Fx.of (.bool false),
  Fx.of (.bool false)]) vf rfl trivial (fun _ h => by cases h) ?_ ?_
 · refine ⟨?_, ?_, ?_, ?_, ?_, ?_, ?_, ?_, ?_, ?_, ?_, ?_, ?_, ?_, ?_, ?_, ?_, ?_, ?_, ?_, ?_, ?_, ?_, ?_, ?_, ?_, ?_, ?_, ?_, ?_, ?_, ?_, ?_, ?_, ?_, ?_, ?_, ?_, ?_, ?_, ?_, ?_, ?_, ?_, ?_, trivial⟩
   · intro vs X wq K;exact ze rfl ⟨Below.refl _ _, Left.of rfl⟩
   · intro vs X wq K;obtain ⟨_, e0, k0⟩ := K.dep 0 rfl rfl rfl;refine za 16 (.pointer (some ⟨gm, 0, none⟩)) rfl e0 ?_;exact gk Try.underlying39 rfl rfl ⟨Below.refl _ _, Left.of rfl⟩
   · intro vs X wq K;obtain ⟨_, e1, k1⟩ := K.dep 1 rfl rfl rfl;refine za 17 (.bool false) rfl e1 ?_;exact ze rfl ⟨Below.refl _ _, Left.of rfl⟩
   · intro vs X wq K;obtain ⟨_, e2, k2⟩ := K.dep 2 rfl rfl rfl;refine za 18 (.bool false) rfl e2 ?_;exact zj rfl (ze rfl ⟨Below.refl _ _, Left.of rfl⟩)
   · intro vs X wq K;obtain ⟨_, e3, k3⟩ := K.dep 3 rfl rfl rfl;refine za 19 (.pointer (some ⟨gm, 0, none⟩)) rfl e3 ?_;obtain ⟨_, e2, k2⟩ := K.dep 2 rfl rfl rfl;refine za 18 (.bool false) rfl e2 ?_;exact zj rfl (yn rfl ⟨Below.refl _ _, Left.of rfl⟩)
   · intro vs X wq K;obtain ⟨_, e4, k4⟩ := K.dep 4 rfl rfl rfl;refine za 20 (.pointer (some ⟨gm, 0, none⟩)) rfl e4 ?_;obtain ⟨_, e2, k2⟩ := K.dep 2 rfl rfl rfl;refine za 18 (.bool false) rfl e2 ?_;exact zj rfl (zc Try.underlying24 rfl sz3 (by decide) rfl ⟨Below.refl _ _, Left.of rfl⟩)
   · intro vs X wq K;have LE := K.1;obtain ⟨_, e5, k5⟩ := K.dep 5 rfl rfl rfl;refine za 21 (.pointer (some ⟨gm, 1, none⟩)) rfl e5 ?_;obtain ⟨_, e2, k2⟩ := K.dep 2 rfl rfl rfl;refine za 18 (.bool false) rfl e2 ?_;exact zj rfl (zg Try.underlying3 rfl rfl (yv LE hM.mb) rfl ⟨Below.refl _ _, Left.of rfl⟩)
   · intro vs X wq K;obtain ⟨_, e6, k6⟩ := K.dep 6 rfl rfl rfl;refine za 22 (.int .i64 ((top : Nat) : Int)) rfl e6 ?_;obtain ⟨_, e2, k2⟩ := K.dep 2 rfl rfl rfl;refine za 18 (.bool false) rfl e2 ?_;exact zj rfl (yl rfl rfl ⟨Below.refl _ _, Left.of ((by rw [decide_eq_false]; omega : (.bool (decide (((top : Nat) : Int) < 1)) : Value) = _))⟩)
   · intro vs X wq K;obtain ⟨_, e2, k2⟩ := K.dep 2 rfl rfl rfl;refine za 18 (.bool false) rfl e2 ?_;obtain ⟨_, e7, k7⟩ := K.dep 7 rfl rfl rfl;refine za 23 (.bool false) rfl e7 ?_;exact zr rfl rfl ⟨Below.refl _ _, Left.of rfl⟩
   · intro vs X wq K;obtain ⟨_, e8, k8⟩ := K.dep 8 rfl rfl rfl;refine za 24 (.bool false) rfl e8 ?_;exact ze rfl ⟨Below.refl _ _, Left.of rfl⟩
   · intro vs X wq K;obtain ⟨_, e9, k9⟩ := K.dep 9 rfl rfl rfl;refine za 25 (.bool false) rfl e9 ?_;exact zj rfl (ze rfl ⟨Below.refl _ _, Left.of rfl⟩)
   · intro vs X wq K;obtain ⟨_, e10, k10⟩ := K.dep 10 rfl rfl rfl;refine za 26 (.pointer (some ⟨gm, 0, none⟩)) rfl e10 ?_;obtain ⟨_, e9, k9⟩ := K.dep 9 rfl rfl rfl;refine za 25 (.bool false) rfl e9 ?_;exact zj rfl (yn rfl ⟨Below.refl _ _, Left.of rfl⟩)
   · intro vs X wq K;obtain ⟨_, e11, k11⟩ := K.dep 11 rfl rfl rfl;refine za 27 (.pointer (some ⟨gm, 0, none⟩)) rfl e11 ?_;obtain ⟨_, e9, k9⟩ := K.dep 9 rfl rfl rfl;refine za 25 (.bool false) rfl e9 ?_;exact zj rfl (zc Try.underlying24 rfl sz3 (by decide) rfl ⟨Below.refl _ _, Left.of rfl⟩)
   · intro vs X wq K;have LE := K.1;obtain ⟨_, e12, k12⟩ := K.dep 12 rfl rfl rfl;refine za 28 (.pointer (some ⟨gm, 1, none⟩)) rfl e12 ?_;obtain ⟨_, e9, k9⟩ := K.dep 9 rfl rfl rfl;refine za 25 (.bool false) rfl e9 ?_;exact zj rfl (zg Try.underlying3 rfl rfl (yv LE hM.mb) rfl ⟨Below.refl _ _, Left.of rfl⟩)
   · intro vs X wq K;obtain ⟨_, e9, k9⟩ := K.dep 9 rfl rfl rfl;refine za 25 (.bool false) rfl e9 ?_;exact zj rfl (ze rfl ⟨Below.refl _ _, Left.of rfl⟩)
   · intro vs X wq K;obtain ⟨_, e14, k14⟩ := K.dep 14 rfl rfl rfl;refine za 30 (.pointer (some ⟨gm, 0, none⟩)) rfl e14 ?_;obtain ⟨_, e9, k9⟩ := K.dep 9 rfl rfl rfl;refine za 25 (.bool false) rfl e9 ?_;exact zj rfl (yn rfl ⟨Below.refl _ _, Left.of rfl⟩)
   · intro vs X wq K;obtain ⟨_, e15, k15⟩ := K.dep 15 rfl rfl rfl;refine za 31 (.pointer (some ⟨gm, 0, none⟩)) rfl e15 ?_;obtain ⟨_, e9, k9⟩ := K.dep 9 rfl rfl rfl;refine za 25 (.bool false) rfl e9 ?_;exact zj rfl (zc Try.underlying24 rfl qv (by decide) rfl ⟨Below.refl _ _, Left.of rfl⟩)
   · intro vs X wq K;have LE := K.1;obtain ⟨_, e16, k16⟩ := K.dep 16 rfl rfl rfl;refine za 32 (.pointer (some ⟨gm, 0, none⟩)) rfl e16 ?_;obtain ⟨_, e9, k9⟩ := K.dep 9 rfl rfl rfl;refine za 25 (.bool false) rfl e9 ?_;exact zj rfl (zg Try.underlying22 rfl rfl (yv LE hM.mb) rfl ⟨Below.refl _ _, Left.of rfl⟩)
   · intro vs X wq K;obtain ⟨_, e17, k17⟩ := K.dep 17 rfl rfl rfl;refine za 33 (.slice (some ⟨gW, 0, none⟩) W.length cap) rfl e17 ?_;obtain ⟨_, e9, k9⟩ := K.dep 9 rfl rfl rfl;refine za 25 (.bool false) rfl e9 ?_;exact zj rfl (yi Try.underlying22 rfl ⟨Below.refl _ _, Left.of rfl⟩)
   · intro vs X wq K;obtain ⟨_, e13, k13⟩ := K.dep 13 rfl rfl rfl;refine za 29 (.int .i64 ((top : Nat) : Int)) rfl e13 ?_;obtain ⟨_, e18, k18⟩ := K.dep 18 rfl rfl rfl;refine za 34 (.int .i64 (((W.length : Nat)) : Int)) rfl e18 ?_;obtain ⟨_, e9, k9⟩ := K.dep 9 rfl rfl rfl;refine za 25 (.bool false) rfl e9 ?_
     exact zj rfl (qh rfl rfl ⟨Below.refl _ _, Left.of ((by rw [decide_eq_false]; omega : (.bool (decide ((((W.length : Nat)) : Int) < ((top : Nat) : Int))) : Value) = _))⟩)
   · intro vs X wq K;obtain ⟨_, e9, k9⟩ := K.dep 9 rfl rfl rfl;refine za 25 (.bool false) rfl e9 ?_;obtain ⟨_, e19, k19⟩ := K.dep 19 rfl rfl rfl;refine za 35 (.bool false) rfl e19 ?_;exact zr rfl rfl ⟨Below.refl _ _, Left.of rfl⟩
   · intro vs X wq K;obtain ⟨_, e20, k20⟩ := K.dep 20 rfl rfl rfl;refine za 36 (.bool false) rfl e20 ?_;exact ze rfl ⟨Below.refl _ _, Left.of rfl⟩
   · intro vs X wq K;obtain ⟨_, e21, k21⟩ := K.dep 21 rfl rfl rfl;refine za 37 (.bool false) rfl e21 ?_;exact zj rfl (ze rfl ⟨Below.refl _ _, Left.of rfl⟩)
   · intro vs X wq K;obtain ⟨_, e22, k22⟩ := K.dep 22 rfl rfl rfl;refine za 38 (.int .i64 ((k : Nat) : Int)) rfl e22 ?_;obtain ⟨_, e21, k21⟩ := K.dep 21 rfl rfl rfl;refine za 37 (.bool false) rfl e21 ?_;exact zj rfl (yl rfl rfl ⟨Below.refl _ _, Left.of ((by rw [decide_eq_false]; omega : (.bool (decide (((k : Nat) : Int) < 1)) : Value) = _))⟩)
   · intro vs X wq K;obtain ⟨_, e21, k21⟩ := K.dep 21 rfl rfl rfl;refine za 37 (.bool false) rfl e21 ?_;obtain ⟨_, e23, k23⟩ := K.dep 23 rfl rfl rfl;refine za 39 (.bool false) rfl e23 ?_;exact zr rfl rfl ⟨Below.refl _ _, Left.of rfl⟩
   · intro vs X wq K;obtain ⟨_, e24, k24⟩ := K.dep 24 rfl rfl rfl;refine za 40 (.bool false) rfl e24 ?_;exact ze rfl ⟨Below.refl _ _, Left.of rfl⟩
   · intro vs X wq K;obtain ⟨_, e25, k25⟩ := K.dep 25 rfl rfl rfl;refine za 41 (.bool false) rfl e25 ?_;exact zj rfl (ze rfl ⟨Below.refl _ _, Left.of rfl⟩)
   · intro vs X wq K;obtain ⟨_, e26, k26⟩ := K.dep 26 rfl rfl rfl;refine za 42 (.int .i64 ((k : Nat) : Int)) rfl e26 ?_;obtain ⟨_, e25, k25⟩ := K.dep 25 rfl rfl rfl;refine za 41 (.bool false) rfl e25 ?_;exact zj rfl (qh rfl rfl ⟨Below.refl _ _, Left.of ((by rw [decide_eq_false]; omega : (.bool (decide (255 < ((k : Nat) : Int))) : Value) = _))⟩)
   · intro vs X wq K;obtain ⟨_, e25, k25⟩ := K.dep 25 rfl rfl rfl;refine za 41 (.bool false) rfl e25 ?_;obtain ⟨_, e27, k27⟩ := K.dep 27 rfl rfl rfl;refine za 43 (.bool false) rfl e27 ?_;exact zr rfl rfl ⟨Below.refl _ _, Left.of rfl⟩
   · intro vs X wq K;obtain ⟨_, e28, k28⟩ := K.dep 28 rfl rfl rfl;refine za 44 (.bool false) rfl e28 ?_;exact ze rfl ⟨Below.refl _ _, Left.of rfl⟩
   · intro vs X wq K;obtain ⟨_, e29, k29⟩ := K.dep 29 rfl rfl rfl;refine za 45 (.bool false) rfl e29 ?_;exact zj rfl (ze rfl ⟨Below.refl _ _, Left.of rfl⟩)
   · intro vs X wq K;obtain ⟨_, e30, k30⟩ := K.dep 30 rfl rfl rfl;refine za 46 (.int .i64 ((t : Nat) : Int)) rfl e30 ?_;obtain ⟨_, e29, k29⟩ := K.dep 29 rfl rfl rfl;refine za 45 (.bool false) rfl e29 ?_;exact zj rfl (yl rfl rfl ⟨Below.refl _ _, Left.of ((by rw [decide_eq_false]; omega : (.bool (decide (((t : Nat) : Int) < 0)) : Value) = _))⟩)
   · intro vs X wq K;obtain ⟨_, e29, k29⟩ := K.dep 29 rfl rfl rfl;refine za 45 (.bool false) rfl e29 ?_;obtain ⟨_, e31, k31⟩ := K.dep 31 rfl rfl rfl;refine za 47 (.bool false) rfl e31 ?_;exact zr rfl rfl ⟨Below.refl _ _, Left.of rfl⟩
   · intro vs X wq K;obtain ⟨_, e32, k32⟩ := K.dep 32 rfl rfl rfl;refine za 48 (.bool false) rfl e32 ?_;exact ze rfl ⟨Below.refl _ _, Left.of rfl⟩
   · intro vs X wq K;obtain ⟨_, e33, k33⟩ := K.dep 33 rfl rfl rfl;refine za 49 (.bool false) rfl e33 ?_;exact zj rfl (ze rfl ⟨Below.refl _ _, Left.of rfl⟩)
   · intro vs X wq K;obtain ⟨_, e34, k34⟩ := K.dep 34 rfl rfl rfl;refine za 50 (.int .i64 ((r : Nat) : Int)) rfl e34 ?_;obtain ⟨_, e33, k33⟩ := K.dep 33 rfl rfl rfl;refine za 49 (.bool false) rfl e33 ?_;exact zj rfl (yl rfl rfl ⟨Below.refl _ _, Left.of ((by rw [decide_eq_false]; omega : (.bool (decide (((r : Nat) : Int) < 0)) : Value) = _))⟩)
   · intro vs X wq K;obtain ⟨_, e33, k33⟩ := K.dep 33 rfl rfl rfl;refine za 49 (.bool false) rfl e33 ?_;obtain ⟨_, e35, k35⟩ := K.dep 35 rfl rfl rfl;refine za 51 (.bool false) rfl e35 ?_;exact zr rfl rfl ⟨Below.refl _ _, Left.of rfl⟩
   · intro vs X wq K;obtain ⟨_, e36, k36⟩ := K.dep 36 rfl rfl rfl;refine za 52 (.bool false) rfl e36 ?_;exact ze rfl ⟨Below.refl _ _, Left.of rfl⟩
   · intro vs X wq K;obtain ⟨_, e37, k37⟩ := K.dep 37 rfl rfl rfl;refine za 53 (.bool false) rfl e37 ?_;exact zj rfl (ze rfl ⟨Below.refl _ _, Left.of rfl⟩)
   · intro vs X wq K;obtain ⟨_, e38, k38⟩ := K.dep 38 rfl rfl rfl;refine za 54 (.int .i64 ((t : Nat) : Int)) rfl e38 ?_;obtain ⟨_, e37, k37⟩ := K.dep 37 rfl rfl rfl;refine za 53 (.bool false) rfl e37 ?_;exact zj rfl (qh rfl rfl ⟨Below.refl _ _, Left.of ((by rw [decide_eq_false]; omega : (.bool (decide (1048576 < ((t : Nat) : Int))) : Value) = _))⟩)
   · intro vs X wq K;obtain ⟨_, e37, k37⟩ := K.dep 37 rfl rfl rfl;refine za 53 (.bool false) rfl e37 ?_;obtain ⟨_, e39, k39⟩ := K.dep 39 rfl rfl rfl;refine za 55 (.bool false) rfl e39 ?_;exact zr rfl rfl ⟨Below.refl _ _, Left.of rfl⟩
   · intro vs X wq K;obtain ⟨_, e40, k40⟩ := K.dep 40 rfl rfl rfl;refine za 56 (.bool false) rfl e40 ?_;exact ze rfl ⟨Below.refl _ _, Left.of rfl⟩
   · intro vs X wq K;obtain ⟨_, e41, k41⟩ := K.dep 41 rfl rfl rfl;refine za 57 (.bool false) rfl e41 ?_;exact zj rfl (ze rfl ⟨Below.refl _ _, Left.of rfl⟩)
   · intro vs X wq K;obtain ⟨_, e42, k42⟩ := K.dep 42 rfl rfl rfl;refine za 58 (.int .i64 ((r : Nat) : Int)) rfl e42 ?_;obtain ⟨_, e41, k41⟩ := K.dep 41 rfl rfl rfl;refine za 57 (.bool false) rfl e41 ?_;exact zj rfl (qh rfl rfl ⟨Below.refl _ _, Left.of ((by rw [decide_eq_false]; omega : (.bool (decide (1048576 < ((r : Nat) : Int))) : Value) = _))⟩)
   · intro vs X wq K;obtain ⟨_, e41, k41⟩ := K.dep 41 rfl rfl rfl;refine za 57 (.bool false) rfl e41 ?_;obtain ⟨_, e43, k43⟩ := K.dep 43 rfl rfl rfl;refine za 59 (.bool false) rfl e43 ?_;exact zr rfl rfl ⟨Below.refl _ _, Left.of rfl⟩
 intro vs w1 LE AO AL AF AA;have hbd : Below (w).heap.size (w) w1 := (((Ext.refl No (w)).drew).trans LE).toBelow;obtain ⟨_, e44, k44⟩ := AL.2.2.2.2.2.2.2.2.2.2.2.2.2.2.2.2.2.2.2.2.2.2.2.2.2.2.2.2.2.2.2.2.2.2.2.2.2.2.2.2.2.2.2.2.1;refine qw (τ := [(0, _), (1, _), (2, _), (3, _), (8, _), (9, _), (60, .bool false)]) ⟨rfl, rfl, rfl, rfl, rfl, rfl, congrArg some e44, trivial⟩ ?_;clear AL AF AA AO
 have E1 := Ext.of_below hbd No;obtain ⟨wu1, hwu1⟩ : ∃ wu1, wu1 = w1 := ⟨_, rfl⟩;subst hwu1;have hM1 := hM.ext E1 (fun h => h) (fun h => h);refine zd (zy rfl (zp (zd (srx (mvx rfl (zb rfl (yc rfl rfl (zo (by omega)) (mvx rfl (zb rfl (yc rfl rfl (zo (by omega)) (anx rfl (zi (zi ?_)))))))))))))
 refine qt (No) Mut.none_ [] [] (ji [Fx.of (.int .i64 ((2 + ((t : Nat) : Int)) + ((r : Nat) : Int))),
  Fx.of (.bool false),
  Fx.of (.bool false),
  Fx.of (.int .i64 ((2 + ((t : Nat) : Int)) + ((r : Nat) : Int))),
  Fx.of (.pointer (some ⟨gm, 0, none⟩)),
  Fx.of (.pointer (some ⟨gm, 0, none⟩)),
  Fx.of (.pointer (some ⟨gm, 0, none⟩)),
  Fx.of (.slice (some ⟨gW, 0, none⟩) W.length cap),
  Fx.of (.int .i64 (((W.length : Nat)) : Int)),
  Fx.of (.pointer (some ⟨gm, 0, none⟩)),
  Fx.of (.pointer (some ⟨gm, 0, none⟩)),
  Fx.of (.pointer (some ⟨gm, 1, none⟩)),
  Fx.of (.int .i64 ((top : Nat) : Int)),
  Fx.of (.int .i64 ((((W.length : Nat)) : Int) - ((top : Nat) : Int))),
  Fx.of (.bool true),
  Fx.of (.bool true)]) vf rfl trivial (fun _ h => by cases h) ?_ ?_
 · refine ⟨?_, ?_, ?_, ?_, ?_, ?_, ?_, ?_, ?_, ?_, ?_, ?_, ?_, ?_, ?_, ?_, trivial⟩
   · intro vs X wq K;exact ze rfl ⟨Below.refl _ _, Left.of rfl⟩
   · intro vs X wq K;obtain ⟨_, e0, k0⟩ := K.dep 0 rfl rfl rfl;refine za 65 (.int .i64 ((2 + ((t : Nat) : Int)) + ((r : Nat) : Int))) rfl e0 ?_;exact vm rfl rfl ⟨Below.refl _ _, Left.of ((by rw [decide_eq_false]; omega : (.bool (decide (16777216 ≤ ((2 + ((t : Nat) : Int)) + ((r : Nat) : Int)))) : Value) = _))⟩
   · intro vs X wq K;obtain ⟨_, e1, k1⟩ := K.dep 1 rfl rfl rfl;refine za 66 (.bool false) rfl e1 ?_;exact ze rfl ⟨Below.refl _ _, Left.of rfl⟩
   · intro vs X wq K;obtain ⟨_, e2, k2⟩ := K.dep 2 rfl rfl rfl;refine za 67 (.bool false) rfl e2 ?_;exact zj rfl (ze rfl ⟨Below.refl _ _, Left.of rfl⟩)
   · intro vs X wq K;obtain ⟨_, e2, k2⟩ := K.dep 2 rfl rfl rfl;refine za 67 (.bool false) rfl e2 ?_;exact zj rfl (ze rfl ⟨Below.refl _ _, Left.of rfl⟩)
   · intro vs X wq K;obtain ⟨_, e4, k4⟩ := K.dep 4 rfl rfl rfl;refine za 69 (.pointer (some ⟨gm, 0, none⟩)) rfl e4 ?_;obtain ⟨_, e2, k2⟩ := K.dep 2 rfl rfl rfl;refine za 67 (.bool false) rfl e2 ?_;exact zj rfl (yn rfl ⟨Below.refl _ _, Left.of rfl⟩)
   · intro vs X wq K;obtain ⟨_, e5, k5⟩ := K.dep 5 rfl rfl rfl;refine za 70 (.pointer (some ⟨gm, 0, none⟩)) rfl e5 ?_;obtain ⟨_, e2, k2⟩ := K.dep 2 rfl rfl rfl;refine za 67 (.bool false) rfl e2 ?_;exact zj rfl (zc Try.underlying24 rfl qv (by decide) rfl ⟨Below.refl _ _, Left.of rfl⟩)
   · intro vs X wq K;have LE := K.1;obtain ⟨_, e6, k6⟩ := K.dep 6 rfl rfl rfl;refine za 71 (.pointer (some ⟨gm, 0, none⟩)) rfl e6 ?_;obtain ⟨_, e2, k2⟩ := K.dep 2 rfl rfl rfl;refine za 67 (.bool false) rfl e2 ?_;exact zj rfl (zg Try.underlying22 rfl rfl (yv LE hM1.mb) rfl ⟨Below.refl _ _, Left.of rfl⟩)
   · intro vs X wq K;obtain ⟨_, e7, k7⟩ := K.dep 7 rfl rfl rfl;refine za 72 (.slice (some ⟨gW, 0, none⟩) W.length cap) rfl e7 ?_;obtain ⟨_, e2, k2⟩ := K.dep 2 rfl rfl rfl;refine za 67 (.bool false) rfl e2 ?_;exact zj rfl (yi Try.underlying22 rfl ⟨Below.refl _ _, Left.of rfl⟩)
   · intro vs X wq K;obtain ⟨_, e2, k2⟩ := K.dep 2 rfl rfl rfl;refine za 67 (.bool false) rfl e2 ?_;exact zj rfl (ze rfl ⟨Below.refl _ _, Left.of rfl⟩)
   · intro vs X wq K;obtain ⟨_, e9, k9⟩ := K.dep 9 rfl rfl rfl;refine za 74 (.pointer (some ⟨gm, 0, none⟩)) rfl e9 ?_;obtain ⟨_, e2, k2⟩ := K.dep 2 rfl rfl rfl;refine za 67 (.bool false) rfl e2 ?_;exact zj rfl (yn rfl ⟨Below.refl _ _, Left.of rfl⟩)
   · intro vs X wq K;obtain ⟨_, e10, k10⟩ := K.dep 10 rfl rfl rfl;refine za 75 (.pointer (some ⟨gm, 0, none⟩)) rfl e10 ?_;obtain ⟨_, e2, k2⟩ := K.dep 2 rfl rfl rfl;refine za 67 (.bool false) rfl e2 ?_;exact zj rfl (zc Try.underlying24 rfl sz3 (by decide) rfl ⟨Below.refl _ _, Left.of rfl⟩)
   · intro vs X wq K;have LE := K.1;obtain ⟨_, e11, k11⟩ := K.dep 11 rfl rfl rfl;refine za 76 (.pointer (some ⟨gm, 1, none⟩)) rfl e11 ?_;obtain ⟨_, e2, k2⟩ := K.dep 2 rfl rfl rfl;refine za 67 (.bool false) rfl e2 ?_;exact zj rfl (zg Try.underlying3 rfl rfl (yv LE hM1.mb) rfl ⟨Below.refl _ _, Left.of rfl⟩)
   · intro vs X wq K;obtain ⟨_, e8, k8⟩ := K.dep 8 rfl rfl rfl;refine za 73 (.int .i64 (((W.length : Nat)) : Int)) rfl e8 ?_;obtain ⟨_, e12, k12⟩ := K.dep 12 rfl rfl rfl;refine za 77 (.int .i64 ((top : Nat) : Int)) rfl e12 ?_;obtain ⟨_, e2, k2⟩ := K.dep 2 rfl rfl rfl;refine za 67 (.bool false) rfl e2 ?_
     exact zj rfl (vq rfl rfl (zo (by omega)) ⟨Below.refl _ _, Left.of rfl⟩)
   · intro vs X wq K;obtain ⟨_, e3, k3⟩ := K.dep 3 rfl rfl rfl;refine za 68 (.int .i64 ((2 + ((t : Nat) : Int)) + ((r : Nat) : Int))) rfl e3 ?_;obtain ⟨_, e13, k13⟩ := K.dep 13 rfl rfl rfl;refine za 78 (.int .i64 ((((W.length : Nat)) : Int) - ((top : Nat) : Int))) rfl e13 ?_;obtain ⟨_, e2, k2⟩ := K.dep 2 rfl rfl rfl;refine za 67 (.bool false) rfl e2 ?_
     exact zj rfl (qh rfl rfl ⟨Below.refl _ _, Left.of ((by rw [decide_eq_true]; omega : (.bool (decide (((((W.length : Nat)) : Int) - ((top : Nat) : Int)) < ((2 + ((t : Nat) : Int)) + ((r : Nat) : Int)))) : Value) = _))⟩)
   · intro vs X wq K;obtain ⟨_, e2, k2⟩ := K.dep 2 rfl rfl rfl;refine za 67 (.bool false) rfl e2 ?_;obtain ⟨_, e14, k14⟩ := K.dep 14 rfl rfl rfl;refine za 79 (.bool true) rfl e14 ?_;exact zr rfl rfl ⟨Below.refl _ _, Left.of rfl⟩
 intro vs w2 LE AO AL AF AA;have hbd : Below (wu1).heap.size (wu1) w2 := (((Ext.refl No (wu1)).drew).trans LE).toBelow;obtain ⟨_, e15, k15⟩ := AL.2.2.2.2.2.2.2.2.2.2.2.2.2.2.2.1;refine qw (τ := [(0, _), (1, _), (2, _), (8, _), (9, _), (10, _), (80, .bool true)]) ⟨rfl, rfl, rfl, rfl, rfl, rfl, congrArg some e15, trivial⟩ ?_;clear AL AF AA AO
 refine zd (yw rfl (srx (avx rfl (anx rfl (zx (zn (zw (rs := [.tmp 8, .tmp 9]) (vs := [_, _]) rfl ⟨rfl, rfl, trivial⟩ ?_)))))));exact ⟨rfl, (E1.trans (Ext.of_below hbd No)).toBelow⟩
end
end Go.Proofs.Ytjhmifebmplahaa
namespace Go.Proofs.Ytjhmifebmplahaa
open Go.RowKit
set_option maxRecDepth 100000
theorem laid_set {W : List Nat} {top k i x : Nat} {tg raw : List Nat} (h : top + (2 + tg.length + raw.length) ≤ W.length) (hi : i < tg.length) : (laid W top k tg raw).set (top + 2 + i) x = laid W top k (tg.set i x) raw := by
 have h' : top + (2 + (tg.set i x).length + raw.length) ≤ W.length := by rw [List.length_set]; exact h
 apply List.ext_getElem?
 intro j;rw [List.getElem?_set, vx h', vx h, va h, List.length_set];by_cases e : top + 2 + i = j
 · subst e;rw [if_pos rfl, if_pos (by omega), if_neg (by omega), if_pos (by omega), show top + 2 + i - top = i + 1 + 1 by omega, List.getElem?_cons_succ, List.getElem?_cons_succ, List.getElem?_append_left (by rw [List.length_set]; exact hi), List.getElem?_set_self hi]
 · rw [if_neg e];split
   · rfl
   · split
     · obtain ⟨m, rfl⟩ : ∃ m, j = top + m := ⟨j - top, by omega⟩;rw [show top + m - top = m by omega];match m with
       | 0 => rfl
       | 1 => rfl
       | m + 2 =>
        rw [List.getElem?_cons_succ, List.getElem?_cons_succ, List.getElem?_cons_succ, List.getElem?_cons_succ];by_cases e2 : m < tg.length
        · rw [List.getElem?_append_left e2, List.getElem?_append_left (by rw [List.length_set]; exact e2), List.getElem?_set_ne (by omega)]
        · rw [List.getElem?_append_right (by omega), List.getElem?_append_right (by rw [List.length_set]; omega), List.length_set]
     · rfl
theorem laid_setR {W : List Nat} {top k i x : Nat} {tg raw : List Nat} (h : top + (2 + tg.length + raw.length) ≤ W.length) (hi : i < raw.length) : (laid W top k tg raw).set (top + 2 + (tg.length + i)) x = laid W top k tg (raw.set i x) := by
 have h' : top + (2 + tg.length + (raw.set i x).length) ≤ W.length := by rw [List.length_set]; exact h
 apply List.ext_getElem?
 intro j;rw [List.getElem?_set, vx h', vx h, va h, List.length_set];by_cases e : top + 2 + (tg.length + i) = j
 · subst e;rw [if_pos rfl, if_pos (by omega), if_neg (by omega), if_pos (by omega), show top + 2 + (tg.length + i) - top = tg.length + i + 1 + 1 by omega, List.getElem?_cons_succ, List.getElem?_cons_succ, List.getElem?_append_right (by omega), show tg.length + i - tg.length = i by omega, List.getElem?_set_self hi]
 · rw [if_neg e];split
   · rfl
   · split
     · obtain ⟨m, rfl⟩ : ∃ m, j = top + m := ⟨j - top, by omega⟩;rw [show top + m - top = m by omega];match m with
       | 0 => rfl
       | 1 => rfl
       | m + 2 =>
        rw [List.getElem?_cons_succ, List.getElem?_cons_succ, List.getElem?_cons_succ, List.getElem?_cons_succ];by_cases e2 : m < tg.length
        · rw [List.getElem?_append_left e2, List.getElem?_append_left e2]
        · rw [List.getElem?_append_right (by omega), List.getElem?_append_right (by omega), List.getElem?_set_ne (by omega)]
     · rfl
def qg (T : List Nat) (v i : Nat) : List Nat := T.take i ++ List.replicate (T.length - i) v
theorem gi {T : List Nat} {v i : Nat} (hi : i ≤ T.length) : (qg T v i).length = T.length := by unfold qg; rw [List.length_append, List.length_take, List.length_replicate]; omega
theorem part_0 (T : List Nat) (v : Nat) : qg T v 0 = List.replicate T.length v := by unfold qg; simp
theorem xw (T : List Nat) (v : Nat) : qg T v T.length = T := by unfold qg; simp
theorem xv {T : List Nat} {v i x : Nat} (h : T[i]? = some x) : (qg T v i).set i x = qg T v (i + 1) := by
 have hi := (List.getElem?_eq_some_iff.1 h).1;unfold qg;rw [List.set_append_right _ _ (by rw [List.length_take]; omega), List.length_take, show i - min i T.length = 0 by omega, show T.length - i = (T.length - (i + 1)) + 1 by omega, List.replicate_succ, List.set_cons_zero, List.take_add_one, h];simp
end Go.Proofs.Ytjhmifebmplahaa
namespace Go.Proofs.Ytjhmifebmplahaa
open Go.RowKit
set_option maxRecDepth 100000
attribute [local irreducible] OW RS
theorem addr_any (w : World) (a : Nat) (h1 : 1 ≤ a) (h2 : a < 1048576) : Calls Try.prog 54 #[.int .i64 ((a : Nat) : Int)] w fun e w' => e = .returned (.tuple #[.int .u64 ((4 * a : Nat) : Int), .int .i64 0]) ∧ Below w.heap.size w w' := by
 refine yg Try.func54 rfl Try.ntmps54 rfl (srx (avx rfl (anx rfl (zi (srx (mvx rfl (zb rfl (yl rfl rfl (zt 5 (.bool false) rfl ((by rw [decide_eq_false]; omega : (.bool (decide (((a : Nat) : Int) < 1)) : Value) = _)) (mvx rfl (onx rfl (ze rfl (onx rfl (vm rfl rfl (zt 8 (.bool false) rfl ((by rw [decide_eq_false]; omega : (.bool (decide ((1048576 : Int) ≤ ((a : Nat) : Int))) : Value) = _)) (zb rfl (zr rfl rfl (rnx (zy rfl (zp (zd (srx (mvx rfl (zb rfl (yt Try.underlying27 Try.underlying3 rfl (yf (by omega)) (zb rfl (ou rfl rfl (by decide) (shl_O (x := a) (k := 2) (by decide) (by omega)) (zt 12 (.int .u64 ((4 * a : Nat) : Int)) rfl ((by congr 1; omega : (.int .u64 ((a * 2 ^ 2 : Nat) : Int) : Value) = _)) (avx rfl (anx rfl (zx (zw (rs := [.tmp 2, .tmp 3]) (vs := [_, _]) rfl ⟨rfl, rfl, trivial⟩ ?_))))))))))))))))))))))))))))))))
 exact ⟨rfl, Below.refl _ _⟩
section
variable (lo gm gW cap top k c d n : Nat) (w : World) (W T R : List Nat) (B C : Option Addr) (hM : OwnM lo w gm gW cap W top) (hk : 1 ≤ k ∧ k < 256) (ht : T.length ≤ 1048576) (hr : R.length ≤ 1048576) (hmW : gm ≠ gW) (hT : ∀ z, Ext (Mut [some gm, some gW]) w z → WordsA n z B T) (hR : ∀ z, Ext (Mut [some gm, some gW]) w z → WordsA n z C R) (hg : ∀ x ∈ T, yq x ≠ 3)
include hM hk ht hr hmW hT hR hg
theorem ks (hz : ∀ i, top ≤ i → wat W i = 0) (hf : top + (2 + T.length + R.length) ≤ W.length) : Calls Try.prog 32 #[.pointer (some ⟨gm, 0, none⟩), .int .i64 ((k : Nat) : Int), .slice B T.length c, .slice C R.length d] w fun e w' => e = .returned (.tuple #[.int .u64 ((4 * top : Nat) : Int), .int .i64 0]) ∧ OwnM lo w' gm gW cap (laid W top k T R) (top + (2 + T.length + R.length)) ∧ Ext (Mut [some gm, some gW]) w w' := by
 have h1 := hM.one;have h3 := hM.len;have h4 := hM.most;have hXw : ∀ q, Mut [some gW] q → Mut [some gm, some gW] q := fun q hq => Or.inr (Or.inl (by rw [qp hq]));have hlT : ∀ i, i ≤ T.length → top + (2 + (qg T 2 i).length + (List.replicate R.length 0).length) ≤ W.length := fun i hi => by rw [gi hi, List.length_replicate]; exact hf
 have hlR : ∀ i, i ≤ R.length → top + (2 + T.length + (qg R 0 i).length) ≤ W.length := fun i hi => by rw [gi hi]; exact hf
 refine yg Try.func32 rfl Try.ntmps32 rfl (srx (avx rfl (anx rfl (srx (mvx rfl (mvx rfl (mvx rfl (zb rfl (yi Try.underlying22 rfl (mvx rfl (zb rfl (yi Try.underlying22 rfl (zb rfl (zq en52 rfl ((aalloc_ok lo gm gW cap top k T.length R.length _ W hM hk ht hr hmW hz hf).mono ?_)))))))))))))));rintro e w1 ⟨rfl, hMA, hEA⟩;refine ⟨_, rfl, ?_⟩;rw [← part_0 T 2] at hMA
 refine mvx rfl (zb rfl (zf rfl rfl (zb rfl (zf rfl rfl (avx rfl (anx rfl (zi (srx (mvx rfl (zb rfl (qj rfl rfl (rnx (zy rfl (zp (zd (zi (srx (mvx rfl (zb rfl (yi Try.underlying22 rfl (mvx rfl (rnx (zu (qa (ι := Nat) (fun i => [(0, .pointer (some ⟨gm, 0, none⟩)), (2, .slice B T.length c), (3, .slice C R.length d), (10, .int .i64 ((top : Nat) : Int)), (29, .slice B T.length c), (30, .int .i64 ((T.length : Nat) : Int)), (31, .int .i64 ((i : Nat) : Int))]) (fun i w' => i ≤ T.length ∧ OwnM lo w' gm gW cap (laid W top k (qg T 2 i) (List.replicate R.length 0)) (top + (2 + T.length + R.length)) ∧ Ext (Mut [some gm, some gW]) w w') (fun i => T.length - i) 0 ⟨rfl, rfl, rfl, rfl, rfl, rfl, rfl, trivial⟩ (⟨Nat.zero_le _, hMA, hEA⟩) ?_))))))))))))))))))))))))
 rintro i w3 ⟨hi0, hMi, hEi⟩;refine srx (zb rfl (yl rfl rfl (rnx (zi (ym rfl (fun hc => ?_) (fun hc => ?_))))))
 ·
  have hc := of_decide_eq_true hc;have hlt : i < T.length := by omega
  obtain ⟨x, hx⟩ : ∃ x, T[i]? = some x := ⟨_, List.getElem?_eq_getElem hlt⟩;have hxm := List.mem_of_getElem? hx;obtain ⟨g, o, hB, hgb, hcx⟩ := (hT _ hEi).cell hx;have hLi := hlT i hi0;have hpl := gi (v := 2) hi0;have hhd : wat (laid W top k (qg T 2 i) (List.replicate R.length 0)) top = vb k T.length (2 + T.length + R.length) := by rw [jb hLi, hpl, List.length_replicate]
  have hS : Seen (laid W top k (qg T 2 i) (List.replicate R.length 0)) (top + (2 + T.length + R.length)) top := ⟨h1, by omega, by rw [va hLi]; omega, by rw [hhd, oc hk.2]; omega, by rw [hhd, ob hk.2 (by omega), jh hk.2 (by omega) (by omega)]; omega, by rw [hhd, jh hk.2 (by omega) (by omega)]; omega⟩
  refine zp (zd (zi (zu (srx (mvx rfl (zb rfl (zk (j := i) Try.underlying22 qi (congrArg (fun z ↦ some (Value.slice z T.length c)) hB) rfl rfl hlt (zb rfl (yk Try.underlying27 rfl rfl hcx (avx rfl (anx rfl (zz (mvx rfl (mvx rfl (mvx rfl (mvx rfl (zb rfl (zq en53 rfl ((aset_any lo gm gW cap _ top i x _ _ hMi hS (by rw [hhd, jh hk.2 (by omega) (by omega)]; omega) ((hT _ hEi).in_ x hxm) (fun _ => hg x hxm)).mono ?_)))))))))))))))))))
  rintro e w4 ⟨rfl, hMS, hES⟩;refine ⟨_, rfl, (yp (zh (zd (zz (zb rfl (yc rfl rfl (zo (by omega)) (mvx rfl (yp ?_))))))))⟩
  exact yo (i + 1) (by show T.length - (i + 1) < T.length - i; omega) ⟨rfl, rfl, rfl, rfl, rfl, rfl, rfl, trivial⟩ (⟨hlt, by rw [laid_set hLi (by rw [hpl]; exact hlt), xv hx] at hMS; exact hMS, hEi.step hES (fun q hq => Or.inl (hXw q hq))⟩)
 ·
  have hc := of_decide_eq_false hc;have hie : i = T.length := by omega
  rw [hie, xw, ← part_0 R 0] at hMi
  refine qb (zm (zm (yb (zd (zi (srx (mvx rfl (zb rfl (yi Try.underlying22 rfl (mvx rfl (rnx (zu (qa (ι := Nat) (fun j => [(0, .pointer (some ⟨gm, 0, none⟩)), (2, .slice B T.length c), (10, .int .i64 ((top : Nat) : Int)), (42, .slice C R.length d), (43, .int .i64 ((R.length : Nat) : Int)), (44, .int .i64 ((j : Nat) : Int))]) (fun j w' => j ≤ R.length ∧ OwnM lo w' gm gW cap (laid W top k T (qg R 0 j)) (top + (2 + T.length + R.length)) ∧ Ext (Mut [some gm, some gW]) w w') (fun j => R.length - j) 0 ⟨rfl, rfl, rfl, rfl, rfl, rfl, trivial⟩ (⟨Nat.zero_le _, hMi, hEi⟩) ?_)))))))))))))
  rintro j w6 ⟨hj0, hMj, hEj⟩;refine srx (zb rfl (yl rfl rfl (rnx (zi (ym rfl (fun hc2 => ?_) (fun hc2 => ?_))))))
  ·
   have hc2 := of_decide_eq_true hc2;have hlt : j < R.length := by omega
   obtain ⟨x, hx⟩ : ∃ x, R[j]? = some x := ⟨_, List.getElem?_eq_getElem hlt⟩;have hxm := List.mem_of_getElem? hx;obtain ⟨g, o, hB, hgb, hcx⟩ := (hR _ hEj).cell hx;have hLj := hlR j hj0;have hpl := gi (v := 0) hj0;have hhd : wat (laid W top k T (qg R 0 j)) top = vb k T.length (2 + T.length + R.length) := by rw [jb hLj, hpl]
   have hS : Seen (laid W top k T (qg R 0 j)) (top + (2 + T.length + R.length)) top := ⟨h1, by omega, by rw [va hLj]; omega, by rw [hhd, oc hk.2]; omega, by rw [hhd, ob hk.2 (by omega), jh hk.2 (by omega) (by omega)]; omega, by rw [hhd, jh hk.2 (by omega) (by omega)]; omega⟩
   refine zp (zd (zi (zu (srx (mvx rfl (zb rfl (zk (j := j) Try.underlying22 qi (congrArg (fun z ↦ some (Value.slice z R.length d)) hB) rfl rfl hlt (zb rfl (yk Try.underlying27 rfl rfl hcx (avx rfl (anx rfl (zz (mvx rfl (mvx rfl (mvx rfl (zb rfl (yi Try.underlying22 rfl (mvx rfl (zb rfl (yc rfl rfl (zo (by omega)) (mvx rfl (zt 54 (.int .i64 ((T.length + j : Nat) : Int)) rfl ((by first | rfl | (congr 1; omega) : (.int .i64 ((((T.length : Nat)) : Int) + ((j : Nat) : Int)) : Value) = _)) (zb rfl (zq en53 rfl ((aset_any lo gm gW cap _ top (T.length + j) x _ _ hMj hS (by rw [hhd, jh hk.2 (by omega) (by omega)]; omega) ((hR _ hEj).in_ x hxm) (fun h => by rw [hhd, ob hk.2 (by omega)] at h; omega)).mono ?_)))))))))))))))))))))))))
   rintro e w7 ⟨rfl, hMS, hES⟩;refine ⟨_, rfl, (yp (zh (zd (zz (zb rfl (yc rfl rfl (zo (by omega)) (mvx rfl (yp ?_))))))))⟩
   exact yo (j + 1) (by show R.length - (j + 1) < R.length - j; omega) ⟨rfl, rfl, rfl, rfl, rfl, rfl, trivial⟩ (⟨hlt, by rw [laid_setR hLj (by rw [hpl]; exact hlt), xv hx] at hMS; exact hMS, hEj.step hES (fun q hq => Or.inl (hXw q hq))⟩)
  ·
   have hc2 := of_decide_eq_false hc2;have hje : j = R.length := by omega
   rw [hje, xw] at hMj;refine qb (zm (zm (yb (zd (srx (mvx rfl (zb rfl (zq en54 rfl ((addr_any _ top h1 (by omega)).mono ?_)))))))));rintro e w8 ⟨rfl, hb⟩;refine ⟨_, rfl, ?_⟩;have EZ := Ext.of_below hb No
   refine zb rfl (zf rfl rfl (zb rfl (zf rfl rfl (avx rfl (anx rfl (zx (zw (rs := [.tmp 8, .tmp 9]) (vs := [_, _]) rfl ⟨rfl, rfl, trivial⟩ ?_)))))));exact ⟨rfl, hMj.ext EZ (fun h => h) (fun h => h), hEj.step EZ (fun _ h => h.elim)⟩
theorem otake_full (hf : W.length < top + (2 + T.length + R.length)) : Calls Try.prog 32 #[.pointer (some ⟨gm, 0, none⟩), .int .i64 ((k : Nat) : Int), .slice B T.length c, .slice C R.length d] w fun e w' => e = .returned (.tuple #[.int .u64 0, .int .i64 5]) ∧ Below w.heap.size w w' := by
 have _ := hT;have _ := hR;have _ := hg;refine yg Try.func32 rfl Try.ntmps32 rfl (srx (avx rfl (anx rfl (srx (mvx rfl (mvx rfl (mvx rfl (zb rfl (yi Try.underlying22 rfl (mvx rfl (zb rfl (yi Try.underlying22 rfl (zb rfl (zq en52 rfl ((aalloc_full lo gm gW cap top k T.length R.length _ W hM hk ht hr hmW hf).mono ?_)))))))))))))));rintro e w1 ⟨rfl, hb⟩
 refine ⟨_, rfl, (mvx rfl (zb rfl (zf rfl rfl (zb rfl (zf rfl rfl (avx rfl (anx rfl (zi (srx (mvx rfl (zb rfl (qj rfl rfl (rnx (yw rfl (srx (mvx rfl (avx rfl (anx rfl (zx (zn (zw (rs := [.tmp 8, .tmp 9]) (vs := [_, _]) rfl ⟨rfl, rfl, trivial⟩ ?_)))))))))))))))))))))⟩;exact ⟨rfl, hb⟩
end
end Go.Proofs.Ytjhmifebmplahaa
namespace Go.Proofs.Ytjhmifebmplahaa
open Go.RowKit
set_option maxRecDepth 100000
attribute [local irreducible] OW RS
theorem xi (w : World) (A A' : Option Addr) (c c' n n' : Nat) (xs : List Nat) (h : WordsA n w A xs) (h' : WordsA n' w A' xs) : Calls Try.prog 18 #[.slice A xs.length c, .slice A' xs.length c'] w fun e w' => e = .returned (.bool true) ∧ Below w.heap.size w w' := by
 obtain ⟨w0, hw0⟩ : ∃ w0, w0 = w := ⟨_, rfl⟩;have hlen := h.len
 refine yg Try.func18 rfl Try.ntmps18 rfl (srx (anx rfl (zi (srx (mvx rfl (zb rfl (yi Try.underlying22 rfl (mvx rfl (zb rfl (yi Try.underlying22 rfl (zb rfl (qj rfl rfl (rnx (qk 10 (.bool false) rfl ((by rw [bne_self_eq_false] : (.bool ((((xs.length : Nat)) : Int) != (((xs.length : Nat)) : Int)) : Value) = _)) (zy rfl (zp (zd (zi (srx (anx rfl (zu (qa (ι := Nat) (fun i => [(0, .slice A xs.length c), (1, .slice A' xs.length c'), (5, .int .i64 ((i : Nat) : Int))]) (fun i w' => i ≤ xs.length ∧ Ext No w0 w') (fun i => xs.length - i) 0 ⟨rfl, rfl, rfl, trivial⟩ (⟨Nat.zero_le _, by rw [hw0]; exact Ext.refl _ _⟩) ?_))))))))))))))))))))))
 rintro i w2 ⟨hi0, hEi⟩;refine zi (srx (mvx rfl (mvx rfl (zb rfl (yi Try.underlying22 rfl (zb rfl (yl rfl rfl (rnx (ym rfl (fun hi => ?_) (fun hi => ?_))))))))))
 ·
  have hi := of_decide_eq_true hi;have hil : i < xs.length := by omega
  obtain ⟨x, hx⟩ : ∃ x, xs[i]? = some x := ⟨_, List.getElem?_eq_getElem hil⟩;rw [hw0] at hEi;obtain ⟨g, o, hA, hg, hc⟩ := (h.no hEi).cell hx;obtain ⟨g', o', hA', hg', hc'⟩ := (h'.no hEi).cell hx;refine zp (zd (zi (zu (zi ?_))));refine qt (No) Mut.none_ [] [] (ji [Fx.of (.slice A xs.length c),
   Fx.of (.int .i64 ((i : Nat) : Int)),
   Fx.of (.pointer (some ⟨g, o + i, none⟩)),
   Fx.of (.int .u64 ((x : Nat) : Int)),
   Fx.of (.slice A' xs.length c'),
   Fx.of (.int .i64 ((i : Nat) : Int)),
   Fx.of (.pointer (some ⟨g', o' + i, none⟩)),
   Fx.of (.int .u64 ((x : Nat) : Int)),
   Fx.of (.bool false)]) vf rfl trivial (fun _ h => by cases h) ?_ ?_
  · refine ⟨?_, ?_, ?_, ?_, ?_, ?_, ?_, ?_, ?_, trivial⟩
    · intro vs X wq K;exact ze rfl ⟨Below.refl _ _, Left.of rfl⟩
    · intro vs X wq K;exact ze rfl ⟨Below.refl _ _, Left.of rfl⟩
    · intro vs X wq K;obtain ⟨_, e0, k0⟩ := K.dep 0 rfl rfl rfl;refine za 17 (.slice A xs.length c) rfl e0 ?_;obtain ⟨_, e1, k1⟩ := K.dep 1 rfl rfl rfl;refine za 18 (.int .i64 ((i : Nat) : Int)) rfl e1 ?_;exact zk (j := i) Try.underlying22 qi (congrArg (fun z ↦ some (Value.slice z xs.length c)) hA) rfl rfl hil ⟨Below.refl _ _, Left.of rfl⟩
    · intro vs X wq K;have LE := K.1;obtain ⟨_, e2, k2⟩ := K.dep 2 rfl rfl rfl;refine za 19 (.pointer (some ⟨g, o + i, none⟩)) rfl e2 ?_;exact yk Try.underlying27 rfl rfl (cell_z LE (fun h ↦ h) hc) ⟨Below.refl _ _, Left.of rfl⟩
    · intro vs X wq K;exact ze rfl ⟨Below.refl _ _, Left.of rfl⟩
    · intro vs X wq K;exact ze rfl ⟨Below.refl _ _, Left.of rfl⟩
    · intro vs X wq K;obtain ⟨_, e4, k4⟩ := K.dep 4 rfl rfl rfl;refine za 21 (.slice A' xs.length c') rfl e4 ?_;obtain ⟨_, e5, k5⟩ := K.dep 5 rfl rfl rfl;refine za 22 (.int .i64 ((i : Nat) : Int)) rfl e5 ?_;exact zk (j := i) Try.underlying22 qi (congrArg (fun z ↦ some (Value.slice z xs.length c')) hA') rfl rfl hil ⟨Below.refl _ _, Left.of rfl⟩
    · intro vs X wq K;have LE := K.1;obtain ⟨_, e6, k6⟩ := K.dep 6 rfl rfl rfl;refine za 23 (.pointer (some ⟨g', o' + i, none⟩)) rfl e6 ?_;exact yk Try.underlying27 rfl rfl (cell_z LE (fun h ↦ h) hc') ⟨Below.refl _ _, Left.of rfl⟩
    · intro vs X wq K;obtain ⟨_, e3, k3⟩ := K.dep 3 rfl rfl rfl;refine za 20 (.int .u64 ((x : Nat) : Int)) rfl e3 ?_;obtain ⟨_, e7, k7⟩ := K.dep 7 rfl rfl rfl;refine za 24 (.int .u64 ((x : Nat) : Int)) rfl e7 ?_;exact qj rfl rfl ⟨Below.refl _ _, Left.of ((by rw [bne_self_eq_false] : (.bool (((x : Nat) : Int) != ((x : Nat) : Int)) : Value) = _))⟩
  intro vs w3 LE AO AL AF AA;have hbd : Below (w2).heap.size (w2) w3 := (((Ext.refl No (w2)).drew).trans LE).toBelow;obtain ⟨_, e8, k8⟩ := AL.2.2.2.2.2.2.2.2.1;refine qw (τ := [(0, _), (1, _), (5, _), (25, .bool false)]) ⟨rfl, rfl, rfl, congrArg some e8, trivial⟩ ?_;clear AL AF AA AO
  refine zd (zy rfl (zp (zh (zd (zz (mvx rfl (zb rfl (yc rfl rfl (zo (by omega)) (avx rfl (yp ?_))))))))));exact yo (i + 1) (by show xs.length - (i + 1) < xs.length - i; omega) ⟨rfl, rfl, rfl, trivial⟩ (⟨hil, by rw [hw0]; exact hEi.trans (Ext.of_below hbd No)⟩)
 ·
  refine qb (zm (zm (yb (zd (srx (anx rfl (zx (zw (rs := [.tmp 4]) (vs := [_]) rfl ⟨rfl, trivial⟩ ?_))))))));exact ⟨rfl, by rw [hw0] at hEi; exact hEi.toBelow⟩
section
variable (lo gm gW cap top c n : Nat) (w : World) (W T : List Nat) (B : Option Addr) (l : List Nat) (hM : OwnM lo w gm gW cap W top) (hF : FormL W top l) (hmW : gm ≠ gW) (hT : ∀ z, Ext (Mut [some gm, some gW]) w z → WordsA n z B T) (hn : n ≤ w.heap.size) (hg : ∀ x ∈ T, WordOk l x)
include hM hF hmW hT hn hg
theorem otuple_any : Calls Try.prog 13 #[.pointer (some ⟨gm, 0, none⟩), .slice B T.length c] w fun e w' => ((∃ er : Int, er ≠ 0 ∧ e = .returned (.tuple #[.int .u64 0, .int .i64 er]) ∧ Below w.heap.size w w') ∨
 (e = .returned (.tuple #[.int .u64 ((4 * top : Nat) : Int), .int .i64 0]) ∧ T.length ≤ 20000 ∧ top + (2 + T.length + 0) ≤ W.length ∧ OwnM lo w' gm gW cap (laid W top 6 T []) (top + (2 + T.length + 0)) ∧ Ext (Mut [some gm, some gW]) w w')) := by
 have hT0 := hT w (Ext.refl _ _);have hTl := hT0.len;have hgs : ∀ x ∈ T, yq x ≠ 3 ∧ (yq x = 0 → Seen W top (x / 4)) := fun x hx => ⟨(hg x hx).1, fun h0 => hF.seen ((hg x hx).2 h0)⟩;have hlt := hM.lt
 refine yg Try.func13 rfl Try.ntmps13 rfl (srx (avx rfl (anx rfl (zi (zu (srx (mvx rfl (zb rfl (gk Try.underlying39 rfl rfl (mvx rfl (onx rfl (ze rfl (onx rfl (yn rfl (onx rfl (yj Try.underlying24 rfl qz rfl hM.mb rfl (onx rfl (ze rfl (onx rfl (zq en40 rfl ((oall_any _ (some ⟨gW, 0, none⟩) B W T cap c _ top hM.mem (hT0.up hn) hgs).mono ?_)))))))))))))))))))))
 rintro e w1 ⟨rfl, hb⟩;refine ⟨_, rfl, ?_⟩;have E1 := Ext.of_below hb No;have hM1 := hM.ext E1 (fun h => h) (fun h => h);have hT1 : ∀ z, Ext (Mut [some gm, some gW]) w1 z → WordsA n z B T := fun z hz => hT z ((E1.mono (Y := Mut [some gm, some gW]) (fun _ h _ => h.elim)).step hz (fun q hq => Or.inl hq))
 refine onx rfl (qe rfl (zb rfl (zr rfl rfl (anx rfl (zy rfl (srx (mvx rfl (zb rfl (yi Try.underlying22 rfl (zb rfl (qh rfl rfl (anx rfl ?_))))))))))));by_cases hlen : T.length ≤ 20000
 ·
  refine qk 17 (.bool false) rfl ((by rw [decide_eq_false]; omega : (.bool (decide (20000 < (((T.length : Nat)) : Int))) : Value) = _)) (zy rfl (zp (zh (zd (srx (mvx rfl (mvx rfl ?_)))))));by_cases hf : top + (2 + T.length + 0) ≤ W.length
  ·
   refine zb rfl (zq en32 rfl ((ks lo gm gW cap top 6 c 0 n _ W T [] B none hM1 (by omega) (by omega) (Nat.zero_le _) hmW hT1 (fun z hz => .nil _ _ _) (fun x hx => (hg x hx).1) hF.rest hf).mono ?_));rintro e w2 ⟨rfl, hMT, hET⟩
   refine ⟨_, rfl, (zb rfl (zf rfl rfl (zb rfl (zf rfl rfl (avx rfl (anx rfl (zx (zw (rs := [.tmp 4, .tmp 5]) (vs := [_, _]) rfl ⟨rfl, rfl, trivial⟩ ?_))))))))⟩;exact Or.inr ⟨rfl, hlen, hf, hMT, (E1.mono (Y := Mut [some gm, some gW]) (fun _ h _ => h.elim)).step hET (fun q hq => Or.inl hq)⟩
  ·
   refine zb rfl (zq en32 rfl ((otake_full lo gm gW cap top 6 c 0 n _ W T [] B none hM1 (by omega) (by omega) (Nat.zero_le _) hmW hT1 (fun z hz => .nil _ _ _) (fun x hx => (hg x hx).1) (by show W.length < top + (2 + T.length + 0); omega)).mono ?_));rintro e w3 ⟨rfl, hb⟩
   refine ⟨_, rfl, (zb rfl (zf rfl rfl (zb rfl (zf rfl rfl (avx rfl (anx rfl (zx (zw (rs := [.tmp 4, .tmp 5]) (vs := [_, _]) rfl ⟨rfl, rfl, trivial⟩ ?_))))))))⟩;exact Or.inl ⟨5, by decide, rfl, (E1.trans (Ext.of_below hb No)).toBelow⟩
 ·
  refine qk 17 (.bool true) rfl ((by rw [decide_eq_true]; omega : (.bool (decide (20000 < (((T.length : Nat)) : Int))) : Value) = _)) (yw rfl (srx (avx rfl (anx rfl (zx (ya (zn (zw (rs := [.tmp 4, .tmp 5]) (vs := [_, _]) rfl ⟨rfl, rfl, trivial⟩ ?_))))))));exact Or.inl ⟨2, by decide, rfl, E1.toBelow⟩
end
end Go.Proofs.Ytjhmifebmplahaa
namespace Go.Proofs.Ytjhmifebmplahaa
open Go.RowKit
set_option maxRecDepth 100000
attribute [local irreducible] OW RS
theorem oroom_any (lo gm gW cap top j : Nat) (w : World) (W : List Nat) (hM : OwnM lo w gm gW cap W top) : Calls Try.prog 41 #[.pointer (some ⟨gm, 0, none⟩), .int .i64 ((j : Nat) : Int)] w fun e w' => e = .returned (.bool (decide (top + j ≤ W.length))) ∧ Below w.heap.size w w' := by
 have h3 := hM.len;have h4 := hM.most;refine yg Try.func41 rfl Try.ntmps41 rfl (srx (anx rfl (zi ?_)));refine qt (No) Mut.none_ [] [] (ji [Fx.of (.int .i64 ((j : Nat) : Int)),
  Fx.of (.pointer (some ⟨gm, 0, none⟩)),
  Fx.of (.pointer (some ⟨gm, 0, none⟩)),
  Fx.of (.pointer (some ⟨gm, 0, none⟩)),
  Fx.of (.slice (some ⟨gW, 0, none⟩) W.length cap),
  Fx.of (.int .i64 (((W.length : Nat)) : Int)),
  Fx.of (.pointer (some ⟨gm, 0, none⟩)),
  Fx.of (.pointer (some ⟨gm, 0, none⟩)),
  Fx.of (.pointer (some ⟨gm, 1, none⟩)),
  Fx.of (.int .i64 ((top : Nat) : Int)),
  Fx.of (.int .i64 ((((W.length : Nat)) : Int) - ((top : Nat) : Int))),
  Fx.of (.bool (decide (top + j ≤ W.length))),
  Fx.of (.bool (decide (top + j ≤ W.length)))]) vf rfl trivial (fun _ h => by cases h) ?_ ?_
 · refine ⟨?_, ?_, ?_, ?_, ?_, ?_, ?_, ?_, ?_, ?_, ?_, ?_, ?_, trivial⟩
   · intro vs X wq K;exact ze rfl ⟨Below.refl _ _, Left.of rfl⟩
   · intro vs X wq K;exact ze rfl ⟨Below.refl _ _, Left.of rfl⟩
   · intro vs X wq K;obtain ⟨_, e1, k1⟩ := K.dep 1 rfl rfl rfl;refine za 6 (.pointer (some ⟨gm, 0, none⟩)) rfl e1 ?_;exact yn rfl ⟨Below.refl _ _, Left.of rfl⟩
   · intro vs X wq K;obtain ⟨_, e2, k2⟩ := K.dep 2 rfl rfl rfl;refine za 7 (.pointer (some ⟨gm, 0, none⟩)) rfl e2 ?_;exact zc Try.underlying24 rfl qv (by decide) rfl ⟨Below.refl _ _, Left.of rfl⟩
   · intro vs X wq K;have LE := K.1;obtain ⟨_, e3, k3⟩ := K.dep 3 rfl rfl rfl;refine za 8 (.pointer (some ⟨gm, 0, none⟩)) rfl e3 ?_;exact zg Try.underlying22 rfl rfl (yv LE hM.mb) rfl ⟨Below.refl _ _, Left.of rfl⟩
   · intro vs X wq K;obtain ⟨_, e4, k4⟩ := K.dep 4 rfl rfl rfl;refine za 9 (.slice (some ⟨gW, 0, none⟩) W.length cap) rfl e4 ?_;exact yi Try.underlying22 rfl ⟨Below.refl _ _, Left.of rfl⟩
   · intro vs X wq K;exact ze rfl ⟨Below.refl _ _, Left.of rfl⟩
   · intro vs X wq K;obtain ⟨_, e6, k6⟩ := K.dep 6 rfl rfl rfl;refine za 11 (.pointer (some ⟨gm, 0, none⟩)) rfl e6 ?_;exact yn rfl ⟨Below.refl _ _, Left.of rfl⟩
   · intro vs X wq K;obtain ⟨_, e7, k7⟩ := K.dep 7 rfl rfl rfl;refine za 12 (.pointer (some ⟨gm, 0, none⟩)) rfl e7 ?_;exact zc Try.underlying24 rfl sz3 (by decide) rfl ⟨Below.refl _ _, Left.of rfl⟩
   · intro vs X wq K;have LE := K.1;obtain ⟨_, e8, k8⟩ := K.dep 8 rfl rfl rfl;refine za 13 (.pointer (some ⟨gm, 1, none⟩)) rfl e8 ?_;exact zg Try.underlying3 rfl rfl (yv LE hM.mb) rfl ⟨Below.refl _ _, Left.of rfl⟩
   · intro vs X wq K;obtain ⟨_, e5, k5⟩ := K.dep 5 rfl rfl rfl;refine za 10 (.int .i64 (((W.length : Nat)) : Int)) rfl e5 ?_;obtain ⟨_, e9, k9⟩ := K.dep 9 rfl rfl rfl;refine za 14 (.int .i64 ((top : Nat) : Int)) rfl e9 ?_;exact vq rfl rfl (zo (by omega)) ⟨Below.refl _ _, Left.of rfl⟩
   · intro vs X wq K;obtain ⟨_, e0, k0⟩ := K.dep 0 rfl rfl rfl;refine za 5 (.int .i64 ((j : Nat) : Int)) rfl e0 ?_;obtain ⟨_, e10, k10⟩ := K.dep 10 rfl rfl rfl;refine za 15 (.int .i64 ((((W.length : Nat)) : Int) - ((top : Nat) : Int))) rfl e10 ?_
     exact gc rfl rfl ⟨Below.refl _ _, Left.of ((by congr 1; rw [decide_eq_decide]; omega : (.bool (decide (((j : Nat) : Int) ≤ ((((W.length : Nat)) : Int) - ((top : Nat) : Int)))) : Value) = _))⟩
   · intro vs X wq K;obtain ⟨_, e11, k11⟩ := K.dep 11 rfl rfl rfl;refine za 16 (.bool (decide (top + j ≤ W.length))) rfl e11 ?_;exact qq rfl ⟨Below.refl _ _, Left.of rfl⟩
 intro vs w1 LE AO AL AF AA;have hbd : Below (w).heap.size (w) w1 := (((Ext.refl No (w)).drew).trans LE).toBelow;obtain ⟨_, e12, k12⟩ := AL.2.2.2.2.2.2.2.2.2.2.2.2.1;refine qw (τ := [(4, .bool (decide (top + j ≤ W.length)))]) ⟨congrArg some e12, trivial⟩ ?_;clear AL AF AA AO;refine zd (zx (zw (rs := [.tmp 4]) (vs := [_]) rfl ⟨rfl, trivial⟩ ?_));exact ⟨rfl, hbd⟩
theorem small_any (w : World) (n : Nat) (hn : n ≤ 20000) : Calls Try.prog 36 #[.int .i64 ((n : Nat) : Int)] w fun e w' => e = .returned (.tuple #[.int .u64 ((4 * n + 1 : Nat) : Int), .int .i64 0]) ∧ Below w.heap.size w w' := by
 refine yg Try.func36 rfl Try.ntmps36 rfl (srx (avx rfl (anx rfl (zi (srx (mvx rfl (zb rfl (yl rfl rfl (zt 5 (.bool false) rfl ((by rw [decide_eq_false]; omega : (.bool (decide (((n : Nat) : Int) < -999999999999999999)) : Value) = _)) (mvx rfl (onx rfl (ze rfl (onx rfl (qh rfl rfl (zt 8 (.bool false) rfl ((by rw [decide_eq_false]; omega : (.bool (decide ((999999999999999999 : Int) < ((n : Nat) : Int))) : Value) = _)) (zb rfl (zr rfl rfl (rnx (zy rfl (zp (zd (srx (mvx rfl (zb rfl (yt Try.underlying27 Try.underlying3 rfl (yf (by omega)) (zb rfl (ou rfl rfl (by decide) (shl_O (x := n) (k := 2) (by decide) (by omega)) (zb rfl (ow_or rfl rfl (or_maskO (x := n * 2 ^ 2) (y := 1) (k := 2) (by omega) (by decide) (by decide) (by omega)) (zt 13 (.int .u64 ((4 * n + 1 : Nat) : Int)) rfl ((by congr 1; omega : (.int .u64 ((n * 2 ^ 2 + 1 : Nat) : Int) : Value) = _)) (avx rfl (anx rfl (zx (zw (rs := [.tmp 2, .tmp 3]) (vs := [_, _]) rfl ⟨rfl, rfl, trivial⟩ ?_))))))))))))))))))))))))))))))))))
 exact ⟨rfl, Below.refl _ _⟩
theorem num_any (w : World) (x : Nat) (hx : U64 x) (hk : yq x = 1) (h4 : x % 4 = 1) : Calls Try.prog 64 #[.int .u64 ((x : Nat) : Int)] w fun e w' => e = .returned (.tuple #[.int .i64 (wnum x), .int .i64 0]) ∧ Below w.heap.size w w' := by
 have hx' : x < 18446744073709551616 := hx;refine yg Try.func64 rfl Try.ntmps64 rfl (srx (avx rfl (anx rfl (zi (srx (mvx rfl (zb rfl (zq en60 rfl ((jp _ x hx).mono ?_)))))))));rintro e w1 ⟨rfl, hb⟩
 refine ⟨_, rfl, (zb rfl (qj rfl rfl (zt 6 (.bool false) rfl ((by rw [hk]; rfl : (.bool (((yq x : Nat) : Int) != 1) : Value) = _)) (rnx (zy rfl (zp (zd (srx (mvx rfl (zb rfl (yt Try.underlying2 Try.underlying27 rfl rfl (zb rfl (kr rfl rfl (by decide) (zav hx' h4) (avx rfl (anx rfl (zx (zw (rs := [.tmp 2, .tmp 3]) (vs := [_, _]) rfl ⟨rfl, rfl, trivial⟩ ?_)))))))))))))))))⟩
 exact ⟨rfl, hb⟩
theorem small_kind {n b x : Nat} (hn : n ≤ 20000) (hx : x ∈ [4 * n + 1, b]) (hb : b = 2 ∨ (b % 4 = 0 ∧ 1 ≤ b / 4 ∧ b / 4 < 1048576)) : yq x ≠ 3 := by
 simp only [List.mem_cons, List.not_mem_nil, or_false] at hx
 rcases hx with rfl | rfl
 · rw [jm (by omega), jr (by omega), if_pos (by omega)]; decide
 · rcases hb with rfl | ⟨h1, h2⟩
   · decide
   · rw [kd h1, if_pos h2]; decide
theorem gh (w : World) {g n a b : Nat} (hb : Blk w g 27 #[.int .u64 ((a : Nat) : Int), .int .u64 ((b : Nat) : Int)]) (hg : g < n) (ha : U64 a) (hb2 : U64 b) : WordsA n w (some ⟨g, 0, none⟩) [a, b] :=
 jl (W := [a, b]) hb hg (by show 8 * 2 ≤ _; decide) (fun x hx => by
  simp only [List.mem_cons, List.not_mem_nil, or_false] at hx
  rcases hx with rfl | rfl
  · exact ha
  · exact hb2)
section
variable (lo gm gW cap top c n : Nat) (w : World) (W T : List Nat) (B : Option Addr) (l : List Nat) (hM : OwnM lo w gm gW cap W top) (hF : FormL W top l) (hmW : gm ≠ gW) (hT : ∀ z, Ext (Mut [some gm, some gW]) w z → WordsA n z B T) (hn : n ≤ w.heap.size) (hg : ∀ x ∈ T, WordOk l x)
include hM hF hmW hT hn hg
theorem olist_any : Calls Try.prog 14 #[.pointer (some ⟨gm, 0, none⟩), .slice B T.length c] w fun e w' => ((∃ er : Int, er ≠ 0 ∧ e = .returned (.tuple #[.int .u64 0, .int .i64 er]) ∧ Below w.heap.size w w' ∧ (T.length ≤ 20000 → W.length < top + 6 + T.length)) ∨
 (∃ W1 top1 bk, e = .returned (.tuple #[.int .u64 ((4 * top1 : Nat) : Int), .int .i64 0]) ∧ T.length ≤ 20000 ∧ ((T = [] ∧ W1 = W ∧ top1 = top ∧ bk = 2) ∨ (T ≠ [] ∧ W1 = laid W top 11 T [] ∧ top1 = top + (2 + T.length + 0) ∧ bk = 4 * top)) ∧ top1 + 4 ≤ W1.length ∧ OwnM lo w' gm gW cap (laid W1 top1 5 [4 * T.length + 1, bk] []) (top1 + (2 + 2 + 0)) ∧ Ext (Mut [some gm, some gW]) w w')) := by
 have hT0 := hT w (Ext.refl _ _);have hTl := hT0.len;have hgs : ∀ x ∈ T, yq x ≠ 3 ∧ (yq x = 0 → Seen W top (x / 4)) := fun x hx => ⟨(hg x hx).1, fun h0 => hF.seen ((hg x hx).2 h0)⟩;have hlt := hM.lt;have hm4 := hM.most
 refine yg Try.func14 rfl Try.ntmps14 rfl (srx (avx rfl (anx rfl (zi (zu (srx (mvx rfl (zb rfl (gk Try.underlying39 rfl rfl (mvx rfl (onx rfl (ze rfl (onx rfl (yn rfl (onx rfl (yj Try.underlying24 rfl qz rfl hM.mb rfl (onx rfl (ze rfl (onx rfl (zq en40 rfl ((oall_any _ (some ⟨gW, 0, none⟩) B W T cap c _ top hM.mem (hT0.up hn) hgs).mono ?_)))))))))))))))))))))
 rintro e w1 ⟨rfl, hb⟩;refine ⟨_, rfl, ?_⟩;have E1 := Ext.of_below hb No;have hM1 := hM.ext E1 (fun h => h) (fun h => h);have hT1 : ∀ z, Ext (Mut [some gm, some gW]) w1 z → WordsA n z B T := fun z hz => hT z ((E1.mono (Y := Mut [some gm, some gW]) (fun _ h _ => h.elim)).step hz (fun q hq => Or.inl hq))
 refine onx rfl (qe rfl (zb rfl (zr rfl rfl (anx rfl (zy rfl (srx (mvx rfl (zb rfl (yi Try.underlying22 rfl (zb rfl (qh rfl rfl (anx rfl ?_))))))))))));by_cases hlen : T.length ≤ 20000
 ·
  refine qk 20 (.bool false) rfl ((by rw [decide_eq_false]; omega : (.bool (decide (20000 < (((T.length : Nat)) : Int))) : Value) = _)) (zy rfl (zi (srx (mvx rfl (zb rfl (yi Try.underlying22 rfl (zb rfl (yz rfl rfl ?_))))))));by_cases h0 : T.length = 0
  ·
   refine zt 27 (.bool true) rfl ((by rw [h0]; rfl : (.bool (((T.length : Nat) : Int) == 0) : Value) = _)) (mvx rfl (onx rfl (ze rfl (onx rfl (zq en41 rfl ((oroom_any lo gm gW cap top 4 _ W hM1).mono ?_))))));rintro e w2 ⟨rfl, hb⟩;refine ⟨_, rfl, ?_⟩;have E2 := E1.trans (Ext.of_below hb No);have hM2 := hM.ext E2 (fun h => h) (fun h => h);by_cases hr : top + 4 ≤ W.length
   ·
    refine zt 30 (.bool true) rfl ((by rw [decide_eq_true hr] : (.bool (decide (top + 4 ≤ W.length)) : Value) = _)) (onx rfl (qe rfl (zb rfl (yh rfl rfl (anx rfl (zy rfl (zz (mvx rfl (zb rfl (yi Try.underlying22 rfl (zb rfl (qh rfl rfl (zt 35 (.bool false) rfl ((by rw [decide_eq_false]; omega : (.bool (decide ((0 : Int) < ((T.length : Nat) : Int))) : Value) = _)) (mvx rfl (zb rfl (zl rfl (zb rfl (zl rfl (zb rfl (zl rfl (zb rfl (zl rfl (zb rfl (zl rfl (zb rfl (zl rfl (zb rfl (zr rfl rfl (anx rfl (zy rfl (zp (zh (zd (srx (mvx rfl (zb rfl (yi Try.underlying22 rfl (zb rfl (zq en36 rfl ((small_any _ T.length hlen).mono ?_))))))))))))))))))))))))))))))))))))))))
    rintro e w3 ⟨rfl, hb⟩;refine ⟨_, rfl, ?_⟩;have E3 := E2.trans (Ext.of_below hb No)
    refine mvx rfl (zb rfl (zf rfl rfl (zb rfl (zf rfl rfl (avx rfl (anx rfl (srx (anx rfl (zi (srx (mvx rfl (zb rfl (yi Try.underlying22 rfl (zb rfl (qh rfl rfl (zt 52 (.bool false) rfl ((by rw [decide_eq_false]; omega : (.bool (decide ((0 : Int) < ((T.length : Nat) : Int))) : Value) = _)) (rnx (zy rfl (zp (zd (srx (mvx rfl (mvx rfl (mvx rfl (zb rfl (qn (cs := #[.int .u64 ((4 * T.length + 1 : Nat) : Int), .int .u64 2]) Try.underlying22 qi zr27 (by decide) rfl (by rw [vc]; rfl) ?_))))))))))))))))))))))))))
    rintro gx wX Bx Ex Gx;have E4 := E3.trans Ex;have hM4 := hM.ext E4 (fun h => h) (fun h => h);have hl4 := E3.size;have hxg : ∀ q, Mut [some gm, some gW] q → q ≠ gx := fun q hq => by
     rcases hq with h | h | h
     · have : q = gm := Option.some.inj h;omega
     · have : q = gW := Option.some.inj h;omega
     · exact h.elim
    refine zb rfl (zq en32 rfl ((ks lo gm gW cap top 5 2 0 (gx + 1) _ W [4 * T.length + 1, 2] [] (some ⟨gx, 0, none⟩) none hM4 (by omega) (by show 2 ≤ 1048576; decide) (Nat.zero_le _) hmW (fun z hz => gh z (Bx.ext hz (fun h => hxg gx h rfl)) (Nat.lt_succ_self gx) (by unfold U64; omega) (by unfold U64; omega)) (fun z hz => .nil _ _ _) (fun x hx => small_kind hlen hx (Or.inl rfl)) hF.rest (by show top + (2 + 2 + 0) ≤ W.length; omega)).mono ?_))
    rintro e w4 ⟨rfl, hMT, hET⟩;refine ⟨_, rfl, (zb rfl (zf rfl rfl (zb rfl (zf rfl rfl (avx rfl (anx rfl (zx (zw (rs := [.tmp 4, .tmp 5]) (vs := [_, _]) rfl ⟨rfl, rfl, trivial⟩ ?_))))))))⟩
    exact Or.inr ⟨W, top, 2, rfl, hlen, Or.inl ⟨List.eq_nil_of_length_eq_zero h0, rfl, rfl, rfl⟩, hr, hMT, (E4.mono (Y := Mut [some gm, some gW]) (fun _ h _ => h.elim)).step hET (fun q hq => Or.inl hq)⟩
   ·
    refine zt 30 (.bool false) rfl ((by rw [decide_eq_false hr] : (.bool (decide (top + 4 ≤ W.length)) : Value) = _)) (onx rfl (qe rfl (zb rfl (yh rfl rfl (anx rfl (yw rfl (zp (zd (yw rfl (srx (avx rfl (anx rfl (zx (ya (zn (zw (rs := [.tmp 4, .tmp 5]) (vs := [_, _]) rfl ⟨rfl, rfl, trivial⟩ ?_))))))))))))))))
    exact Or.inl ⟨5, by decide, rfl, E2.toBelow, fun _ => by omega⟩
  ·
   refine zt 27 (.bool false) rfl ((by congr 1; rw [beq_eq_false_iff_ne]; omega : (.bool (((T.length : Nat) : Int) == 0) : Value) = _)) (mvx rfl (zb rfl (zl rfl (zb rfl (zl rfl (zb rfl (zl rfl (zb rfl (zr rfl rfl (anx rfl (zy rfl (zz (mvx rfl (zb rfl (yi Try.underlying22 rfl (zb rfl (qh rfl rfl (zt 35 (.bool true) rfl ((by rw [decide_eq_true]; omega : (.bool (decide ((0 : Int) < ((T.length : Nat) : Int))) : Value) = _)) (mvx rfl (onx rfl (ze rfl (onx rfl (ze rfl (onx rfl (yi Try.underlying22 rfl (onx rfl (yc rfl rfl (zo (by omega)) (zt 40 (.int .i64 ((6 + T.length : Nat) : Int)) rfl ((by first | rfl | (congr 1; omega) : (.int .i64 (6 + (((T.length : Nat)) : Int)) : Value) = _)) (onx rfl (zq en41 rfl ((oroom_any lo gm gW cap top (6 + T.length) _ W hM1).mono ?_)))))))))))))))))))))))))))))))
   rintro e w5 ⟨rfl, hb⟩;refine ⟨_, rfl, ?_⟩;have E2 := E1.trans (Ext.of_below hb No);by_cases hr : top + (6 + T.length) ≤ W.length
   ·
    have hfit : top + (2 + T.length + ([] : List Nat).length) ≤ W.length := by show top + (2 + T.length + 0) ≤ W.length; omega
    have h1 := hM.one;refine zt 41 (.bool true) rfl ((by rw [decide_eq_true hr] : (.bool (decide (top + (6 + T.length) ≤ W.length)) : Value) = _)) (onx rfl (qe rfl (zb rfl (yh rfl rfl (anx rfl (zy rfl (zp (zh (zd (srx (mvx rfl (zb rfl (yi Try.underlying22 rfl (zb rfl (zq en36 rfl ((small_any _ T.length hlen).mono ?_))))))))))))))))
    rintro e w6 ⟨rfl, hb⟩;refine ⟨_, rfl, ?_⟩;have E3 := E2.trans (Ext.of_below hb No);have hM3 := hM.ext E3 (fun h => h) (fun h => h);have hT3 : ∀ z, Ext (Mut [some gm, some gW]) w6 z → WordsA n z B T := fun z hz => hT z ((E3.mono (Y := Mut [some gm, some gW]) (fun _ h _ => h.elim)).step hz (fun q hq => Or.inl hq))
    refine mvx rfl (zb rfl (zf rfl rfl (zb rfl (zf rfl rfl (avx rfl (anx rfl (srx (anx rfl (zi (srx (mvx rfl (zb rfl (yi Try.underlying22 rfl (zb rfl (qh rfl rfl (zt 52 (.bool true) rfl ((by rw [decide_eq_true]; omega : (.bool (decide ((0 : Int) < ((T.length : Nat) : Int))) : Value) = _)) (rnx (yw rfl (zz (mvx rfl (mvx rfl (zb rfl (zq en32 rfl ((ks lo gm gW cap top 11 c 0 n _ W T [] B none hM3 (by omega) (by omega) (Nat.zero_le _) hmW hT3 (fun z hz => .nil _ _ _) (fun x hx => (hg x hx).1) hF.rest hfit).mono ?_))))))))))))))))))))))))
    rintro e w7 ⟨rfl, hMA, hEA⟩;refine ⟨_, rfl, ?_⟩;have hEA2 := (E3.mono (Y := Mut [some gm, some gW]) (fun _ h _ => h.elim)).step hEA (fun q hq => Or.inl hq);have hll := va (k := 11) hfit
    refine mvx rfl (zb rfl (zf rfl rfl (zb rfl (zf rfl rfl (anx rfl (srx (mvx rfl (mvx rfl (mvx rfl (zb rfl (qn (cs := #[.int .u64 ((4 * T.length + 1 : Nat) : Int), .int .u64 ((4 * top : Nat) : Int)]) Try.underlying22 qi zr27 (by decide) rfl (by rw [vc]; rfl) ?_)))))))))));rintro gx wX Bx Ex Gx;have hl4 := hEA2.size
    have hM4 := hMA.ext Ex (fun h => h) (fun h => h);have hxg : ∀ q, Mut [some gm, some gW] q → q ≠ gx := fun q hq => by
     rcases hq with h | h | h
     · have : q = gm := Option.some.inj h;omega
     · have : q = gW := Option.some.inj h;omega
     · exact h.elim
    refine zb rfl (zq en32 rfl ((ks lo gm gW cap (top + (2 + T.length + 0)) 5 2 0 (gx + 1) _ (laid W top 11 T []) [4 * T.length + 1, 4 * top] [] (some ⟨gx, 0, none⟩) none hM4 (by omega) (by show 2 ≤ 1048576; decide) (Nat.zero_le _) hmW (fun z hz => gh z (Bx.ext hz (fun h => hxg gx h rfl)) (Nat.lt_succ_self gx) (by unfold U64; omega) (by unfold U64; omega)) (fun z hz => .nil _ _ _) (fun x hx => small_kind hlen hx (Or.inr (by omega))) (fun i hi => by rw [ow hfit hi]; exact hF.rest i (by omega)) (by rw [hll]; show top + (2 + T.length + 0) + (2 + 2 + 0) ≤ W.length; omega)).mono ?_))
    rintro e w8 ⟨rfl, hMT, hET⟩;refine ⟨_, rfl, (zb rfl (zf rfl rfl (zb rfl (zf rfl rfl (avx rfl (anx rfl (zx (zw (rs := [.tmp 4, .tmp 5]) (vs := [_, _]) rfl ⟨rfl, rfl, trivial⟩ ?_))))))))⟩
    exact Or.inr ⟨laid W top 11 T [], top + (2 + T.length + 0), 4 * top, rfl, hlen, Or.inr ⟨fun e => h0 (by rw [e]; rfl), rfl, rfl, rfl⟩, by rw [hll]; omega, hMT, (hEA2.step Ex (fun _ h => h.elim)).step hET (fun q hq => Or.inl hq)⟩
   ·
    refine zt 41 (.bool false) rfl ((by rw [decide_eq_false hr] : (.bool (decide (top + (6 + T.length) ≤ W.length)) : Value) = _)) (onx rfl (qe rfl (zb rfl (yh rfl rfl (anx rfl (yw rfl (srx (avx rfl (anx rfl (zx (ya (zn (zw (rs := [.tmp 4, .tmp 5]) (vs := [_, _]) rfl ⟨rfl, rfl, trivial⟩ ?_)))))))))))))
    exact Or.inl ⟨5, by decide, rfl, E2.toBelow, fun _ => by omega⟩
 ·
  refine qk 20 (.bool true) rfl ((by rw [decide_eq_true]; omega : (.bool (decide (20000 < (((T.length : Nat)) : Int))) : Value) = _)) (yw rfl (srx (avx rfl (anx rfl (zx (ya (zn (zw (rs := [.tmp 4, .tmp 5]) (vs := [_, _]) rfl ⟨rfl, rfl, trivial⟩ ?_))))))));exact Or.inl ⟨2, by decide, rfl, E1.toBelow, fun h => absurd h hlen⟩
end
end Go.Proofs.Ytjhmifebmplahaa
namespace Go.Proofs.Ytjhmifebmplahaa
open Go.RowKit
set_option maxRecDepth 100000
attribute [local irreducible] OW RS
theorem new_any (w : World) (n : Nat) (h2 : 2 ≤ n) (hn : n ≤ 1048576) : Calls Try.prog 20 #[.int .i64 ((n : Nat) : Int)] w fun e w' => (∃ g, e = .returned (.tuple #[.agg #[.slice (some ⟨g, 0, none⟩) n n, .int .i64 1], .int .i64 0]) ∧ Blk w' g 27 (List.replicate n (Value.int .u64 0)).toArray ∧ w.heap.size ≤ g) ∧ Below w.heap.size w w' := by
 refine yg Try.func20 rfl Try.ntmps20 rfl (srx (zb rfl (qc zr24 ?_)));rintro g2 wA B2 E1 G2
 refine anx rfl (zi (srx (mvx rfl (zb rfl (yl rfl rfl (zt 5 (.bool false) rfl ((by rw [decide_eq_false]; omega : (.bool (decide (((n : Nat) : Int) < 2)) : Value) = _)) (mvx rfl (onx rfl (ze rfl (onx rfl (qh rfl rfl (zt 8 (.bool false) rfl ((by rw [decide_eq_false]; omega : (.bool (decide ((1048576 : Int) < ((n : Nat) : Int))) : Value) = _)) (zb rfl (zr rfl rfl (rnx (zy rfl (zp (zd (srx (mvx rfl (zb rfl (jy (n := n) Try.underlying22 oa rfl rfl rfl rfl rfl (by omega) (by omega) ?_))))))))))))))))))))))
 rintro gs wB Bs E2 Gs;have B2b := B2.ext E2 (fun h => h.elim);have hs1 := E1.size;have h2l := B2.lt;refine zb rfl (vw (cs := #[.slice (some ⟨gs, 0, none⟩) n n, .int .i64 1]) pl24 zr24 rfl rfl (qd (yr qz rfl rfl B2b rfl rfl rfl ?_)));rintro wC Bz E3
 refine anx rfl (zx (zw (rs := [.cell 2 24, .tmp 3]) (vs := [_, _]) rfl ⟨⟨_, rfl, vv Try.underlying24 rfl qz Bz rfl⟩, rfl, trivial⟩ ?_));exact ⟨⟨gs, rfl, Bs.ext E3 (fun h => by have := qp h; omega), by omega⟩, (((E1.trans E2).noL w.heap.size).step E3 (fun q hq => Or.inl (show w.heap.size ≤ q by have := qp hq; omega))).below (fun _ h => h)⟩
end Go.Proofs.Ytjhmifebmplahaa
namespace Go.Proofs.Ytjhmifebmplahaa
open Go.RowKit
set_option maxRecDepth 100000
section
variable {P : Program} {N : Nat} {ops : Array Oper} {Q : Exit → Act → World → Prop} {σ : Env} {w : World} {ty : TypeId} {pos : String} {af : Array Edge} {dst : Option Nat} {Post : Value → World → Prop}
end
end Go.Proofs.Ytjhmifebmplahaa

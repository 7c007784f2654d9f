/- Texts of this claim. -/
import Derived.Test.YtmnmebdmpigddaaGreatDoorL23
import Derived.Lib.RepeatB
set_option maxRecDepth 100000
set_option maxHeartbeats 20000000
namespace Go.Proofs.YtmnmebdmpigddaaGreatDoor
open Go.RowKit Proofs.Tryz
noncomputable def fE (op i j:Int):Int×Int:=
 if op=1 then (bX true (i+j),bZ true (i+j))
 else if op=2 then (bX true (i-j),bZ true (i-j))
 else if op=3 then (bX true (i*j),bZ true (i*j))
 else if op=7 then (if j<0 then (0,1) else (bX true (i^j.toNat),bZ true (i^j.toNat)))
 else if j=0 then (0,6)
 else if op=5 then (dq (decide (i<0)) (decide (j<0)) i.natAbs j.natAbs,0)
 else (dr (decide (i<0)) (decide (j<0)) i.natAbs j.natAbs,0)
noncomputable def eP (op:Int) (x y:Nat):Nat×Int:=
 if op=1 then (oi (cK .add x y),0)
 else if op=2 then (oi (cK .sub x y),0)
 else if op=3 then (oi (cK .mul x y),0)
 else if op=4 then (ak3 x y,ak4 y)
 else if op=5 then (Gn x y,ak4 y)
 else (ap5 x y,ak4 y)
noncomputable def flR (op:Int) (x y:Nat×Int):PV×Int:=
 if x.2≠0 then (vZ,x.2) else if y.2≠0 then (vZ,y.2) else if (eP op x.1 y.1).2≠0 then (vZ,(eP op x.1 y.1).2) else (vFl (qz (eP op x.1 y.1).1),0)
noncomputable def YC (op:Int) (a b:PV):PV×Int:=
 if a.k=3∨b.k=3 then (if op=7 then (vZ,9) else flR op (qf a) (qf b))
 else if op≠4 then (if (fE op (qu a) (qu b)).2=0 then (vI (fE op (qu a) (qu b)).1,0) else (vZ,(fE op (qu a) (qu b)).2))
 else if qu b=0 then (vZ,6) else flR op (qf a) (qf b)
noncomputable def gQ (s:ByteArray) (n:Int):PV×Int:=
 if n≤0∨s.size=0 then (vT ⟨#[]⟩,0) else if 20000<n*s.size then (vZ,2) else (vT ⟨(Lib.repeatL s.data.toList n.toNat).toArray⟩,0)
def WhC (op:Int):Prop:=∀(w:World) (A B:Option Addr) (c d:Nat) (i j:Int),i.natAbs<au^30→j.natAbs<au^30→aA w A (limbs i)→aA w B (limbs j)→
 Calls prog 67 #[.int .i64 op,.agg #[.bool (decide (i<0)),.slice A (limbs i).length c],.agg #[.bool (decide (j<0)),.slice B (limbs j).length d]] w (zx w (fE op i j).1 (fE op i j).2)
def TT (op:Int):Prop:=∀(w:World) (x y:Nat),x<18446744073709551616→y<18446744073709551616→
 Calls prog 68 #[.int .i64 op,.int .u64 ((x:Nat):Int),.int .u64 ((y:Nat):Int)] w fun e w'=>e= .returned (.tuple #[.int .u64 (((eP op x y).1:Nat):Int),.int .i64 (eP op x y).2])∧Below w.heap.size w w'
theorem Mw {op:Int} (h:WhC op) (w:World) (A B:Option Addr) (c d:Nat) (i j:Int) (hi:i.natAbs<au^30) (hj:j.natAbs<au^30) (hx:aA w A (limbs i)) (hy:aA w B (limbs j)) (V f:Int) (hV:V=(fE op i j).1) (hf:f=(fE op i j).2) :
 Calls prog 67 #[.int .i64 op,.agg #[.bool (decide (i<0)),.slice A (limbs i).length c],.agg #[.bool (decide (j<0)),.slice B (limbs j).length d]] w (zx w V f):=by
 subst hV hf;exact h w A B c d i j hi hj hx hy
theorem Mx {op:Int} (h:TT op) (w:World) (x y:Nat) (hx:x<18446744073709551616) (hy:y<18446744073709551616) (V:Nat) (f:Int) (hV:V=(eP op x y).1) (hf:f=(eP op x y).2) :
 Calls prog 68 #[.int .i64 op,.int .u64 ((x:Nat):Int),.int .u64 ((y:Nat):Int)] w fun e w'=>e= .returned (.tuple #[.int .u64 ((V:Nat):Int),.int .i64 f])∧Below w.heap.size w w':=by
 subst hV hf;exact h w x y hx hy
def isC (v:PV):Bool:=decide (v.k=1) || decide (v.k=2)
noncomputable def vf (op:Int) (a b:PV):PV×Int:=
 if a.good&&b.good then (if op<1∨7<op then (vZ,9)
  else if qd a.k&&qd b.k then YC op a b
  else if op=1∧a.k=4∧b.k=4 then (if 20000<a.s.size+b.s.size then (vZ,2) else (vT (a.s++b.s),0))
  else if op=3∧a.k=4∧(b.k=1∨b.k=2) then gQ a.s (qu b)
  else if op=3∧b.k=4∧(a.k=1∨a.k=2) then gQ b.s (qu a)
  else (vZ,9)) else (vZ,3)
theorem yqv (op:BinOp) {x y:Nat}:oi (cK op x y)<18446744073709551616:=by
 unfold oi;cases h:cK op x y with
 | none=>decide
 | some r=>exact (yax h).2
theorem sH {a b:Nat} (h:¬qvv a b=true):rg a<9218868437227405312∧bO b=false:=by
 have h:=Bool.eq_false_iff.2 h;rw[qvv] at h;simp only[Bool.or_eq_false_iff,decide_eq_false_iff_not] at h
 have h1:=of_decide_eq_false h.1.1;exact ⟨om,h.1.2⟩
theorem MC {a b:Nat} (ha:a<18446744073709551616):Gn a b<18446744073709551616:=by
 unfold Gn;split
 · decide
 rename_i hz
 unfold Qs;split
 · decide
 rename_i hc
 obtain ⟨hf,hn⟩:=sH hc;have h0:rg b≠0:=fun e=>hz (by unfold uO;rw[e];rfl);split
 · exact (vv _ _ de).2.2
 unfold Qr;split
 · exact yqv _
 · exact (Fe (ak9 ha hf hn h0).1).2
theorem YD {a b:Nat}:ap5 a b<18446744073709551616:=by
 unfold ap5;split
 · decide
 rename_i hz
 unfold aBj;split
 · decide
 rename_i hc
 obtain ⟨hf,hn⟩:=sH hc;have h0:rg b≠0:=fun e=>hz (by unfold uO;rw[e];rfl);split
 · exact (vv _ _ de).2.2
 split
 · exact yqv _
 · exact (zZ hf h0).2.2
theorem yjk (op:Int) {x y:Nat} (hx:x<18446744073709551616) (_:y<18446744073709551616):(eP op x y).1<18446744073709551616:=by
 unfold eP;split
 · exact yqv _
 split
 · exact yqv _
 split
 · exact yqv _
 split
 · show ak3 x y<_
   unfold ak3;split
   · decide
   · exact yqv _
 split
 · exact MC hx
 · exact YD
theorem ap6 (s:ByteArray):(s.toList==(⟨#[]⟩:ByteArray).toList)=decide (s.size=0):=by
 rw[ByteArray.toList_eq,ByteArray.toList_eq,Bool.eq_iff_iff,beq_iff_eq,decide_eq_true_iff];constructor
 · intro h;have h1:=congrArg List.length h;rw[Array.length_toList] at h1;exact h1
 · intro h;exact List.eq_nil_of_length_eq_zero (by rw[Array.length_toList];exact h)
theorem nA {n:Int}:gJ true n 0≤0↔n≤0:=by
 unfold gJ iH;rw[if_pos rfl];split
 · omega
 · split<;>omega
theorem ap7 {m:Nat} (h:0<m):IntKind.i64.wrap ((20000:Int).tdiv ((m:Nat):Int))=((20000/m:Nat):Int):=by
 have h1:(20000:Int).tdiv ((m:Nat):Int)=((20000/m:Nat):Int):=rfl;have h2:20000/m≤20000:=Nat.div_le_self _ _;rw[h1];generalize 20000/m=q at h2 ⊢
 exact yr om
theorem PV.cnI {v:PV} (h:v.good=true) (hk:v.k=1∨v.k=2):v.cn=decide (qu v<0)∧v.cx=limbs (qu v):=⟨(PV.canon h hk).1,(PV.canon h hk).2.1⟩
theorem jy {i:Int} (h:i.natAbs<au^30):zm (decide (i<0)) (limbs i)=true∧num (decide (i<0)) (limbs i)=i:=⟨qy h,jz _⟩
end Go.Proofs.YtmnmebdmpigddaaGreatDoor
namespace Go.Proofs.YtmnmebdmpigddaaGreatDoor
open Go.RowKit Proofs.Tryz
theorem zsz {P Q:Prop} (k:Q) (h:(Unit→Q)→P:=by
 intro zK;refine zq ?_;refine qbx ?_;refine aQ ?_;exact zK ()):P:=h fun _=>k
theorem yfv {P Q:Prop} (k:Q) (h:(Unit→Q)→P:=by
 intro zK;refine zp (zo jf rfl rfl cB rfl rfl rfl ?_);exact zK ()):P:=h fun _=>k
theorem CP {P Q:Prop} (k:Q) (h:(Unit→Q)→P:=by
 intro zK;refine vo (τ:=[(0,_),(4,_),(5,_),(6,_),(7,_),(8,_),(9,.pointer (some ⟨dB,0,none⟩)),(10,.int .i64 f)]) ⟨rfl,rfl,rfl,rfl,rfl,rfl,congrArg some e9,congrArg some e11,trivial⟩ ?_;exact zK ()):P:=h fun _=>k
theorem CQ {P Q:Prop} (k:Q) (h:(Unit→Q)→P:=by
 intro zK;refine qo ?_;refine zd 18 (.bool false) rfl (by simp[h1]) (jm ?_);refine zd 24 (.bool false) rfl (by simp[h2]) (zd 8 (.bool false) rfl (by simp[h2]) (qrq ?_));refine ze 34 (.bool true) rfl (by simp[h4]) (zu ?_);exact zK ()):P:=h fun _=>k
theorem nD {P Q:Prop} (k:Q) (h:(Unit→Q)→P:=by
 intro zK;refine go ?_;refine ze 86 (.bool false) rfl (by simp[e3]) (zt ?_);refine za rfl (zb aI6 rfl ((YJ _ ua ha z zl).mono ?_));exact zK ()):P:=h fun _=>k
theorem YK {P Q:Prop} (k:Q) (h:(Unit→Q)→P:=by
 intro zK;refine zp (zo jf rfl rfl aC rfl rfl rfl ?_);exact zK ()):P:=h fun _=>k
theorem qaq {P Q:Prop} (k:Q) (h:(Unit→Q)→P:=by
 intro zK;refine qo ?_;refine zd 18 (.bool true) rfl (by simp[h1]) (Ed ?_);refine ze 27 (.bool false) rfl (by simp[h7]) (aax ?_);refine nE ?_;exact zK ()):P:=h fun _=>k
theorem ztz {P Q:Prop} (k:Q) (h:(Unit→Q)→P:=by
 intro zK;refine go ?_;refine ze 75 (.bool false) rfl (by simp[e2]) (yu ?_);refine za rfl (zb aIj rfl ((Mx MJ _ x y xl yl z e hZ hK).mono ?_));exact zK ()):P:=h fun _=>k
theorem qak {P Q:Prop} (k:Q) (h:(Unit→Q)→P:=by
 intro zK;refine zd 18 (.bool false) rfl (by simp[h1]) (jm ?_);refine zd 24 (.bool true) rfl (by simp[h2]) (zd 8 (.bool true) rfl (by simp[h2]) (zv ?_));refine ze 27 (.bool false) rfl (by simp[h7]) (aax ?_);refine nE ?_;exact zK ()):P:=h fun _=>k
theorem qav {P Q:Prop} (k:Q) (h:(Unit→Q)→P:=by
 intro zK;refine bV rfl (pK u24 rfl u22 rfl rfl rfl (zv ?_));refine ze 58 (.bool false) rfl (by rw[beq_eq_false_iff_ne.2 (show (((limbs J).length:Nat):Int)≠0 from om)]<;>rfl) (zt ?_);refine nE ?_;exact zK ()):P:=h fun _=>k
theorem ygv {P Q:Prop} (k:Q) (h:(Unit→Q)→P:=by
 intro zK;refine qo ?_;refine zd 18 (.bool false) rfl (by simp[h1]) (jm ?_);refine zd 24 (.bool false) rfl (by simp[h2]) (zd 8 (.bool false) rfl (by simp[h2]) (aaz ?_));refine bV rfl (zb jJ rfl ((CS ub A2 B2 c2 d2 gb kb J hJ).mono ?_));exact zK ()):P:=h fun _=>k
theorem qbx {P Q:Prop} (k:Q) (h:(Unit→Q)→P:=by
 intro zK;refine za rfl (ja (cs:=#[.int .i64 0,.bool false,.bool false,.slice none 0 0,.int .u64 0,.string ⟨#[]⟩,.slice none 0 0]) wS yB rfl rfl ?_);exact zK ()):P:=h fun _=>k
theorem nE {P Q:Prop} (k:Q) (h:(Unit→Q)→P:=by
 intro zK;refine za rfl (zb auj rfl ((CO _ ua A1 B1 c1 d1 (HF.on E).here.1.1.1.1.1.2 hl ha (later hD (LW.step E aj).toBelow) (HF.on E).here.1.1.1.2 ⟨te,pe,(HF.on E).here.1.1.2⟩ ga na x f hX hF).mono ?_));exact zK ()):P:=h fun _=>k
theorem YL {P Q:Prop} (k:Q) (h:(Unit→Q)→P:=by
 intro zK;refine go ?_;refine ze 66 (.bool false) rfl (by simp[e1]) (zt ?_);refine za rfl (zb auj rfl ((CO _ ub A2 B2 c2 d2 (HF.on E).here.1.1.1.1.2 hl' hb0 (later hD (LW.step E aj).toBelow) (HF.on E).here.1.1.1.2 ⟨te,pe,(HF.on E).here.1.1.2⟩ gb nb y g hY hG).mono ?_));exact zK ()):P:=h fun _=>k
theorem qoz {P:Prop} (h:P:=by
 refine zt ?_;exact Ns):P:=h
theorem af9 {P:Prop} (h:P:=by
 replace E:=E.step1 aT ak.head;obtain ⟨HF,LW,aj,E⟩:=dz HF LW E aj (Y:=No) (ak.skip ak.aV) (Per.aS aC ah.nil);refine zv ?_;exact Ns):P:=h
theorem afq {P:Prop} (h:P:=by
 refine za rfl (ja (cs:=#[.int .i64 0,.bool false,.bool false,.slice none 0 0,.int .u64 0,.string ⟨#[]⟩,.slice none 0 0]) wS yB rfl rfl ?_);exact afz):P:=h
theorem afx {P:Prop} (h:P:=by
 refine zq ?_;refine za rfl (ja (cs:=#[.int .i64 0,.bool false,.bool false,.slice none 0 0,.int .u64 0,.string ⟨#[]⟩,.slice none 0 0]) wS yB rfl rfl (aQ ?_));exact afj):P:=h
theorem ag0 {P:Prop} (h:P:=by
 refine zq ?_;refine za rfl (ja (cs:=#[.int .i64 0,.bool false,.bool false,.slice none 0 0,.int .u64 0,.string ⟨#[]⟩,.slice none 0 0]) wS yB rfl rfl (aQ ?_));refine zp (zo jf rfl rfl aC rfl rfl rfl ?_);intro dI Bx aT;replace aC:aB dI aX 28 #[.int .i64 0,.bool false,.bool false,.slice none 0 0,.int .u64 0,.string ⟨#[]⟩,.slice none 0 0]:=Bx;replace E:=E.step1 aT ak.head;refine zt ?_;exact Ns):P:=h
theorem afz {P:Prop} (h:P:=by
 refine zp (zo jf rfl rfl aC rfl rfl rfl ?_);intro w8 Bx aT;replace aC:aB w8 aX 28 #[.int .i64 0,.bool false,.bool false,.slice none 0 0,.int .u64 0,.string ⟨#[]⟩,.slice none 0 0]:=Bx;replace E:=E.step1 aT ak.head;refine zt ?_;exact Ns):P:=h
theorem afj {P:Prop} (h:P:=by
 refine zp (zo jf rfl rfl aC rfl rfl rfl ?_);intro w9 Bx aT;replace aC:aB w9 aX 28 #[.int .i64 0,.bool false,.bool false,.slice none 0 0,.int .u64 0,.string ⟨#[]⟩,.slice none 0 0]:=Bx;replace E:=E.step1 aT ak.head;refine zt ?_;exact Ns):P:=h
theorem Ns {P:Prop} (h:P:=by
 exact ⟨none,0,rfl,qvx,(LW.step E aj).toBelow⟩):P:=h
theorem aF2 {P:Prop} (h:P:=by
 refine ⟨arm,arm,?_,arm,?_,?_,?_,?_,?_,?_,?_,arm,trivial⟩
 · refine qh ?_;intro vs X wq K;have XN:=K.2.1;refine zb jJ rfl ((CS ua A1 B1 c1 d1 ga ka I hI).mono ?_);rintro e w2 ⟨A3,q3,rfl,hN,hb⟩;exact ⟨_,rfl,hb,⟨(A3,q3),rfl,QJ hN XN⟩⟩
 · refine qh ?_;intro vs X wq K;have XN:=K.2.1;refine zb jJ rfl ((CS ub A2 B2 c2 d2 gb kb J hJ).mono ?_);rintro e w2 ⟨A4,q4,rfl,hN,hb⟩;exact ⟨_,rfl,hb,⟨(A4,q4),rfl,QJ hN XN⟩⟩
 · refine qh ?_;intro vs X wq K;have LE:=K.1;have XN:=K.2.1;obtain ⟨⟨A3,q3⟩,e2,k2⟩:=K.dep 2 rfl rfl rfl;refine vd 38 _ rfl e2 ?_;obtain ⟨⟨A4,q4⟩,e4,k4⟩:=K.dep 4 rfl rfl rfl;refine vd 40 _ rfl e4 (zb av0 rfl ((Mw hW _ A3 A4 q3 q4 I J Ib Jb ((k2.here).nums (HF.on (E.drew.trans (LE.mono OY))).here.1.1.1.1.1.2) ((k4.here).nums (HF.on (E.drew.trans (LE.mono OY))).here.1.1.1.1.2) v f hV hF).mono ?_));rintro e w2 ⟨A5,q5,rfl,hO,hb⟩;exact ⟨_,rfl,hb,⟨(A5,q5),rfl,qdq hO XN (Nat.le_trans GL LE.size)⟩⟩
 · intro vs X wq K;obtain ⟨⟨A5,q5⟩,e5,k5⟩:=K.dep 5 rfl rfl rfl;refine vd 41 _ rfl e5 ?_;exact ynq rfl ⟨Below.refl _ _,⟨⟨A5,q5⟩,rfl,(k5.map (fun _ h=>h))⟩⟩
 · intro vs X wq K;obtain ⟨⟨A5,q5⟩,e6,k6⟩:=K.dep 6 rfl rfl rfl;refine vd 35 _ rfl e6 ?_;exact jk rfl rfl ⟨Below.refl _ _,⟨⟨A5,q5⟩,rfl,(k6.map (fun _ h=>h))⟩⟩
 · intro vs X wq K;obtain ⟨⟨A5,q5⟩,e6,k6⟩:=K.dep 6 rfl rfl rfl;refine vd 35 _ rfl e6 ?_;exact jk rfl rfl ⟨Below.refl _ _,Left.of rfl⟩
 · exact ⟨_,_,_,_,_,rfl,JN,rfl⟩
 · refine ⟨_,_,_,_,_,rfl,rfl,rfl,kz,fun vs X wq K=>?_⟩;obtain ⟨⟨A5,q5⟩,e0,_⟩:=K.dep 7 rfl rfl rfl;exact ⟨vs 7,rfl,by rw[e0];rfl,by rw[e0];rfl⟩):P:=h
attribute [local irreducible] OW RS CW EW
theorem CS {w:World} (v:PV) (A B:Option Addr) (c d:Nat) (hg:v.good=true) (hk:v.k=1∨v.k=2) (I:Int) (hI:I=qu v):Calls prog 33 #[aP v A c B d] w (Fv w A (decide (I<0)) v.xs (limbs I)):=by
 have h:=ztk w v A B c d;rw[(PV.cnI hg hk).1,(PV.cnI hg hk).2,←hI] at h;exact h
section
variable (w:World) (ua ub:PV) (A1 B1 A2 B2:Option Addr) (c1 d1 c2 d2:Nat) (hx:aA w A1 ua.xs) (hl:ua.xs.length≤9223372036854775807) (ha:ua.bits<18446744073709551616) (hy:aA w A2 ub.xs) (hl':ub.xs.length≤9223372036854775807) (hb0:ub.bits<18446744073709551616)
variable {bp op cp bf of cf bl ol cl:Nat} (hD:∀b,Below w.heap.size w b→fD b) (aG:dK bp op cp bf of cf bl ol cl w) (hE:∃te pe,w.cell? ⟨4,0,none⟩=some (.iface te pe))
include hx hl ha hy hl' hb0 hD aG hE
theorem YM (hf:ua.k=3∨ub.k=3):Calls prog 30 #[.int .i64 7,aP ua A1 c1 B1 d1,aP ub A2 c2 B2 d2] w (vg w (vZ,9)):=by
 have _:=hx;have _:=hl;have _:=ha;have _:=hy;have _:=hl';have _:=hb0;have _:=hD;have _:=aG;have _:=hE;obtain ⟨te,pe,hE⟩:=hE;refine zc func30 rfl ntmps30 rfl ?_;obtain ⟨HF,LW,aj,E⟩:=bg w;replace HF:=HF.and (Per.ay hx);replace HF:=HF.and (Per.ay hy);replace HF:=HF.and (Per.tabs aG (fun _ h=>h.elim));replace HF:=HF.and (Per.aR hE (fun _ h=>h.elim));by_cases h1:ua.k=3
 ·
  refine zf ?_;intro aO w2 aD aI aW;obtain ⟨HF,LW,E⟩:=aK HF LW E aj aD aI;refine za rfl (zn rfl ?_);intro bM w4 aJ aM bN;obtain ⟨HF,LW,E⟩:=aK HF LW E aj aJ aM;refine zi ?_;intro aX w6 aC aT aU;obtain ⟨aU,HF,E,aj⟩:=aZ HF LW E aj aT aU;refine qo ?_;refine zd 18 (.bool true) rfl (by simp[h1]) (OI ?_);refine qbx ?_;refine YK ?_;intro w7 Bx aT;replace aC:aB w7 aX 28 #[.int .i64 0,.bool false,.bool false,.slice none 0 0,.int .u64 0,.string ⟨#[]⟩,.slice none 0 0]:=Bx;replace E:=E.step1 aT ak.head;exact qoz
 ·
  have h2:ub.k=3:=hf.resolve_left h1;refine zf ?_;intro dB w9 bJ dN fO;obtain ⟨HF,LW,E⟩:=aK HF LW E aj bJ dN;refine za rfl (zn rfl ?_);intro bY dS bG bK dD;obtain ⟨HF,LW,E⟩:=aK HF LW E aj bG bK;refine zi ?_;intro lu fK eu dH eD;obtain ⟨eD,HF,E,aj⟩:=aZ HF LW E aj dH eD;refine qo ?_;refine zd 18 (.bool false) rfl (by simp[h1]) (jm ?_);refine zd 24 (.bool true) rfl (by simp[h2]) (zd 8 (.bool true) rfl (by simp[h2]) (yu ?_));refine qbx ?_;refine zp (zo jf rfl rfl eu rfl rfl rfl ?_);intro dL Bx dH;replace eu:aB dL lu 28 #[.int .i64 0,.bool false,.bool false,.slice none 0 0,.int .u64 0,.string ⟨#[]⟩,.slice none 0 0]:=Bx;replace E:=E.step1 dH ak.head;exact qoz
theorem YN (op:Int) (hf:ua.k=3∨ub.k=3) (h7:op≠7) (ga:ua.good=true) (na:qd ua.k=true) (gb:ub.good=true) (nb:qd ub.k=true) (e1:(qf ua).2≠0):Calls prog 30 #[.int .i64 op,aP ua A1 c1 B1 d1,aP ub A2 c2 B2 d2] w (vg w (vZ,(qf ua).2)):=by
 have _:=hx;have _:=hl;have _:=ha;have _:=hy;have _:=hl';have _:=hb0;have _:=hD;have _:=aG;have _:=hE;obtain ⟨te,pe,hE⟩:=hE;obtain ⟨x,hX⟩:∃x,x=(qf ua).1:=⟨_,rfl⟩;obtain ⟨f,hF⟩:∃f,f=(qf ua).2:=⟨_,rfl⟩;obtain ⟨y,hY⟩:∃y,y=(qf ub).1:=⟨_,rfl⟩;obtain ⟨g,hG⟩:∃g,g=(qf ub).2:=⟨_,rfl⟩;obtain ⟨z,hZ⟩:∃z,z=(eP op x y).1:=⟨_,rfl⟩;obtain ⟨e,hK⟩:∃e,e=(eP op x y).2:=⟨_,rfl⟩;have xl:x<18446744073709551616:=hX▸kd ha;have yl:y<18446744073709551616:=hY▸kd hb0;have zl:z<18446744073709551616:=hZ▸yjk op xl yl;rw[←hF] at e1 ⊢;refine zc func30 rfl ntmps30 rfl ?_;obtain ⟨HF,LW,aj,E⟩:=bg w;replace HF:=HF.and (Per.ay hx);replace HF:=HF.and (Per.ay hy);replace HF:=HF.and (Per.tabs aG (fun _ h=>h.elim));replace HF:=HF.and (Per.aR hE (fun _ h=>h.elim));by_cases h1:ua.k=3
 ·
  refine zf ?_;intro aO w2 aD aI aW;obtain ⟨HF,LW,E⟩:=aK HF LW E aj aD aI;refine za rfl (zn rfl ?_);intro bM w4 aJ aM bN;obtain ⟨HF,LW,E⟩:=aK HF LW E aj aJ aM;refine zi ?_;intro aX w6 aC aT aU;obtain ⟨aU,HF,E,aj⟩:=aZ HF LW E aj aT aU;refine qaq ?_;rintro e w7 ⟨rfl,hb⟩;refine ⟨_,rfl,?_⟩;have Ec:=Ext.of_below hb No;replace aC:=aC.av Ec ah.nil;replace E:=E.trans Ec.no;refine go ?_;refine ze 66 (.bool true) rfl (by simp[e1]) (zsz ?_);exact afz
 ·
  have h2:ub.k=3:=hf.resolve_left h1;refine zf ?_;intro gb9 dI Vf Vg Gb9;obtain ⟨HF,LW,E⟩:=aK HF LW E aj Vf Vg;refine za rfl (zn rfl ?_);intro gL eB dU dV iw;obtain ⟨HF,LW,E⟩:=aK HF LW E aj dU dV;refine zi ?_;intro Le dL iy lI Fy;obtain ⟨Fy,HF,E,aj⟩:=aZ HF LW E aj lI Fy;refine qo ?_;refine qak ?_;rintro e fM ⟨rfl,hb⟩;refine ⟨_,rfl,?_⟩;have Ec:=Ext.of_below hb No;replace iy:=iy.av Ec ah.nil;replace E:=E.trans Ec.no;refine go ?_;refine ze 66 (.bool true) rfl (by simp[e1]) (zsz ?_);refine zp (zo jf rfl rfl iy rfl rfl rfl ?_);intro w16 Bx lI;replace iy:aB w16 Le 28 #[.int .i64 0,.bool false,.bool false,.slice none 0 0,.int .u64 0,.string ⟨#[]⟩,.slice none 0 0]:=Bx;replace E:=E.step1 lI ak.head;exact qoz
theorem YO (h1:ua.k≠3) (h2:ub.k≠3) (hj:qu ub≠0) (ga:ua.good=true) (na:qd ua.k=true) (gb:ub.good=true) (nb:qd ub.k=true) (e1:(qf ua).2≠0):Calls prog 30 #[.int .i64 4,aP ua A1 c1 B1 d1,aP ub A2 c2 B2 d2] w (vg w (vZ,(qf ua).2)):=by
 have _:=hx;have _:=hl;have _:=ha;have _:=hy;have _:=hl';have _:=hb0;have _:=hD;have _:=aG;have _:=hE;obtain ⟨te,pe,hE⟩:=hE;obtain ⟨x,hX⟩:∃x,x=(qf ua).1:=⟨_,rfl⟩;obtain ⟨f,hF⟩:∃f,f=(qf ua).2:=⟨_,rfl⟩;obtain ⟨y,hY⟩:∃y,y=(qf ub).1:=⟨_,rfl⟩;obtain ⟨g,hG⟩:∃g,g=(qf ub).2:=⟨_,rfl⟩;obtain ⟨z,hZ⟩:∃z,z=(eP 4 x y).1:=⟨_,rfl⟩;obtain ⟨e,hK⟩:∃e,e=(eP 4 x y).2:=⟨_,rfl⟩;have xl:x<18446744073709551616:=hX▸kd ha;have yl:y<18446744073709551616:=hY▸kd hb0;have zl:z<18446744073709551616:=hZ▸yjk 4 xl yl;rw[←hF] at e1 ⊢;have kb:ub.k=1∨ub.k=2:=by have:=QY nb;omega
 obtain ⟨J,hJ⟩:∃J,J=qu ub:=⟨_,rfl⟩;rw[←hJ] at hj;have hjl:=oa hj;refine zc func30 rfl ntmps30 rfl ?_;obtain ⟨HF,LW,aj,E⟩:=bg w;replace HF:=HF.and (Per.ay hx);replace HF:=HF.and (Per.ay hy);replace HF:=HF.and (Per.tabs aG (fun _ h=>h.elim));replace HF:=HF.and (Per.aR hE (fun _ h=>h.elim));refine zf ?_;intro aO w2 aD aI aW;obtain ⟨HF,LW,E⟩:=aK HF LW E aj aD aI;refine za rfl (zn rfl ?_);intro bM w4 aJ aM bN;obtain ⟨HF,LW,E⟩:=aK HF LW E aj aJ aM;refine zi ?_;intro aX w6 aC aT aU;obtain ⟨aU,HF,E,aj⟩:=aZ HF LW E aj aT aU;refine ygv ?_;rintro e w7 ⟨A4,q4,rfl,hN4,hb⟩;refine ⟨_,rfl,?_⟩;have Ec:=Ext.of_below hb No;replace aC:=aC.av Ec ah.nil;replace E:=E.trans Ec.no;refine qav ?_;rintro e w8 ⟨rfl,hb⟩;refine ⟨_,rfl,?_⟩;have Ec:=Ext.of_below hb No;replace aC:=aC.av Ec ah.nil;replace E:=E.trans Ec.no;refine go ?_;refine ze 66 (.bool true) rfl (by simp[e1]) ?_;exact afx
theorem YP (op:Int) (hf:ua.k=3∨ub.k=3) (h7:op≠7) (ga:ua.good=true) (na:qd ua.k=true) (gb:ub.good=true) (nb:qd ub.k=true) (e1:(qf ua).2=0) (e2:(qf ub).2≠0):Calls prog 30 #[.int .i64 op,aP ua A1 c1 B1 d1,aP ub A2 c2 B2 d2] w (vg w (vZ,(qf ub).2)):=by
 have _:=hx;have _:=hl;have _:=ha;have _:=hy;have _:=hl';have _:=hb0;have _:=hD;have _:=aG;have _:=hE;obtain ⟨te,pe,hE⟩:=hE;obtain ⟨x,hX⟩:∃x,x=(qf ua).1:=⟨_,rfl⟩;obtain ⟨f,hF⟩:∃f,f=(qf ua).2:=⟨_,rfl⟩;obtain ⟨y,hY⟩:∃y,y=(qf ub).1:=⟨_,rfl⟩;obtain ⟨g,hG⟩:∃g,g=(qf ub).2:=⟨_,rfl⟩;obtain ⟨z,hZ⟩:∃z,z=(eP op x y).1:=⟨_,rfl⟩;obtain ⟨e,hK⟩:∃e,e=(eP op x y).2:=⟨_,rfl⟩;have xl:x<18446744073709551616:=hX▸kd ha;have yl:y<18446744073709551616:=hY▸kd hb0;have zl:z<18446744073709551616:=hZ▸yjk op xl yl;rw[←hF] at e1;rw[←hG] at e2 ⊢;refine zc func30 rfl ntmps30 rfl ?_;obtain ⟨HF,LW,aj,E⟩:=bg w;replace HF:=HF.and (Per.ay hx);replace HF:=HF.and (Per.ay hy);replace HF:=HF.and (Per.tabs aG (fun _ h=>h.elim));replace HF:=HF.and (Per.aR hE (fun _ h=>h.elim));by_cases h1:ua.k=3
 ·
  refine zf ?_;intro aO w2 aD aI aW;obtain ⟨HF,LW,E⟩:=aK HF LW E aj aD aI;refine za rfl (zn rfl ?_);intro bM w4 aJ aM bN;obtain ⟨HF,LW,E⟩:=aK HF LW E aj aJ aM;refine zi ?_;intro aX w6 aC aT aU;obtain ⟨aU,HF,E,aj⟩:=aZ HF LW E aj aT aU;refine qaq ?_;rintro e w7 ⟨rfl,hb⟩;refine ⟨_,rfl,?_⟩;have Ec:=Ext.of_below hb No;replace aC:=aC.av Ec ah.nil;replace E:=E.trans Ec.no;refine YL ?_;rintro e w8 ⟨rfl,hb⟩;refine ⟨_,rfl,?_⟩;have Ec:=Ext.of_below hb No;replace aC:=aC.av Ec ah.nil;replace E:=E.trans Ec.no;refine go ?_;refine ze 75 (.bool true) rfl (by simp[e2]) ?_;exact afx
 ·
  have h2:ub.k=3:=hf.resolve_left h1;refine zf ?_;intro bY dS bG bK dD;obtain ⟨HF,LW,E⟩:=aK HF LW E aj bG bK;refine za rfl (zn rfl ?_);intro lu fK eu dH eD;obtain ⟨HF,LW,E⟩:=aK HF LW E aj eu dH;refine zi ?_;intro aF3 fM CU TY apq;obtain ⟨apq,HF,E,aj⟩:=aZ HF LW E aj TY apq;refine qo ?_;refine qak ?_;rintro e w16 ⟨rfl,hb⟩;refine ⟨_,rfl,?_⟩;have Ec:=Ext.of_below hb No;replace CU:=CU.av Ec ah.nil;replace E:=E.trans Ec.no;refine YL ?_;rintro e nS ⟨rfl,hb⟩;refine ⟨_,rfl,?_⟩;have Ec:=Ext.of_below hb No;replace CU:=CU.av Ec ah.nil;replace E:=E.trans Ec.no;refine go ?_;refine ze 75 (.bool true) rfl (by simp[e2]) (zsz ?_);refine zp (zo jf rfl rfl CU rfl rfl rfl ?_);intro fF Bx TY;replace CU:aB fF aF3 28 #[.int .i64 0,.bool false,.bool false,.slice none 0 0,.int .u64 0,.string ⟨#[]⟩,.slice none 0 0]:=Bx;replace E:=E.step1 TY ak.head;exact qoz
theorem YQ (h1:ua.k≠3) (h2:ub.k≠3) (hj:qu ub≠0) (ga:ua.good=true) (na:qd ua.k=true) (gb:ub.good=true) (nb:qd ub.k=true) (e1:(qf ua).2=0) (e2:(qf ub).2≠0):Calls prog 30 #[.int .i64 4,aP ua A1 c1 B1 d1,aP ub A2 c2 B2 d2] w (vg w (vZ,(qf ub).2)):=by
 have _:=hx;have _:=hl;have _:=ha;have _:=hy;have _:=hl';have _:=hb0;have _:=hD;have _:=aG;have _:=hE;obtain ⟨te,pe,hE⟩:=hE;obtain ⟨x,hX⟩:∃x,x=(qf ua).1:=⟨_,rfl⟩;obtain ⟨f,hF⟩:∃f,f=(qf ua).2:=⟨_,rfl⟩;obtain ⟨y,hY⟩:∃y,y=(qf ub).1:=⟨_,rfl⟩;obtain ⟨g,hG⟩:∃g,g=(qf ub).2:=⟨_,rfl⟩;obtain ⟨z,hZ⟩:∃z,z=(eP 4 x y).1:=⟨_,rfl⟩;obtain ⟨e,hK⟩:∃e,e=(eP 4 x y).2:=⟨_,rfl⟩;have xl:x<18446744073709551616:=hX▸kd ha;have yl:y<18446744073709551616:=hY▸kd hb0;have zl:z<18446744073709551616:=hZ▸yjk 4 xl yl;rw[←hF] at e1;rw[←hG] at e2 ⊢;have kb:ub.k=1∨ub.k=2:=by have:=QY nb;omega
 obtain ⟨J,hJ⟩:∃J,J=qu ub:=⟨_,rfl⟩;rw[←hJ] at hj;have hjl:=oa hj;refine zc func30 rfl ntmps30 rfl ?_;obtain ⟨HF,LW,aj,E⟩:=bg w;replace HF:=HF.and (Per.ay hx);replace HF:=HF.and (Per.ay hy);replace HF:=HF.and (Per.tabs aG (fun _ h=>h.elim));replace HF:=HF.and (Per.aR hE (fun _ h=>h.elim));refine zf ?_;intro aO w2 aD aI aW;obtain ⟨HF,LW,E⟩:=aK HF LW E aj aD aI;refine za rfl (zn rfl ?_);intro bM w4 aJ aM bN;obtain ⟨HF,LW,E⟩:=aK HF LW E aj aJ aM;refine zi ?_;intro aX w6 aC aT aU;obtain ⟨aU,HF,E,aj⟩:=aZ HF LW E aj aT aU;refine ygv ?_;rintro e w7 ⟨A4,q4,rfl,hN4,hb⟩;refine ⟨_,rfl,?_⟩;have Ec:=Ext.of_below hb No;replace aC:=aC.av Ec ah.nil;replace E:=E.trans Ec.no;refine qav ?_;rintro e w8 ⟨rfl,hb⟩;refine ⟨_,rfl,?_⟩;have Ec:=Ext.of_below hb No;replace aC:=aC.av Ec ah.nil;replace E:=E.trans Ec.no;refine YL ?_;rintro e w9 ⟨rfl,hb⟩;refine ⟨_,rfl,?_⟩;have Ec:=Ext.of_below hb No;replace aC:=aC.av Ec ah.nil;replace E:=E.trans Ec.no;refine go ?_;refine ze 75 (.bool true) rfl (by simp[e2]) ?_;exact ag0
theorem YR (op:Int) (hf:ua.k=3∨ub.k=3) (h7:op≠7) (ga:ua.good=true) (na:qd ua.k=true) (gb:ub.good=true) (nb:qd ub.k=true) (MJ:TT op) (e1:(qf ua).2=0) (e2:(qf ub).2=0) (e3:(eP op (qf ua).1 (qf ub).1).2≠0):Calls prog 30 #[.int .i64 op,aP ua A1 c1 B1 d1,aP ub A2 c2 B2 d2] w (vg w (vZ,(eP op (qf ua).1 (qf ub).1).2)):=by
 have _:=hx;have _:=hl;have _:=ha;have _:=hy;have _:=hl';have _:=hb0;have _:=hD;have _:=aG;have _:=hE;obtain ⟨te,pe,hE⟩:=hE;obtain ⟨x,hX⟩:∃x,x=(qf ua).1:=⟨_,rfl⟩;obtain ⟨f,hF⟩:∃f,f=(qf ua).2:=⟨_,rfl⟩;obtain ⟨y,hY⟩:∃y,y=(qf ub).1:=⟨_,rfl⟩;obtain ⟨g,hG⟩:∃g,g=(qf ub).2:=⟨_,rfl⟩;obtain ⟨z,hZ⟩:∃z,z=(eP op x y).1:=⟨_,rfl⟩;obtain ⟨e,hK⟩:∃e,e=(eP op x y).2:=⟨_,rfl⟩;have xl:x<18446744073709551616:=hX▸kd ha;have yl:y<18446744073709551616:=hY▸kd hb0;have zl:z<18446744073709551616:=hZ▸yjk op xl yl;rw[←hF] at e1;rw[←hG] at e2;rw[←hX,←hY,←hK] at e3 ⊢;refine zc func30 rfl ntmps30 rfl ?_;obtain ⟨HF,LW,aj,E⟩:=bg w;replace HF:=HF.and (Per.ay hx);replace HF:=HF.and (Per.ay hy);replace HF:=HF.and (Per.tabs aG (fun _ h=>h.elim));replace HF:=HF.and (Per.aR hE (fun _ h=>h.elim));by_cases h1:ua.k=3
 ·
  refine zf ?_;intro aO w2 aD aI aW;obtain ⟨HF,LW,E⟩:=aK HF LW E aj aD aI;refine za rfl (zn rfl ?_);intro bM w4 aJ aM bN;obtain ⟨HF,LW,E⟩:=aK HF LW E aj aJ aM;refine zi ?_;intro aX w6 aC aT aU;obtain ⟨aU,HF,E,aj⟩:=aZ HF LW E aj aT aU;refine qaq ?_;rintro e w7 ⟨rfl,hb⟩;refine ⟨_,rfl,?_⟩;have Ec:=Ext.of_below hb No;replace aC:=aC.av Ec ah.nil;replace E:=E.trans Ec.no;refine YL ?_;rintro e w8 ⟨rfl,hb⟩;refine ⟨_,rfl,?_⟩;have Ec:=Ext.of_below hb No;replace aC:=aC.av Ec ah.nil;replace E:=E.trans Ec.no;refine ztz ?_;rintro e w9 ⟨rfl,hb⟩;refine ⟨_,rfl,?_⟩;have Ec:=Ext.of_below hb No;replace aC:=aC.av Ec ah.nil;replace E:=E.trans Ec.no;refine go ?_;refine ze 86 (.bool true) rfl (by simp[e3]) ?_;exact ag0
 ·
  have h2:ub.k=3:=hf.resolve_left h1;refine zf ?_;intro gL eB dU dV iw;obtain ⟨HF,LW,E⟩:=aK HF LW E aj dU dV;refine za rfl (zn rfl ?_);intro Le dL iy lI Fy;obtain ⟨HF,LW,E⟩:=aK HF LW E aj iy lI;refine zi ?_;intro aN6 w16 CV apz aF4;obtain ⟨aF4,HF,E,aj⟩:=aZ HF LW E aj apz aF4;refine qo ?_;refine qak ?_;rintro e nS ⟨rfl,hb⟩;refine ⟨_,rfl,?_⟩;have Ec:=Ext.of_below hb No;replace CV:=CV.av Ec ah.nil;replace E:=E.trans Ec.no;refine YL ?_;rintro e fF ⟨rfl,hb⟩;refine ⟨_,rfl,?_⟩;have Ec:=Ext.of_below hb No;replace CV:=CV.av Ec ah.nil;replace E:=E.trans Ec.no;refine ztz ?_;rintro e nT ⟨rfl,hb⟩;refine ⟨_,rfl,?_⟩;have Ec:=Ext.of_below hb No;replace CV:=CV.av Ec ah.nil;replace E:=E.trans Ec.no;refine go ?_;refine ze 86 (.bool true) rfl (by simp[e3]) (zsz ?_);refine zp (zo jf rfl rfl CV rfl rfl rfl ?_);intro Qz Bx apz;replace CV:aB Qz aN6 28 #[.int .i64 0,.bool false,.bool false,.slice none 0 0,.int .u64 0,.string ⟨#[]⟩,.slice none 0 0]:=Bx;replace E:=E.step1 apz ak.head;exact qoz
theorem YS (h1:ua.k≠3) (h2:ub.k≠3) (hj:qu ub≠0) (ga:ua.good=true) (na:qd ua.k=true) (gb:ub.good=true) (nb:qd ub.k=true) (MJ:TT 4) (e1:(qf ua).2=0) (e2:(qf ub).2=0) (e3:(eP 4 (qf ua).1 (qf ub).1).2≠0):Calls prog 30 #[.int .i64 4,aP ua A1 c1 B1 d1,aP ub A2 c2 B2 d2] w (vg w (vZ,(eP 4 (qf ua).1 (qf ub).1).2)):=by
 have _:=hx;have _:=hl;have _:=ha;have _:=hy;have _:=hl';have _:=hb0;have _:=hD;have _:=aG;have _:=hE;obtain ⟨te,pe,hE⟩:=hE;obtain ⟨x,hX⟩:∃x,x=(qf ua).1:=⟨_,rfl⟩;obtain ⟨f,hF⟩:∃f,f=(qf ua).2:=⟨_,rfl⟩;obtain ⟨y,hY⟩:∃y,y=(qf ub).1:=⟨_,rfl⟩;obtain ⟨g,hG⟩:∃g,g=(qf ub).2:=⟨_,rfl⟩;obtain ⟨z,hZ⟩:∃z,z=(eP 4 x y).1:=⟨_,rfl⟩;obtain ⟨e,hK⟩:∃e,e=(eP 4 x y).2:=⟨_,rfl⟩;have xl:x<18446744073709551616:=hX▸kd ha;have yl:y<18446744073709551616:=hY▸kd hb0;have zl:z<18446744073709551616:=hZ▸yjk 4 xl yl;rw[←hF] at e1;rw[←hG] at e2;rw[←hX,←hY,←hK] at e3 ⊢;have kb:ub.k=1∨ub.k=2:=by have:=QY nb;omega
 obtain ⟨J,hJ⟩:∃J,J=qu ub:=⟨_,rfl⟩;rw[←hJ] at hj;have hjl:=oa hj;refine zc func30 rfl ntmps30 rfl ?_;obtain ⟨HF,LW,aj,E⟩:=bg w;replace HF:=HF.and (Per.ay hx);replace HF:=HF.and (Per.ay hy);replace HF:=HF.and (Per.tabs aG (fun _ h=>h.elim));replace HF:=HF.and (Per.aR hE (fun _ h=>h.elim));refine zf ?_;intro aO w2 aD aI aW;obtain ⟨HF,LW,E⟩:=aK HF LW E aj aD aI;refine za rfl (zn rfl ?_);intro bM w4 aJ aM bN;obtain ⟨HF,LW,E⟩:=aK HF LW E aj aJ aM;refine zi ?_;intro aX w6 aC aT aU;obtain ⟨aU,HF,E,aj⟩:=aZ HF LW E aj aT aU;refine ygv ?_;rintro e w7 ⟨A4,q4,rfl,hN4,hb⟩;refine ⟨_,rfl,?_⟩;have Ec:=Ext.of_below hb No;replace aC:=aC.av Ec ah.nil;replace E:=E.trans Ec.no;refine qav ?_;rintro e w8 ⟨rfl,hb⟩;refine ⟨_,rfl,?_⟩;have Ec:=Ext.of_below hb No;replace aC:=aC.av Ec ah.nil;replace E:=E.trans Ec.no;refine YL ?_;rintro e w9 ⟨rfl,hb⟩;refine ⟨_,rfl,?_⟩;have Ec:=Ext.of_below hb No;replace aC:=aC.av Ec ah.nil;replace E:=E.trans Ec.no;refine ztz ?_;rintro e dI ⟨rfl,hb⟩;refine ⟨_,rfl,?_⟩;have Ec:=Ext.of_below hb No;replace aC:=aC.av Ec ah.nil;replace E:=E.trans Ec.no;refine go ?_;refine ze 86 (.bool true) rfl (by simp[e3]) (zsz ?_);refine YK ?_;intro dS Bx aT;replace aC:aB dS aX 28 #[.int .i64 0,.bool false,.bool false,.slice none 0 0,.int .u64 0,.string ⟨#[]⟩,.slice none 0 0]:=Bx;replace E:=E.step1 aT ak.head;exact qoz
theorem YT (op:Int) (hf:ua.k=3∨ub.k=3) (h7:op≠7) (ga:ua.good=true) (na:qd ua.k=true) (gb:ub.good=true) (nb:qd ub.k=true) (MJ:TT op) (e1:(qf ua).2=0) (e2:(qf ub).2=0) (e3:(eP op (qf ua).1 (qf ub).1).2=0):Calls prog 30 #[.int .i64 op,aP ua A1 c1 B1 d1,aP ub A2 c2 B2 d2] w (vg w (vFl (qz (eP op (qf ua).1 (qf ub).1).1),0)):=by
 have _:=hx;have _:=hl;have _:=ha;have _:=hy;have _:=hl';have _:=hb0;have _:=hD;have _:=aG;have _:=hE;obtain ⟨te,pe,hE⟩:=hE;obtain ⟨x,hX⟩:∃x,x=(qf ua).1:=⟨_,rfl⟩;obtain ⟨f,hF⟩:∃f,f=(qf ua).2:=⟨_,rfl⟩;obtain ⟨y,hY⟩:∃y,y=(qf ub).1:=⟨_,rfl⟩;obtain ⟨g,hG⟩:∃g,g=(qf ub).2:=⟨_,rfl⟩;obtain ⟨z,hZ⟩:∃z,z=(eP op x y).1:=⟨_,rfl⟩;obtain ⟨e,hK⟩:∃e,e=(eP op x y).2:=⟨_,rfl⟩;have xl:x<18446744073709551616:=hX▸kd ha;have yl:y<18446744073709551616:=hY▸kd hb0;have zl:z<18446744073709551616:=hZ▸yjk op xl yl;rw[←hF] at e1;rw[←hG] at e2;rw[←hX,←hY,←hK] at e3;rw[←hX,←hY,←hZ];refine zc func30 rfl ntmps30 rfl ?_;obtain ⟨HF,LW,aj,E⟩:=bg w;replace HF:=HF.and (Per.ay hx);replace HF:=HF.and (Per.ay hy);replace HF:=HF.and (Per.tabs aG (fun _ h=>h.elim));replace HF:=HF.and (Per.aR hE (fun _ h=>h.elim));by_cases h1:ua.k=3
 ·
  refine zf ?_;intro aO w2 aD aI aW;obtain ⟨HF,LW,E⟩:=aK HF LW E aj aD aI;refine za rfl (zn rfl ?_);intro bM w4 aJ aM bN;obtain ⟨HF,LW,E⟩:=aK HF LW E aj aJ aM;refine zi ?_;intro aX w6 aC aT aU;obtain ⟨aU,HF,E,aj⟩:=aZ HF LW E aj aT aU;refine qaq ?_;rintro e w7 ⟨rfl,hb⟩;refine ⟨_,rfl,?_⟩;have Ec:=Ext.of_below hb No;replace aC:=aC.av Ec ah.nil;replace E:=E.trans Ec.no;refine YL ?_;rintro e w8 ⟨rfl,hb⟩;refine ⟨_,rfl,?_⟩;have Ec:=Ext.of_below hb No;replace aC:=aC.av Ec ah.nil;replace E:=E.trans Ec.no;refine ztz ?_;rintro e w9 ⟨rfl,hb⟩;refine ⟨_,rfl,?_⟩;have Ec:=Ext.of_below hb No;replace aC:=aC.av Ec ah.nil;replace E:=E.trans Ec.no;refine nD ?_;rintro e dI ⟨rfl,hb⟩;refine ⟨_,rfl,?_⟩;have Ec:=Ext.of_below hb No;replace aC:=aC.av Ec ah.nil;replace E:=E.trans Ec.no;refine YK ?_;intro dS Bx aT;replace aC:aB dS aX 28 #[.int .i64 3,.bool false,.bool false,.slice none 0 0,.int .u64 ((qz z:Nat):Int),.string ⟨#[]⟩,.slice none 0 0]:=Bx;exact af9
 ·
  have h2:ub.k=3:=hf.resolve_left h1;refine zf ?_;intro lu fK eu dH eD;obtain ⟨HF,LW,E⟩:=aK HF LW E aj eu dH;refine za rfl (zn rfl ?_);intro aF3 fM CU TY apq;obtain ⟨HF,LW,E⟩:=aK HF LW E aj CU TY;refine zi ?_;intro dO nS cB dG dJ;obtain ⟨dJ,HF,E,aj⟩:=aZ HF LW E aj dG dJ;refine qo ?_;refine qak ?_;rintro e fF ⟨rfl,hb⟩;refine ⟨_,rfl,?_⟩;have Ec:=Ext.of_below hb No;replace cB:=cB.av Ec ah.nil;replace E:=E.trans Ec.no;refine YL ?_;rintro e nT ⟨rfl,hb⟩;refine ⟨_,rfl,?_⟩;have Ec:=Ext.of_below hb No;replace cB:=cB.av Ec ah.nil;replace E:=E.trans Ec.no;refine ztz ?_;rintro e Qz ⟨rfl,hb⟩;refine ⟨_,rfl,?_⟩;have Ec:=Ext.of_below hb No;replace cB:=cB.av Ec ah.nil;replace E:=E.trans Ec.no;refine nD ?_;rintro e Aj ⟨rfl,hb⟩;refine ⟨_,rfl,?_⟩;have Ec:=Ext.of_below hb No;replace cB:=cB.av Ec ah.nil;replace E:=E.trans Ec.no;refine yfv ?_;intro Fb Bx dG;replace cB:aB Fb dO 28 #[.int .i64 3,.bool false,.bool false,.slice none 0 0,.int .u64 ((qz z:Nat):Int),.string ⟨#[]⟩,.slice none 0 0]:=Bx;replace E:=E.step1 dG ak.head;obtain ⟨HF,LW,aj,E⟩:=dz HF LW E aj (Y:=No) (ak.skip ak.aV) (Per.aS cB ah.nil);refine zv ?_;exact Ns
theorem YU (h1:ua.k≠3) (h2:ub.k≠3) (hj:qu ub≠0) (ga:ua.good=true) (na:qd ua.k=true) (gb:ub.good=true) (nb:qd ub.k=true) (MJ:TT 4) (e1:(qf ua).2=0) (e2:(qf ub).2=0) (e3:(eP 4 (qf ua).1 (qf ub).1).2=0):Calls prog 30 #[.int .i64 4,aP ua A1 c1 B1 d1,aP ub A2 c2 B2 d2] w (vg w (vFl (qz (eP 4 (qf ua).1 (qf ub).1).1),0)):=by
 have _:=hx;have _:=hl;have _:=ha;have _:=hy;have _:=hl';have _:=hb0;have _:=hD;have _:=aG;have _:=hE;obtain ⟨te,pe,hE⟩:=hE;obtain ⟨x,hX⟩:∃x,x=(qf ua).1:=⟨_,rfl⟩;obtain ⟨f,hF⟩:∃f,f=(qf ua).2:=⟨_,rfl⟩;obtain ⟨y,hY⟩:∃y,y=(qf ub).1:=⟨_,rfl⟩;obtain ⟨g,hG⟩:∃g,g=(qf ub).2:=⟨_,rfl⟩;obtain ⟨z,hZ⟩:∃z,z=(eP 4 x y).1:=⟨_,rfl⟩;obtain ⟨e,hK⟩:∃e,e=(eP 4 x y).2:=⟨_,rfl⟩;have xl:x<18446744073709551616:=hX▸kd ha;have yl:y<18446744073709551616:=hY▸kd hb0;have zl:z<18446744073709551616:=hZ▸yjk 4 xl yl;rw[←hF] at e1;rw[←hG] at e2;rw[←hX,←hY,←hK] at e3;rw[←hX,←hY,←hZ];have kb:ub.k=1∨ub.k=2:=by have:=QY nb;omega
 obtain ⟨J,hJ⟩:∃J,J=qu ub:=⟨_,rfl⟩;rw[←hJ] at hj;have hjl:=oa hj;refine zc func30 rfl ntmps30 rfl ?_;obtain ⟨HF,LW,aj,E⟩:=bg w;replace HF:=HF.and (Per.ay hx);replace HF:=HF.and (Per.ay hy);replace HF:=HF.and (Per.tabs aG (fun _ h=>h.elim));replace HF:=HF.and (Per.aR hE (fun _ h=>h.elim));refine zf ?_;intro aO w2 aD aI aW;obtain ⟨HF,LW,E⟩:=aK HF LW E aj aD aI;refine za rfl (zn rfl ?_);intro bM w4 aJ aM bN;obtain ⟨HF,LW,E⟩:=aK HF LW E aj aJ aM;refine zi ?_;intro aX w6 aC aT aU;obtain ⟨aU,HF,E,aj⟩:=aZ HF LW E aj aT aU;refine ygv ?_;rintro e w7 ⟨A4,q4,rfl,hN4,hb⟩;refine ⟨_,rfl,?_⟩;have Ec:=Ext.of_below hb No;replace aC:=aC.av Ec ah.nil;replace E:=E.trans Ec.no;refine qav ?_;rintro e w8 ⟨rfl,hb⟩;refine ⟨_,rfl,?_⟩;have Ec:=Ext.of_below hb No;replace aC:=aC.av Ec ah.nil;replace E:=E.trans Ec.no;refine YL ?_;rintro e w9 ⟨rfl,hb⟩;refine ⟨_,rfl,?_⟩;have Ec:=Ext.of_below hb No;replace aC:=aC.av Ec ah.nil;replace E:=E.trans Ec.no;refine ztz ?_;rintro e dI ⟨rfl,hb⟩;refine ⟨_,rfl,?_⟩;have Ec:=Ext.of_below hb No;replace aC:=aC.av Ec ah.nil;replace E:=E.trans Ec.no;refine nD ?_;rintro e dS ⟨rfl,hb⟩;refine ⟨_,rfl,?_⟩;have Ec:=Ext.of_below hb No;replace aC:=aC.av Ec ah.nil;replace E:=E.trans Ec.no;refine YK ?_;intro eB Bx aT;replace aC:aB eB aX 28 #[.int .i64 3,.bool false,.bool false,.slice none 0 0,.int .u64 ((qz z:Nat):Int),.string ⟨#[]⟩,.slice none 0 0]:=Bx;exact af9
theorem YV (h1:ua.k≠3) (h2:ub.k≠3) (hj:qu ub=0) (ga:ua.good=true) (na:qd ua.k=true) (gb:ub.good=true) (nb:qd ub.k=true)  :Calls prog 30 #[.int .i64 4,aP ua A1 c1 B1 d1,aP ub A2 c2 B2 d2] w (vg w (vZ,6)):=by
 have _:=hx;have _:=hl;have _:=ha;have _:=hy;have _:=hl';have _:=hb0;have _:=hD;have _:=aG;have _:=hE;obtain ⟨te,pe,hE⟩:=hE;have _:=ga;have _:=na;have kb:ub.k=1∨ub.k=2:=by have:=QY nb;omega
 obtain ⟨J,hJ⟩:∃J,J=qu ub:=⟨_,rfl⟩;rw[←hJ] at hj;have hjl:(limbs J).length=0:=by rw[hj,qj];rfl
 refine zc func30 rfl ntmps30 rfl ?_;obtain ⟨HF,LW,aj,E⟩:=bg w;replace HF:=HF.and (Per.ay hx);replace HF:=HF.and (Per.ay hy);replace HF:=HF.and (Per.tabs aG (fun _ h=>h.elim));replace HF:=HF.and (Per.aR hE (fun _ h=>h.elim));refine zf ?_;intro aO w2 aD aI aW;obtain ⟨HF,LW,E⟩:=aK HF LW E aj aD aI;refine za rfl (zn rfl ?_);intro bM w4 aJ aM bN;obtain ⟨HF,LW,E⟩:=aK HF LW E aj aJ aM;refine zi ?_;intro aX w6 aC aT aU;obtain ⟨aU,HF,E,aj⟩:=aZ HF LW E aj aT aU;refine ygv ?_;rintro e w7 ⟨A4,q4,rfl,hN4,hb⟩;refine ⟨_,rfl,?_⟩;have Ec:=Ext.of_below hb No;replace aC:=aC.av Ec ah.nil;replace E:=E.trans Ec.no;refine bV rfl (pK u24 rfl u22 rfl rfl rfl (zv ?_));refine ze 58 (.bool true) rfl (by rw[hjl];rfl) (zq ?_);exact afq
theorem apx (op:Int) (h1:ua.k≠3) (h2:ub.k≠3) (h4:op≠4) (hW:WhC op) (ga:ua.good=true) (na:qd ua.k=true) (gb:ub.good=true) (nb:qd ub.k=true) (he:(fE op (qu ua) (qu ub)).2≠0):Calls prog 30 #[.int .i64 op,aP ua A1 c1 B1 d1,aP ub A2 c2 B2 d2] w (vg w (vZ,(fE op (qu ua) (qu ub)).2)):=by
 have _:=hx;have _:=hl;have _:=ha;have _:=hy;have _:=hl';have _:=hb0;have _:=hD;have _:=aG;have _:=hE;obtain ⟨te,pe,hE⟩:=hE;have ka:ua.k=1∨ua.k=2:=by have:=QY na;omega
 have kb:ub.k=1∨ub.k=2:=by have:=QY nb;omega
 obtain ⟨I,hI⟩:∃I,I=qu ua:=⟨_,rfl⟩;obtain ⟨J,hJ⟩:∃J,J=qu ub:=⟨_,rfl⟩;have Ib:I.natAbs<au^30:=hI▸xx ga ka;have Jb:J.natAbs<au^30:=hJ▸xx gb kb;obtain ⟨v,hV⟩:∃v,v=(fE op I J).1:=⟨_,rfl⟩;obtain ⟨f,hF⟩:∃f,f=(fE op I J).2:=⟨_,rfl⟩;rw[←hI,←hJ,←hF] at he;rw[←hI,←hJ,←hF];refine zc func30 rfl ntmps30 rfl ?_;obtain ⟨HF,LW,aj,E⟩:=bg w;replace HF:=HF.and (Per.ay hx);replace HF:=HF.and (Per.ay hy);replace HF:=HF.and (Per.tabs aG (fun _ h=>h.elim));replace HF:=HF.and (Per.aR hE (fun _ h=>h.elim));refine zf ?_;intro aO w2 aD aI aW;obtain ⟨HF,LW,E⟩:=aK HF LW E aj aD aI;refine za rfl (zn rfl ?_);intro bM w4 aJ aM bN;obtain ⟨HF,LW,E⟩:=aK HF LW E aj aJ aM;refine zi ?_;intro aX w6 aC aT aU;obtain ⟨aU,HF,E,aj⟩:=aZ HF LW E aj aT aU;refine CQ ?_;have GL:=((LW.step E aj).toBelow).size;have OY:∀q9,(ak (km [])) q9→q9<(World.drew w6).heap.size→(ak [(some aX)]) q9:=fun k h _=>(ak.none_) k h;refine yx (ak [(some aX)]) (ak.grow ak.none_ (zg aC.lt)) [⟨9,10,24,#[.bool false,.slice none 0 0]⟩] [] (xq [Fx.of (.int .i64 op),
  Fx.of (aP ua A1 c1 B1 d1),
  ⟨(Option Addr×Nat),fun (A3,q3)=>.agg #[.bool (decide (I<0)),.slice A3 (limbs I).length q3],fun (A3,q3) b=>(eH b A1 A3 ua.xs (limbs I))⟩,
  Fx.of (aP ub A2 c2 B2 d2),
  ⟨(Option Addr×Nat),fun (A4,q4)=>.agg #[.bool (decide (J<0)),.slice A4 (limbs J).length q4],fun (A4,q4) b=>(eH b A2 A4 ub.xs (limbs J))⟩,
  ⟨(Option Addr×Nat),fun (A5,q5)=>.tuple #[.agg #[.bool (decide (v<0)),.slice A5 (limbs v).length q5],.int .i64 f],fun (A5,q5) b=>(Own b w.heap.size A5 q5 (limbs v))⟩,
  ⟨(Option Addr×Nat),fun (A5,q5)=>.tuple #[.agg #[.bool (decide (v<0)),.slice A5 (limbs v).length q5],.int .i64 f],fun (A5,q5) b=>(Own b w.heap.size A5 q5 (limbs v))⟩,
  ⟨(Option Addr×Nat),fun (A5,q5)=>.agg #[.bool (decide (v<0)),.slice A5 (limbs v).length q5],fun (A5,q5) b=>(Own b w.heap.size A5 q5 (limbs v))⟩,
  Fx.of (.int .i64 f),
  Fx.of undef,
  Fx.of undef,
  Fx.of (.int .i64 f)]) mixed rfl trivial (fun _ h=>by cases h) ?_ ?_
 · exact aF2
 intro vs w7 LE AO AL AF AA;have wO:=aC;replace aC:=aC.drew.av LE ah.nil;replace E:=E.drew.trans (LE.mono OY);obtain ⟨⟨A5,q5⟩,e7,k7⟩:=AL.2.2.2.2.2.2.2.1;obtain ⟨_,e11,k11⟩:=AL.2.2.2.2.2.2.2.2.2.2.2.1;replace LW:=LW.step E aj;replace E:=aF (ak [(some aX)]) w7;obtain ⟨dB,v0,y0,qb8,fO,bJ,ey,wT⟩:=AF.1;cases ey
 obtain rfl:vs 7=v0:=Option.some.inj wT;rw[e7] at bJ;have dn:Apart (some dB) (some aX):=Apart.of_lt (zg wO.lt) fO;have dX:=dn.symm;replace LW:=LW.step E aj;replace E:=aF (ak [(some aX)]) w7;have e9:=qb8;refine CP ?_;clear AL AF AA LE AO OY e7 e11 e9 k7 k11 wO;refine yu ?_;refine ze 45 (.bool true) rfl (by simp[he]) (zsz ?_);refine YK ?_;intro w9 Bx aT;replace aC:aB w9 aX 28 #[.int .i64 0,.bool false,.bool false,.slice none 0 0,.int .u64 0,.string ⟨#[]⟩,.slice none 0 0]:=Bx;replace E:=E.step1 aT ak.head;refine zr ?_;exact Ns
theorem apj (op:Int) (h1:ua.k≠3) (h2:ub.k≠3) (h4:op≠4) (hW:WhC op) (ga:ua.good=true) (na:qd ua.k=true) (gb:ub.good=true) (nb:qd ub.k=true) (he:(fE op (qu ua) (qu ub)).2=0):Calls prog 30 #[.int .i64 op,aP ua A1 c1 B1 d1,aP ub A2 c2 B2 d2] w (vg w (vI (fE op (qu ua) (qu ub)).1,0)):=by
 have _:=hx;have _:=hl;have _:=ha;have _:=hy;have _:=hl';have _:=hb0;have _:=hD;have _:=aG;have _:=hE;obtain ⟨te,pe,hE⟩:=hE;have ka:ua.k=1∨ua.k=2:=by have:=QY na;omega
 have kb:ub.k=1∨ub.k=2:=by have:=QY nb;omega
 obtain ⟨I,hI⟩:∃I,I=qu ua:=⟨_,rfl⟩;obtain ⟨J,hJ⟩:∃J,J=qu ub:=⟨_,rfl⟩;have Ib:I.natAbs<au^30:=hI▸xx ga ka;have Jb:J.natAbs<au^30:=hJ▸xx gb kb;obtain ⟨v,hV⟩:∃v,v=(fE op I J).1:=⟨_,rfl⟩;obtain ⟨f,hF⟩:∃f,f=(fE op I J).2:=⟨_,rfl⟩;rw[←hI,←hJ,←hF] at he;rw[←hI,←hJ,←hV];refine zc func30 rfl ntmps30 rfl ?_;obtain ⟨HF,LW,aj,E⟩:=bg w;replace HF:=HF.and (Per.ay hx);replace HF:=HF.and (Per.ay hy);replace HF:=HF.and (Per.tabs aG (fun _ h=>h.elim));replace HF:=HF.and (Per.aR hE (fun _ h=>h.elim));refine zf ?_;intro aO w2 aD aI aW;obtain ⟨HF,LW,E⟩:=aK HF LW E aj aD aI;refine za rfl (zn rfl ?_);intro bM w4 aJ aM bN;obtain ⟨HF,LW,E⟩:=aK HF LW E aj aJ aM;refine zi ?_;intro aX w6 aC aT aU;obtain ⟨aU,HF,E,aj⟩:=aZ HF LW E aj aT aU;refine CQ ?_;have GL:=((LW.step E aj).toBelow).size;have OY:∀q9,(ak (km [])) q9→q9<(World.drew w6).heap.size→(ak [(some aX)]) q9:=fun k h _=>(ak.none_) k h;refine yx (ak [(some aX)]) (ak.grow ak.none_ (zg aC.lt)) [⟨9,10,24,#[.bool false,.slice none 0 0]⟩] [] (xq [Fx.of (.int .i64 op),
  Fx.of (aP ua A1 c1 B1 d1),
  ⟨(Option Addr×Nat),fun (A3,q3)=>.agg #[.bool (decide (I<0)),.slice A3 (limbs I).length q3],fun (A3,q3) b=>(eH b A1 A3 ua.xs (limbs I))⟩,
  Fx.of (aP ub A2 c2 B2 d2),
  ⟨(Option Addr×Nat),fun (A4,q4)=>.agg #[.bool (decide (J<0)),.slice A4 (limbs J).length q4],fun (A4,q4) b=>(eH b A2 A4 ub.xs (limbs J))⟩,
  ⟨(Option Addr×Nat),fun (A5,q5)=>.tuple #[.agg #[.bool (decide (v<0)),.slice A5 (limbs v).length q5],.int .i64 f],fun (A5,q5) b=>(Own b w.heap.size A5 q5 (limbs v))⟩,
  ⟨(Option Addr×Nat),fun (A5,q5)=>.tuple #[.agg #[.bool (decide (v<0)),.slice A5 (limbs v).length q5],.int .i64 f],fun (A5,q5) b=>(Own b w.heap.size A5 q5 (limbs v))⟩,
  ⟨(Option Addr×Nat),fun (A5,q5)=>.agg #[.bool (decide (v<0)),.slice A5 (limbs v).length q5],fun (A5,q5) b=>(Own b w.heap.size A5 q5 (limbs v))⟩,
  Fx.of (.int .i64 f),
  Fx.of undef,
  Fx.of undef,
  Fx.of (.int .i64 f)]) mixed rfl trivial (fun _ h=>by cases h) ?_ ?_
 · exact aF2
 intro vs w7 LE AO AL AF AA;have wO:=aC;replace aC:=aC.drew.av LE ah.nil;replace E:=E.drew.trans (LE.mono OY);obtain ⟨⟨A5,q5⟩,e7,k7⟩:=AL.2.2.2.2.2.2.2.1;obtain ⟨_,e11,k11⟩:=AL.2.2.2.2.2.2.2.2.2.2.2.1;obtain ⟨HF,LW,E⟩:=cZ HF LW E aj ((k7.map (fun _ h=>h):Per (ak [(some aX)]) w7 (fun b=>Own b w.heap.size A5 q5 (limbs v))));obtain ⟨dB,v0,y0,qb8,fO,bJ,ey,wT⟩:=AF.1;cases ey
 obtain rfl:vs 7=v0:=Option.some.inj wT;rw[e7] at bJ;have dn:Apart (some dB) (some aX):=Apart.of_lt (zg wO.lt) fO;have dX:=dn.symm;obtain ⟨HF,LW,E⟩:=cZ HF LW E aj ((Per.aS bJ (ah.cons dn ah.nil):Per (ak [(some aX)]) w7 (fun b=>aB b dB 24 #[.bool (decide (v<0)),.slice A5 (limbs v).length q5])));have e9:=qb8;refine CP ?_;clear AL AF AA LE AO OY e7 e11 e9 k7 k11 wO;refine yu ?_;refine ze 45 (.bool false) rfl (by simp[he]) (zt ?_);refine za rfl (zb ai1 rfl ((lW _ A5 q5 (decide (v<0)) (limbs v)).mono ?_));rintro e w9 ⟨rfl,hb⟩;refine ⟨_,rfl,?_⟩;have Ec:=Ext.of_below hb No;replace aC:=aC.av Ec ah.nil;replace E:=E.trans Ec.no;refine YK ?_;intro dI Bx aT;replace aC:aB dI aX 28 #[.int .i64 2,.bool false,.bool (decide (v<0)),.slice A5 (limbs v).length q5,.int .u64 0,.string ⟨#[]⟩,.slice none 0 0]:=Bx;replace E:=E.step1 aT ak.head;refine zt ?_;exact ⟨A5,q5,rfl,(HF.on E).here.1.2,(LW.step E aj).toBelow⟩
theorem Gs (op:Int) (hW:WhC op) (MJ:(ua.k=3∨ub.k=3∨op=4)→TT op) (ga:ua.good=true) (na:qd ua.k=true) (gb:ub.good=true) (nb:qd ub.k=true) (p:PV×Int) (hp:p=YC op ua ub):Calls prog 30 #[.int .i64 op,aP ua A1 c1 B1 d1,aP ub A2 c2 B2 d2] w (vg w p):=by
 subst hp;unfold YC;by_cases hf:ua.k=3∨ub.k=3
 · rw[if_pos hf];by_cases h7:op=7
   · subst h7;rw[if_pos rfl];exact YM w ua ub A1 B1 A2 B2 c1 d1 c2 d2 hx hl ha hy hl' hb0 hD aG hE hf
   rw[if_neg h7];unfold flR;by_cases e1:(qf ua).2=0
   · rw[if_neg (not_not_intro e1)];by_cases e2:(qf ub).2=0
     · rw[if_neg (not_not_intro e2)];by_cases e3:(eP op (qf ua).1 (qf ub).1).2=0
       · rw[if_neg (not_not_intro e3)];exact YT w ua ub A1 B1 A2 B2 c1 d1 c2 d2 hx hl ha hy hl' hb0 hD aG hE op hf h7 ga na gb nb (MJ (hf.elim Or.inl (fun h=>Or.inr (Or.inl h)))) e1 e2 e3
       · rw[if_pos e3];exact YR w ua ub A1 B1 A2 B2 c1 d1 c2 d2 hx hl ha hy hl' hb0 hD aG hE op hf h7 ga na gb nb (MJ (hf.elim Or.inl (fun h=>Or.inr (Or.inl h)))) e1 e2 e3
     · rw[if_pos e2];exact YP w ua ub A1 B1 A2 B2 c1 d1 c2 d2 hx hl ha hy hl' hb0 hD aG hE op hf h7 ga na gb nb e1 e2
   · rw[if_pos e1];exact YN w ua ub A1 B1 A2 B2 c1 d1 c2 d2 hx hl ha hy hl' hb0 hD aG hE op hf h7 ga na gb nb e1
 rw[if_neg hf];have h1:ua.k≠3:=fun h=>hf (Or.inl h);have h2:ub.k≠3:=fun h=>hf (Or.inr h);by_cases h4:op=4
 · subst h4;rw[if_neg (not_not_intro rfl)];by_cases hj:qu ub=0
   · rw[if_pos hj];exact YV w ua ub A1 B1 A2 B2 c1 d1 c2 d2 hx hl ha hy hl' hb0 hD aG hE h1 h2 hj ga na gb nb
   rw[if_neg hj];unfold flR;by_cases e1:(qf ua).2=0
   · rw[if_neg (not_not_intro e1)];by_cases e2:(qf ub).2=0
     · rw[if_neg (not_not_intro e2)];by_cases e3:(eP 4 (qf ua).1 (qf ub).1).2=0
       · rw[if_neg (not_not_intro e3)];exact YU w ua ub A1 B1 A2 B2 c1 d1 c2 d2 hx hl ha hy hl' hb0 hD aG hE h1 h2 hj ga na gb nb (MJ (Or.inr (Or.inr rfl))) e1 e2 e3
       · rw[if_pos e3];exact YS w ua ub A1 B1 A2 B2 c1 d1 c2 d2 hx hl ha hy hl' hb0 hD aG hE h1 h2 hj ga na gb nb (MJ (Or.inr (Or.inr rfl))) e1 e2 e3
     · rw[if_pos e2];exact YQ w ua ub A1 B1 A2 B2 c1 d1 c2 d2 hx hl ha hy hl' hb0 hD aG hE h1 h2 hj ga na gb nb e1 e2
   · rw[if_pos e1];exact YO w ua ub A1 B1 A2 B2 c1 d1 c2 d2 hx hl ha hy hl' hb0 hD aG hE h1 h2 hj ga na gb nb e1
 · rw[if_pos h4];by_cases he:(fE op (qu ua) (qu ub)).2=0
   · rw[if_pos he];exact apj w ua ub A1 B1 A2 B2 c1 d1 c2 d2 hx hl ha hy hl' hb0 hD aG hE op h1 h2 h4 hW ga na gb nb he
   · rw[if_neg he];exact apx w ua ub A1 B1 A2 B2 c1 d1 c2 d2 hx hl ha hy hl' hb0 hD aG hE op h1 h2 h4 hW ga na gb nb he
end
end Go.Proofs.YtmnmebdmpigddaaGreatDoor
namespace Go.Proofs.YtmnmebdmpigddaaGreatDoor
open Go.RowKit Proofs.Tryz
theorem yfz {P Q:Prop} (k:Q) (h:(Unit→Q)→P:=by
 intro zK;refine za rfl (zb aJ1 rfl ((hS).mono ?_));exact zK ()):P:=h fun _=>k
theorem yfq {P Q:Prop} (k:Q) (h:(Unit→Q)→P:=by
 intro zK;refine za rfl (zb aJ0 rfl ((hI).mono ?_));exact zK ()):P:=h fun _=>k
theorem CX {P Q:Prop} (k:Q) (h:(Unit→Q)→P:=by
 intro zK;refine zv ?_;refine ze 19 (.bool false) rfl (by rw[ap6,decide_eq_false h0]) (qo ?_);refine zd 23 (.bool false) rfl (by rw[he];rfl) (zu ?_);refine bV rfl (ynk u9 rfl (bV rfl (yvx rfl rfl om (ap7 om) (ye ?_))));exact zK ()):P:=h fun _=>k
theorem ag1 {P:Prop} (h:P:=by
 refine za rfl (ja (cs:=#[.int .i64 0,.bool false,.bool false,.slice none 0 0,.int .u64 0,.string ⟨#[]⟩,.slice none 0 0]) wS yB rfl rfl (zp (zo jf rfl rfl aJ rfl rfl rfl ?_)));intro w7 Bx aM;replace aJ:aB w7 bM 28 #[.int .i64 0,.bool false,.bool false,.slice none 0 0,.int .u64 0,.string ⟨#[]⟩,.slice none 0 0]:=Bx;replace E:=E.step1 aM ak.head;refine zt ?_;exact Ns):P:=h
theorem ag2 {P:Prop} (h:P:=by
 refine za rfl (zb ahj rfl ((wP _ ⟨#[]⟩).mono ?_));rintro e w7 ⟨rfl,hb⟩;refine ⟨_,rfl,?_⟩;have Ec:=Ext.of_below hb No;replace aJ:=aJ.av Ec ah.nil;replace E:=E.trans Ec.no;refine zp (zo jf rfl rfl aJ rfl rfl rfl ?_);intro w8 Bx aM;replace aJ:aB w8 bM 28 #[.int .i64 4,.bool false,.bool false,.slice none 0 0,.int .u64 0,.string ⟨#[]⟩,.slice none 0 0]:=Bx;replace E:=E.step1 aM ak.head;refine zt ?_;exact Ns):P:=h
attribute [local irreducible] OW RS CW EW
section
variable (w:World) (A:Option Addr) (c:Nat) (s:ByteArray) (n:Int) (hn:n.natAbs<au^30) (hx:aA w A (limbs n)) (hs:s.size≤20000)
theorem wP:Calls prog 31 #[.string s] w (aH w (.agg #[.int .i64 4,.bool false,.bool false,.slice none 0 0,.int .u64 0,.string s,.slice none 0 0])):=by
 refine zc func31 rfl ntmps31 rfl ?_;obtain ⟨HF,LW,aj,E⟩:=bg w;refine zu ?_;refine zi ?_;intro aO w2 aD aI aW;obtain ⟨aW,HF,E,aj⟩:=aZ HF LW E aj aI aW;refine Bd ?_;refine zp (zo jf rfl rfl aD rfl rfl rfl ?_);intro w3 Bx aI;replace aD:aB w3 aO 28 #[.int .i64 4,.bool false,.bool false,.slice none 0 0,.int .u64 0,.string s,.slice none 0 0]:=Bx;replace E:=E.step1 aI ak.head;obtain ⟨HF,LW,aj,E⟩:=dz HF LW E aj (Y:=No) (ak.skip ak.aV) (Per.aS aD ah.nil);refine CK ?_;exact vj
include hn hx hs
theorem aq0 (h:n≤0):Calls prog 32 #[.string s,.agg #[.bool (decide (n<0)),.slice A (limbs n).length c]] w (vg w (vT ⟨#[]⟩,0)):=by
 have _:=hs;have ln:=zk hn;obtain ⟨gn,nn⟩:=jy hn;obtain ⟨k,hK⟩:∃k,k=nk true n:=⟨_,rfl⟩;obtain ⟨e,hE⟩:∃e,e=iC true n:=⟨_,rfl⟩;refine zc func32 rfl ntmps32 rfl ?_;obtain ⟨HF,LW,aj,E⟩:=bg w;replace HF:=HF.and (Per.ay hx);refine zf ?_;intro aO w2 aD aI aW;obtain ⟨HF,LW,E⟩:=aK HF LW E aj aD aI;refine zi ?_;intro bM w4 aJ aM bN;obtain ⟨bN,HF,E,aj⟩:=aZ HF LW E aj aM bN;refine zt ?_;have hI:=qfq A c (limbs n) w4 (decide (n<0)) (HF.on E).here.1.2 om;rw[gn,nn] at hI;unfold Nq at hI;rw[←hK,←hE] at hI;refine yfq ?_;rintro e w5 ⟨rfl,hb⟩;refine ⟨_,rfl,?_⟩;have Ec:=Ext.of_below hb No;replace aJ:=aJ.av Ec ah.nil;replace E:=E.trans Ec.no;refine yq ?_;have hS:=yhz A c (limbs n) w5 (decide (n<0)) (HF.on E).here.1.2 om;rw[gn,nn] at hS;refine yfz ?_;rintro e w6 ⟨rfl,hb⟩;refine ⟨_,rfl,?_⟩;have Ec:=Ext.of_below hb No;replace aJ:=aJ.av Ec ah.nil;replace E:=E.trans Ec.no;refine zu ?_;refine zd 16 (.bool true) rfl (by rw[decide_eq_true (nA.2 h)]<;>rfl) (yu ?_);exact ag2
theorem aq1 (h:0<n) (h0:s.size=0):Calls prog 32 #[.string s,.agg #[.bool (decide (n<0)),.slice A (limbs n).length c]] w (vg w (vT ⟨#[]⟩,0)):=by
 have _:=hs;have ln:=zk hn;obtain ⟨gn,nn⟩:=jy hn;obtain ⟨k,hK⟩:∃k,k=nk true n:=⟨_,rfl⟩;obtain ⟨e,hE⟩:∃e,e=iC true n:=⟨_,rfl⟩;refine zc func32 rfl ntmps32 rfl ?_;obtain ⟨HF,LW,aj,E⟩:=bg w;replace HF:=HF.and (Per.ay hx);refine zf ?_;intro aO w2 aD aI aW;obtain ⟨HF,LW,E⟩:=aK HF LW E aj aD aI;refine zi ?_;intro bM w4 aJ aM bN;obtain ⟨bN,HF,E,aj⟩:=aZ HF LW E aj aM bN;refine zt ?_;have hI:=qfq A c (limbs n) w4 (decide (n<0)) (HF.on E).here.1.2 om;rw[gn,nn] at hI;unfold Nq at hI;rw[←hK,←hE] at hI;refine yfq ?_;rintro e w5 ⟨rfl,hb⟩;refine ⟨_,rfl,?_⟩;have Ec:=Ext.of_below hb No;replace aJ:=aJ.av Ec ah.nil;replace E:=E.trans Ec.no;refine yq ?_;have hS:=yhz A c (limbs n) w5 (decide (n<0)) (HF.on E).here.1.2 om;rw[gn,nn] at hS;refine yfz ?_;rintro e w6 ⟨rfl,hb⟩;refine ⟨_,rfl,?_⟩;have Ec:=Ext.of_below hb No;replace aJ:=aJ.av Ec ah.nil;replace E:=E.trans Ec.no;refine zu ?_;refine zd 16 (.bool false) rfl (by rw[decide_eq_false (fun q=>by have:=nA.1 q;omega)]<;>rfl) (zv ?_);refine ze 19 (.bool true) rfl (by rw[ap6,decide_eq_true h0]) (zq ?_);exact ag2
theorem aq2 (h:0<n) (h0:s.size≠0) (hr:¬pz n):Calls prog 32 #[.string s,.agg #[.bool (decide (n<0)),.slice A (limbs n).length c]] w (vg w (vZ,2)):=by
 have _:=hs;have ln:=zk hn;obtain ⟨gn,nn⟩:=jy hn;obtain ⟨k,hK⟩:∃k,k=nk true n:=⟨_,rfl⟩;obtain ⟨e,hE⟩:∃e,e=iC true n:=⟨_,rfl⟩;have he:e=7:=by rw[hE];unfold iC;rw[if_pos rfl,if_neg hr]
 refine zc func32 rfl ntmps32 rfl ?_;obtain ⟨HF,LW,aj,E⟩:=bg w;replace HF:=HF.and (Per.ay hx);refine zf ?_;intro aO w2 aD aI aW;obtain ⟨HF,LW,E⟩:=aK HF LW E aj aD aI;refine zi ?_;intro bM w4 aJ aM bN;obtain ⟨bN,HF,E,aj⟩:=aZ HF LW E aj aM bN;refine zt ?_;have hI:=qfq A c (limbs n) w4 (decide (n<0)) (HF.on E).here.1.2 om;rw[gn,nn] at hI;unfold Nq at hI;rw[←hK,←hE] at hI;refine yfq ?_;rintro e w5 ⟨rfl,hb⟩;refine ⟨_,rfl,?_⟩;have Ec:=Ext.of_below hb No;replace aJ:=aJ.av Ec ah.nil;replace E:=E.trans Ec.no;refine yq ?_;have hS:=yhz A c (limbs n) w5 (decide (n<0)) (HF.on E).here.1.2 om;rw[gn,nn] at hS;refine yfz ?_;rintro e w6 ⟨rfl,hb⟩;refine ⟨_,rfl,?_⟩;have Ec:=Ext.of_below hb No;replace aJ:=aJ.av Ec ah.nil;replace E:=E.trans Ec.no;refine zu ?_;refine zd 16 (.bool false) rfl (by rw[decide_eq_false (fun q=>by have:=nA.1 q;omega)]<;>rfl) (zv ?_);refine ze 19 (.bool false) rfl (by rw[ap6,decide_eq_false h0]) (qo ?_);refine zd 23 (.bool true) rfl (by rw[he];rfl) (yq ?_);exact ag1
theorem YW (h:0<n) (h0:s.size≠0) (hr:pz n) (hl:((20000/s.size:Nat):Int)<n):Calls prog 32 #[.string s,.agg #[.bool (decide (n<0)),.slice A (limbs n).length c]] w (vg w (vZ,2)):=by
 have _:=hs;have ln:=zk hn;obtain ⟨gn,nn⟩:=jy hn;obtain ⟨k,hK⟩:∃k,k=nk true n:=⟨_,rfl⟩;obtain ⟨e,hE⟩:∃e,e=iC true n:=⟨_,rfl⟩;have hk:k=n:=by rw[hK];unfold nk;rw[if_pos rfl,if_pos hr]
 have he:e=0:=by rw[hE];unfold iC;rw[if_pos rfl,if_pos hr]
 refine zc func32 rfl ntmps32 rfl ?_;obtain ⟨HF,LW,aj,E⟩:=bg w;replace HF:=HF.and (Per.ay hx);refine zf ?_;intro aO w2 aD aI aW;obtain ⟨HF,LW,E⟩:=aK HF LW E aj aD aI;refine zi ?_;intro bM w4 aJ aM bN;obtain ⟨bN,HF,E,aj⟩:=aZ HF LW E aj aM bN;refine zt ?_;have hI:=qfq A c (limbs n) w4 (decide (n<0)) (HF.on E).here.1.2 om;rw[gn,nn] at hI;unfold Nq at hI;rw[←hK,←hE] at hI;refine yfq ?_;rintro e w5 ⟨rfl,hb⟩;refine ⟨_,rfl,?_⟩;have Ec:=Ext.of_below hb No;replace aJ:=aJ.av Ec ah.nil;replace E:=E.trans Ec.no;refine yq ?_;have hS:=yhz A c (limbs n) w5 (decide (n<0)) (HF.on E).here.1.2 om;rw[gn,nn] at hS;refine yfz ?_;rintro e w6 ⟨rfl,hb⟩;refine ⟨_,rfl,?_⟩;have Ec:=Ext.of_below hb No;replace aJ:=aJ.av Ec ah.nil;replace E:=E.trans Ec.no;refine zu ?_;refine zd 16 (.bool false) rfl (by rw[decide_eq_false (fun q=>by have:=nA.1 q;omega)]<;>rfl) (CX ?_);refine ze 29 (.bool true) rfl (by rw[hk,decide_eq_true hl]<;>rfl) (zq ?_);exact ag1
theorem aF5 (h:0<n) (h0:s.size≠0) (hr:pz n) (hl:¬((20000/s.size:Nat):Int)<n) (m:Nat) (hm:n=(m:Int)) (hlen:s.size*m≤20000):Calls prog 32 #[.string s,.agg #[.bool (decide (n<0)),.slice A (limbs n).length c]] w (vg w (vT ⟨(Lib.repeatL s.data.toList m).toArray⟩,0)):=by
 have _:=hs;have ln:=zk hn;obtain ⟨gn,nn⟩:=jy hn;obtain ⟨k,hK⟩:∃k,k=nk true n:=⟨_,rfl⟩;obtain ⟨e,hE⟩:∃e,e=iC true n:=⟨_,rfl⟩;have hk:k=n:=by rw[hK];unfold nk;rw[if_pos rfl,if_pos hr]
 have he:e=0:=by rw[hE];unfold iC;rw[if_pos rfl,if_pos hr]
 refine zc func32 rfl ntmps32 rfl ?_;obtain ⟨HF,LW,aj,E⟩:=bg w;replace HF:=HF.and (Per.ay hx);refine zf ?_;intro aO w2 aD aI aW;obtain ⟨HF,LW,E⟩:=aK HF LW E aj aD aI;refine zi ?_;intro bM w4 aJ aM bN;obtain ⟨bN,HF,E,aj⟩:=aZ HF LW E aj aM bN;refine zt ?_;have hI:=qfq A c (limbs n) w4 (decide (n<0)) (HF.on E).here.1.2 om;rw[gn,nn] at hI;unfold Nq at hI;rw[←hK,←hE] at hI;refine yfq ?_;rintro e w5 ⟨rfl,hb⟩;refine ⟨_,rfl,?_⟩;have Ec:=Ext.of_below hb No;replace aJ:=aJ.av Ec ah.nil;replace E:=E.trans Ec.no;refine yq ?_;have hS:=yhz A c (limbs n) w5 (decide (n<0)) (HF.on E).here.1.2 om;rw[gn,nn] at hS;refine yfz ?_;rintro e w6 ⟨rfl,hb⟩;refine ⟨_,rfl,?_⟩;have Ec:=Ext.of_below hb No;replace aJ:=aJ.av Ec ah.nil;replace E:=E.trans Ec.no;refine zu ?_;refine zd 16 (.bool false) rfl (by rw[decide_eq_false (fun q=>by have:=nA.1 q;omega)]<;>rfl) (CX ?_);refine ze 29 (.bool false) rfl (by rw[hk,decide_eq_false hl]<;>rfl) (zr ?_);have hm2:=hr.2;refine zd 32 (.int .i64 ((m:Nat):Int)) rfl (by rw[hk,hm]<;>rfl) (za rfl (zb aJ2 rfl ((Tryz.strings_Repeat s m _ om om).mono ?_)));rintro e w7 ⟨rfl,hb⟩;refine ⟨_,rfl,?_⟩;have Ec:=Ext.of_below hb No;replace aJ:=aJ.av Ec ah.nil;replace E:=E.trans Ec.no;refine za rfl (zb ahj rfl ((wP _ ⟨(Lib.repeatL s.data.toList m).toArray⟩).mono ?_));rintro e w8 ⟨rfl,hb⟩;refine ⟨_,rfl,?_⟩;have Ec:=Ext.of_below hb No;replace aJ:=aJ.av Ec ah.nil;replace E:=E.trans Ec.no;refine zp (zo jf rfl rfl aJ rfl rfl rfl ?_);intro w9 Bx aM;replace aJ:aB w9 bM 28 #[.int .i64 4,.bool false,.bool false,.slice none 0 0,.int .u64 0,.string ⟨(Lib.repeatL s.data.toList m).toArray⟩,.slice none 0 0]:=Bx;replace E:=E.step1 aM ak.head;obtain ⟨HF,LW,aj,E⟩:=dz HF LW E aj (Y:=No) (ak.skip ak.aV) (Per.aS aJ ah.nil);refine zv ?_;exact Ns
theorem sI (p:PV×Int) (hp:p=gQ s n):Calls prog 32 #[.string s,.agg #[.bool (decide (n<0)),.slice A (limbs n).length c]] w (vg w p):=by
 subst hp;unfold gQ;by_cases h:n≤0
 · rw[if_pos (Or.inl h)];exact aq0 w A c s n hn hx hs h
 by_cases h0:s.size=0
 · rw[if_pos (Or.inr h0)];exact aq1 w A c s n hn hx hs om h0
 rw[if_neg om];obtain ⟨m,hm⟩:=Int.eq_ofNat_of_zero_le (show 0≤n from om);have hmul:n*(s.size:Int)=((m*s.size:Nat):Int):=by rw[hm,Int.natCast_mul]
 have hm0:0<m:=om;have hge:m≤m*s.size:=Nat.le_mul_of_pos_right m om;by_cases hr:pz n
 · have hd:20000/s.size<m↔20000<m*s.size:=Nat.div_lt_iff_lt_mul om;by_cases hl:20000/s.size<m
   · rw[if_pos (by rw[hmul];have:=hd.1 hl;omega)];exact YW w A c s n hn hx hs om h0 hr om
   · have h9:m*s.size≤20000:=by have:=mt hd.2 hl;omega
     rw[if_neg (by rw[hmul];omega),show n.toNat=m from om];exact aF5 w A c s n hn hx hs om h0 hr om m hm (by rw[Nat.mul_comm];exact h9)
 · have h9:9223372036854775807<m:=by
    unfold pz at hr;omega
   rw[if_pos (by rw[hmul];omega)];exact aq2 w A c s n hn hx hs om h0 hr
end
end Go.Proofs.YtmnmebdmpigddaaGreatDoor
namespace Go.Proofs.YtmnmebdmpigddaaGreatDoor
open Go.RowKit Proofs.Tryz
theorem CY {P Q:Prop} (k:Q) (h:(Unit→Q)→P:=by
 intro zK;refine OL ?_;refine zd 73 (.bool false) rfl (by simp[kc]) (VK ?_);refine zd 98 (.bool true) rfl (by simp[ka]) (ye ?_);exact zK ()):P:=h fun _=>k
theorem yyq {P Q:Prop} (k:Q) (h:(Unit→Q)→P:=by
 intro zK;refine zd 73 (.bool false) rfl (by simp[ka]) (VK ?_);exact zK ()):P:=h fun _=>k
theorem CZ {P Q:Prop} (k:Q) (h:(Unit→Q)→P:=by
 intro zK;refine zd 45 (.bool true) rfl (by simp[ka]) (zr ?_);refine ze 37 (.bool true) rfl (by simp[kb]) (zt ?_);refine ve ?_;refine zu ?_;refine ve ?_;refine yo ?_;exact zK ()):P:=h fun _=>k
theorem C8 {P Q:Prop} (k:Q) (h:(Unit→Q)→P:=by
 intro zK;refine zd 40 (.bool false) rfl (by simp[h1]) (Dt ?_);refine zd 68 (.bool false) rfl (by simp[h3]) (VK ?_);refine zd 93 (.bool false) rfl (by simp[h3]) (VK ?_);exact zK ()):P:=h fun _=>k
theorem C9 {P Q:Prop} (k:Q) (h:(Unit→Q)→P:=by
 intro zK;refine qB ?_;refine zd 73 (.bool true) rfl (by simp[ka]) (ye ?_);refine zd 77 (.bool false) rfl (by simp[n1]) (yu ?_);refine ze 65 (.bool false) rfl (by simp[n2]) (yq ?_);exact zK ()):P:=h fun _=>k
theorem ygz {P Q:Prop} (k:Q) (h:(Unit→Q)→P:=by
 intro zK;refine za rfl (zb um rfl ((kl _ ua A1 B1 c1 d1 true na).mono ?_));exact zK ()):P:=h fun _=>k
theorem yzv {P Q:Prop} (k:Q) (h:(Unit→Q)→P:=by
 intro zK;refine zu ?_;refine bV rfl (zb um rfl ((kl _ ub A2 B2 c2 d2 false nb).mono ?_));exact zK ()):P:=h fun _=>k
theorem nG {P Q:Prop} (k:Q) (h:(Unit→Q)→P:=by
 intro zK;refine gf ?_;refine zd 19 (.bool false) rfl (by rw[decide_eq_false om]<;>rfl) (zv ?_);refine ze 22 (.bool false) rfl (by rw[decide_eq_false om]<;>rfl) (yu ?_);exact zK ()):P:=h fun _=>k
theorem zhv {P Q:Prop} (k:Q) (h:(Unit→Q)→P:=by
 intro zK;refine MX ?_;refine za rfl (zb um rfl ((kl _ ua A1 B1 c1 d1 false na).mono ?_));exact zK ()):P:=h fun _=>k
theorem vk {P Q:Prop} (k:Q) (h:(Unit→Q)→P:=by
 intro zK;refine zr ?_;refine za rfl (zb gH rfl ((vc _ ua A1 B1 c1 d1 (HF.on E).here.1.1.1.1.1.2 hl true ga).mono ?_));exact zK ()):P:=h fun _=>k
theorem vt {P Q:Prop} (k:Q) (h:(Unit→Q)→P:=by
 intro zK;refine zq ?_;refine bV rfl (zb gH rfl ((vc _ ub A2 B2 c2 d2 (HF.on E).here.1.1.1.1.2 hl' true gb).mono ?_));exact zK ()):P:=h fun _=>k
theorem Ua {P:Prop} (h:P:=by
 refine zd 98 (.bool false) rfl (by simp[kb]) (Dt ?_);exact Ub):P:=h
theorem ag3 {P:Prop} (h:P:=by
 refine zd 98 (.bool true) rfl (by simp[kb]) (ye ?_);refine zd 102 (.bool false) rfl (by simp[m1]) (yu ?_);refine ze 90 (.bool false) rfl (by simp[m2]) (zt ?_);exact Ub):P:=h
theorem Uc {P:Prop} (h:P:=by
 refine za rfl (ja (cs:=#[.int .i64 0,.bool false,.bool false,.slice none 0 0,.int .u64 0,.string ⟨#[]⟩,.slice none 0 0]) wS yB rfl rfl ?_);exact afj):P:=h
theorem Jr {P:Prop} (h:P:=by
 refine za rfl (ja (cs:=#[.int .i64 0,.bool false,.bool false,.slice none 0 0,.int .u64 0,.string ⟨#[]⟩,.slice none 0 0]) wS yB rfl rfl (zp (zo jf rfl rfl aC rfl rfl rfl ?_)));intro dS Bx aT;replace aC:aB dS aX 28 #[.int .i64 0,.bool false,.bool false,.slice none 0 0,.int .u64 0,.string ⟨#[]⟩,.slice none 0 0]:=Bx;replace E:=E.step1 aT ak.head;obtain ⟨HF,LW,aj,E⟩:=dz HF LW E aj (Y:=No) (ak.skip ak.aV) (Per.aS aC ah.nil);refine zv ?_;exact ⟨none,0,rfl,qvx,(LW.step E aj).toBelow⟩):P:=h
theorem Ub {P:Prop} (h:P:=by
 refine za rfl (ja (cs:=#[.int .i64 0,.bool false,.bool false,.slice none 0 0,.int .u64 0,.string ⟨#[]⟩,.slice none 0 0]) wS yB rfl rfl (zp (zo jf rfl rfl aC rfl rfl rfl ?_)));intro dI Bx aT;replace aC:aB dI aX 28 #[.int .i64 0,.bool false,.bool false,.slice none 0 0,.int .u64 0,.string ⟨#[]⟩,.slice none 0 0]:=Bx;replace E:=E.step1 aT ak.head;obtain ⟨HF,LW,aj,E⟩:=dz HF LW E aj (Y:=No) (ak.skip ak.aV) (Per.aS aC ah.nil);refine zv ?_;exact ⟨none,0,rfl,qvx,(LW.step E aj).toBelow⟩):P:=h
theorem aF6 {P:Prop} (h:P:=by
 have GL:=((LW.step E aj).toBelow).size;have OY:∀q9,(ak (km [⟨7,aX,28,#[.int .i64 0,.bool false,.bool false,.slice none 0 0,.int .u64 0,.string ⟨#[]⟩,.slice none 0 0]⟩])) q9→q9<(World.drew w9).heap.size→(ak [(some aX)]) q9:=fun k h _=>((ak.grow ak.none_ ak.head)) k h;refine yx (ak [(some aX)]) (ak.grow ak.none_ (zg aC.lt)) [] [⟨7,aX,28,#[.int .i64 0,.bool false,.bool false,.slice none 0 0,.int .u64 0,.string ⟨#[]⟩,.slice none 0 0]⟩] (xq [Fx.of (.pointer (some ⟨aO,5,none⟩)),
  Fx.of (.string ua.s),
  Fx.of (aP ub A2 c2 B2 d2),
  ⟨(Option Addr×Nat),fun (A4,q4)=>.agg #[.bool (decide (J<0)),.slice A4 (limbs J).length q4],fun (A4,q4) b=>(eH b A2 A4 ub.xs (limbs J))⟩,
  ⟨(Option Addr×Nat),fun (A5,q5)=>.tuple #[.agg #[.int .i64 p.1.k,.bool p.1.yes,.bool p.1.neg,.slice A5 p.1.xs.length q5,.int .u64 (p.1.bits:Int),.string p.1.s,.slice none 0 0],.int .i64 p.2],fun (A5,q5) b=>(Own b w.heap.size A5 q5 p.1.xs)⟩,
  ⟨(Option Addr×Nat),fun (A5,q5)=>.agg #[.int .i64 p.1.k,.bool p.1.yes,.bool p.1.neg,.slice A5 p.1.xs.length q5,.int .u64 (p.1.bits:Int),.string p.1.s,.slice none 0 0],fun (A5,q5) b=>(Own b w.heap.size A5 q5 p.1.xs)⟩,
  Fx.of (.int .i64 p.2),
  Fx.of undef,
  Fx.of (.int .i64 p.2)]) mixed rfl ⟨⟨ak.head _ rfl,aC,fun _ h=>by cases h⟩,trivial⟩ (by intro o ho;simp at ho;rcases ho with rfl<;>simp) ?_ ?_
 · refine ⟨arm,arm,arm,?_,?_,?_,?_,?_,arm,trivial⟩
   · refine qh ?_;intro vs X wq K;have XN:=K.2.1;refine zb jJ rfl ((CS ub A2 B2 c2 d2 gb kb J hJ).mono ?_);rintro e w2 ⟨A4,q4,rfl,hN,hb⟩;exact ⟨_,rfl,hb,⟨(A4,q4),rfl,QJ hN XN⟩⟩
   · refine qh ?_;intro vs X wq K;have LE:=K.1;have XN:=K.2.1;obtain ⟨⟨A4,q4⟩,e3,k3⟩:=K.dep 3 rfl rfl rfl;refine vd 86 _ rfl e3 (zb au9 rfl ((sI _ A4 q4 ua.s J Jb ((k3.here).nums (HF.on (E.drew.trans (LE.mono OY))).here.1.1.1.1.2) z1 p hp).mono ?_));rintro e w2 ⟨A5,q5,rfl,hO,hb⟩;exact ⟨_,rfl,hb,⟨(A5,q5),rfl,qdq hO XN (Nat.le_trans GL LE.size)⟩⟩
   · intro vs X wq K;obtain ⟨⟨A5,q5⟩,e4,k4⟩:=K.dep 4 rfl rfl rfl;refine vd 87 _ rfl e4 ?_;exact jk rfl rfl ⟨Below.refl _ _,⟨⟨A5,q5⟩,rfl,(k4.map (fun _ h=>h))⟩⟩
   · intro vs X wq K;obtain ⟨⟨A5,q5⟩,e4,k4⟩:=K.dep 4 rfl rfl rfl;refine vd 87 _ rfl e4 ?_;exact jk rfl rfl ⟨Below.refl _ _,Left.of rfl⟩
   · refine ⟨_,_,_,_,_,rfl,rfl,jf,fun vs X wq K=>⟨rfl,?_⟩⟩;obtain ⟨⟨A5,q5⟩,e0,_⟩:=K.dep 5 rfl rfl rfl;exact ⟨vs 5,rfl,by rw[e0];rfl,by rw[e0];rfl⟩
 intro vs dI LE AO AL AF AA;have wO:=aC;replace E:=E.drew.trans (LE.mono OY);obtain ⟨⟨A5,q5⟩,e5,k5⟩:=AL.2.2.2.2.2.1;obtain ⟨_,e8,k8⟩:=AL.2.2.2.2.2.2.2.2.1;obtain ⟨v0,y0,Bx,ey,wT⟩:=AO.1;cases ey
 obtain rfl:vs 5=v0:=Option.some.inj wT;rw[e5] at Bx;replace aC:aB dI aX 28 #[.int .i64 p.1.k,.bool p.1.yes,.bool p.1.neg,.slice A5 p.1.xs.length q5,.int .u64 (p.1.bits:Int),.string p.1.s,.slice none 0 0]:=Bx;obtain ⟨HF,LW,E⟩:=cZ HF LW E aj ((k5.map (fun _ h=>h):Per (ak [(some aX)]) dI (fun b=>Own b w.heap.size A5 q5 p.1.xs)));refine vo (τ:=[(6,_),(7,.int .i64 p.2)]) ⟨rfl,congrArg some e8,trivial⟩ ?_;clear AL AF AA LE AO OY e5 e8 k5 k8 wO;refine zv ?_;exact ⟨A5,q5,rfl,(HF.on E).here.2,(LW.step E aj).toBelow⟩):P:=h
theorem aF7 {P:Prop} (h:P:=by
 have GL:=((LW.step E aj).toBelow).size;have OY:∀q9,(ak (km [⟨7,aX,28,#[.int .i64 0,.bool false,.bool false,.slice none 0 0,.int .u64 0,.string ⟨#[]⟩,.slice none 0 0]⟩])) q9→q9<(World.drew dI).heap.size→(ak [(some aX)]) q9:=fun k h _=>((ak.grow ak.none_ ak.head)) k h;refine yx (ak [(some aX)]) (ak.grow ak.none_ (zg aC.lt)) [] [⟨7,aX,28,#[.int .i64 0,.bool false,.bool false,.slice none 0 0,.int .u64 0,.string ⟨#[]⟩,.slice none 0 0]⟩] (xq [Fx.of (.pointer (some ⟨bM,5,none⟩)),
  Fx.of (.string ub.s),
  Fx.of (aP ua A1 c1 B1 d1),
  ⟨(Option Addr×Nat),fun (A4,q4)=>.agg #[.bool (decide (J<0)),.slice A4 (limbs J).length q4],fun (A4,q4) b=>(eH b A1 A4 ua.xs (limbs J))⟩,
  ⟨(Option Addr×Nat),fun (A5,q5)=>.tuple #[.agg #[.int .i64 p.1.k,.bool p.1.yes,.bool p.1.neg,.slice A5 p.1.xs.length q5,.int .u64 (p.1.bits:Int),.string p.1.s,.slice none 0 0],.int .i64 p.2],fun (A5,q5) b=>(Own b w.heap.size A5 q5 p.1.xs)⟩,
  ⟨(Option Addr×Nat),fun (A5,q5)=>.agg #[.int .i64 p.1.k,.bool p.1.yes,.bool p.1.neg,.slice A5 p.1.xs.length q5,.int .u64 (p.1.bits:Int),.string p.1.s,.slice none 0 0],fun (A5,q5) b=>(Own b w.heap.size A5 q5 p.1.xs)⟩,
  Fx.of (.int .i64 p.2),
  Fx.of undef,
  Fx.of (.int .i64 p.2)]) mixed rfl ⟨⟨ak.head _ rfl,aC,fun _ h=>by cases h⟩,trivial⟩ (by intro o ho;simp at ho;rcases ho with rfl<;>simp) ?_ ?_
 · refine ⟨arm,arm,arm,?_,?_,?_,?_,?_,arm,trivial⟩
   · refine qh ?_;intro vs X wq K;have XN:=K.2.1;refine zb jJ rfl ((CS ua A1 B1 c1 d1 ga kb J hJ).mono ?_);rintro e w2 ⟨A4,q4,rfl,hN,hb⟩;exact ⟨_,rfl,hb,⟨(A4,q4),rfl,QJ hN XN⟩⟩
   · refine qh ?_;intro vs X wq K;have LE:=K.1;have XN:=K.2.1;obtain ⟨⟨A4,q4⟩,e3,k3⟩:=K.dep 3 rfl rfl rfl;refine vd 111 _ rfl e3 (zb au9 rfl ((sI _ A4 q4 ub.s J Jb ((k3.here).nums (HF.on (E.drew.trans (LE.mono OY))).here.1.1.1.1.1.2) z1 p hp).mono ?_));rintro e w2 ⟨A5,q5,rfl,hO,hb⟩;exact ⟨_,rfl,hb,⟨(A5,q5),rfl,qdq hO XN (Nat.le_trans GL LE.size)⟩⟩
   · intro vs X wq K;obtain ⟨⟨A5,q5⟩,e4,k4⟩:=K.dep 4 rfl rfl rfl;refine vd 112 _ rfl e4 ?_;exact jk rfl rfl ⟨Below.refl _ _,⟨⟨A5,q5⟩,rfl,(k4.map (fun _ h=>h))⟩⟩
   · intro vs X wq K;obtain ⟨⟨A5,q5⟩,e4,k4⟩:=K.dep 4 rfl rfl rfl;refine vd 112 _ rfl e4 ?_;exact jk rfl rfl ⟨Below.refl _ _,Left.of rfl⟩
   · refine ⟨_,_,_,_,_,rfl,rfl,jf,fun vs X wq K=>⟨rfl,?_⟩⟩;obtain ⟨⟨A5,q5⟩,e0,_⟩:=K.dep 5 rfl rfl rfl;exact ⟨vs 5,rfl,by rw[e0];rfl,by rw[e0];rfl⟩
 intro vs dS LE AO AL AF AA;have wO:=aC;replace E:=E.drew.trans (LE.mono OY);obtain ⟨⟨A5,q5⟩,e5,k5⟩:=AL.2.2.2.2.2.1;obtain ⟨_,e8,k8⟩:=AL.2.2.2.2.2.2.2.2.1;obtain ⟨v0,y0,Bx,ey,wT⟩:=AO.1;cases ey
 obtain rfl:vs 5=v0:=Option.some.inj wT;rw[e5] at Bx;replace aC:aB dS aX 28 #[.int .i64 p.1.k,.bool p.1.yes,.bool p.1.neg,.slice A5 p.1.xs.length q5,.int .u64 (p.1.bits:Int),.string p.1.s,.slice none 0 0]:=Bx;obtain ⟨HF,LW,E⟩:=cZ HF LW E aj ((k5.map (fun _ h=>h):Per (ak [(some aX)]) dS (fun b=>Own b w.heap.size A5 q5 p.1.xs)));refine vo (τ:=[(6,_),(7,.int .i64 p.2)]) ⟨rfl,congrArg some e8,trivial⟩ ?_;clear AL AF AA LE AO OY e5 e8 k5 k8 wO;refine zv ?_;exact ⟨A5,q5,rfl,(HF.on E).here.2,(LW.step E aj).toBelow⟩):P:=h
attribute [local irreducible] OW RS CW EW
section
variable (w:World) (ua ub:PV) (A1 B1 A2 B2:Option Addr) (c1 d1 c2 d2:Nat) (hx:aA w A1 ua.xs) (hl:ua.xs.length≤9223372036854775807) (ha:ua.bits<18446744073709551616) (hy:aA w A2 ub.xs) (hl':ub.xs.length≤9223372036854775807) (hb0:ub.bits<18446744073709551616)
variable {bp op cp bf of cf bl ol cl:Nat} (hD:∀b,Below w.heap.size w b→fD b) (aG:dK bp op cp bf of cf bl ol cl w) (hE:∃te pe,w.cell? ⟨4,0,none⟩=some (.iface te pe))
include hx hl ha hy hl' hb0 hD aG hE
theorem YX (op:Int) (ga:ua.good=false):Calls prog 7 #[.int .i64 op,aP ua A1 c1 B1 d1,aP ub A2 c2 B2 d2] w (vg w (vZ,3)):=by
 have _:=hx;have _:=hl;have _:=ha;have _:=hy;have _:=hl';have _:=hb0;have _:=hD;have _:=aG;have _:=hE;obtain ⟨te,pe,hE⟩:=hE;refine zc func7 rfl ntmps7 rfl ?_;obtain ⟨HF,LW,aj,E⟩:=bg w;replace HF:=HF.and (Per.ay hx);replace HF:=HF.and (Per.ay hy);replace HF:=HF.and (Per.tabs aG (fun _ h=>h.elim));replace HF:=HF.and (Per.aR hE (fun _ h=>h.elim));refine zf ?_;intro aO w2 aD aI aW;obtain ⟨HF,LW,E⟩:=aK HF LW E aj aD aI;refine za rfl (zn rfl ?_);intro bM w4 aJ aM bN;obtain ⟨HF,LW,E⟩:=aK HF LW E aj aJ aM;refine zi ?_;intro aX w6 aC aT aU;obtain ⟨aU,HF,E,aj⟩:=aZ HF LW E aj aT aU;refine zr ?_;refine za rfl (zb gH rfl ((vc _ ua A1 B1 c1 d1 (HF.on E).here.1.1.1.1.1.2 hl false ga).mono ?_));rintro e w7 ⟨rfl,hb⟩;refine ⟨_,rfl,?_⟩;have Ec:=Ext.of_below hb No;replace aC:=aC.av Ec ah.nil;replace E:=E.trans Ec.no;refine yq ?_;exact afq
theorem YZ (op:Int) (ga:ua.good=true) (gb:ub.good=false):Calls prog 7 #[.int .i64 op,aP ua A1 c1 B1 d1,aP ub A2 c2 B2 d2] w (vg w (vZ,3)):=by
 have _:=hx;have _:=hl;have _:=ha;have _:=hy;have _:=hl';have _:=hb0;have _:=hD;have _:=aG;have _:=hE;obtain ⟨te,pe,hE⟩:=hE;refine zc func7 rfl ntmps7 rfl ?_;obtain ⟨HF,LW,aj,E⟩:=bg w;replace HF:=HF.and (Per.ay hx);replace HF:=HF.and (Per.ay hy);replace HF:=HF.and (Per.tabs aG (fun _ h=>h.elim));replace HF:=HF.and (Per.aR hE (fun _ h=>h.elim));refine zf ?_;intro aO w2 aD aI aW;obtain ⟨HF,LW,E⟩:=aK HF LW E aj aD aI;refine za rfl (zn rfl ?_);intro bM w4 aJ aM bN;obtain ⟨HF,LW,E⟩:=aK HF LW E aj aJ aM;refine zi ?_;intro aX w6 aC aT aU;obtain ⟨aU,HF,E,aj⟩:=aZ HF LW E aj aT aU;refine vk ?_;rintro e w7 ⟨rfl,hb⟩;refine ⟨_,rfl,?_⟩;have Ec:=Ext.of_below hb No;replace aC:=aC.av Ec ah.nil;replace E:=E.trans Ec.no;refine zq ?_;refine bV rfl (zb gH rfl ((vc _ ub A2 B2 c2 d2 (HF.on E).here.1.1.1.1.2 hl' false gb).mono ?_));rintro e w8 ⟨rfl,hb⟩;refine ⟨_,rfl,?_⟩;have Ec:=Ext.of_below hb No;replace aC:=aC.av Ec ah.nil;replace E:=E.trans Ec.no;refine zr ?_;exact Uc
theorem aq3 (op:Int) (ga:ua.good=true) (gb:ub.good=true) (h:op<1):Calls prog 7 #[.int .i64 op,aP ua A1 c1 B1 d1,aP ub A2 c2 B2 d2] w (vg w (vZ,9)):=by
 have _:=hx;have _:=hl;have _:=ha;have _:=hy;have _:=hl';have _:=hb0;have _:=hD;have _:=aG;have _:=hE;obtain ⟨te,pe,hE⟩:=hE;refine zc func7 rfl ntmps7 rfl ?_;obtain ⟨HF,LW,aj,E⟩:=bg w;replace HF:=HF.and (Per.ay hx);replace HF:=HF.and (Per.ay hy);replace HF:=HF.and (Per.tabs aG (fun _ h=>h.elim));replace HF:=HF.and (Per.aR hE (fun _ h=>h.elim));refine zf ?_;intro aO w2 aD aI aW;obtain ⟨HF,LW,E⟩:=aK HF LW E aj aD aI;refine za rfl (zn rfl ?_);intro bM w4 aJ aM bN;obtain ⟨HF,LW,E⟩:=aK HF LW E aj aJ aM;refine zi ?_;intro aX w6 aC aT aU;obtain ⟨aU,HF,E,aj⟩:=aZ HF LW E aj aT aU;refine vk ?_;rintro e w7 ⟨rfl,hb⟩;refine ⟨_,rfl,?_⟩;have Ec:=Ext.of_below hb No;replace aC:=aC.av Ec ah.nil;replace E:=E.trans Ec.no;refine vt ?_;rintro e w8 ⟨rfl,hb⟩;refine ⟨_,rfl,?_⟩;have Ec:=Ext.of_below hb No;replace aC:=aC.av Ec ah.nil;replace E:=E.trans Ec.no;refine gf ?_;refine zd 19 (.bool true) rfl (by rw[decide_eq_true h]<;>rfl) (yu ?_);exact Uc
theorem aq4 (op:Int) (ga:ua.good=true) (gb:ub.good=true) (h:7<op):Calls prog 7 #[.int .i64 op,aP ua A1 c1 B1 d1,aP ub A2 c2 B2 d2] w (vg w (vZ,9)):=by
 have _:=hx;have _:=hl;have _:=ha;have _:=hy;have _:=hl';have _:=hb0;have _:=hD;have _:=aG;have _:=hE;obtain ⟨te,pe,hE⟩:=hE;refine zc func7 rfl ntmps7 rfl ?_;obtain ⟨HF,LW,aj,E⟩:=bg w;replace HF:=HF.and (Per.ay hx);replace HF:=HF.and (Per.ay hy);replace HF:=HF.and (Per.tabs aG (fun _ h=>h.elim));replace HF:=HF.and (Per.aR hE (fun _ h=>h.elim));refine zf ?_;intro aO w2 aD aI aW;obtain ⟨HF,LW,E⟩:=aK HF LW E aj aD aI;refine za rfl (zn rfl ?_);intro bM w4 aJ aM bN;obtain ⟨HF,LW,E⟩:=aK HF LW E aj aJ aM;refine zi ?_;intro aX w6 aC aT aU;obtain ⟨aU,HF,E,aj⟩:=aZ HF LW E aj aT aU;refine vk ?_;rintro e w7 ⟨rfl,hb⟩;refine ⟨_,rfl,?_⟩;have Ec:=Ext.of_below hb No;replace aC:=aC.av Ec ah.nil;replace E:=E.trans Ec.no;refine vt ?_;rintro e w8 ⟨rfl,hb⟩;refine ⟨_,rfl,?_⟩;have Ec:=Ext.of_below hb No;replace aC:=aC.av Ec ah.nil;replace E:=E.trans Ec.no;refine gf ?_;refine zd 19 (.bool false) rfl (by rw[decide_eq_false om]<;>rfl) (zv ?_);refine ze 22 (.bool true) rfl (by rw[decide_eq_true h]<;>rfl) (zq ?_);exact Uc
theorem aq5 (op:Int) (ga:ua.good=true) (gb:ub.good=true) (h:1≤op∧op≤7) (na:qd ua.k=true) (nb:qd ub.k=true) (hW:WhC op) (MJ:(ua.k=3∨ub.k=3∨op=4)→TT op) (p:PV×Int) (hp:p=YC op ua ub):Calls prog 7 #[.int .i64 op,aP ua A1 c1 B1 d1,aP ub A2 c2 B2 d2] w (vg w (p)):=by
 have _:=hx;have _:=hl;have _:=ha;have _:=hy;have _:=hl';have _:=hb0;have _:=hD;have _:=aG;have _:=hE;obtain ⟨te,pe,hE⟩:=hE;refine zc func7 rfl ntmps7 rfl ?_;obtain ⟨HF,LW,aj,E⟩:=bg w;replace HF:=HF.and (Per.ay hx);replace HF:=HF.and (Per.ay hy);replace HF:=HF.and (Per.tabs aG (fun _ h=>h.elim));replace HF:=HF.and (Per.aR hE (fun _ h=>h.elim));refine zf ?_;intro aO w2 aD aI aW;obtain ⟨HF,LW,E⟩:=aK HF LW E aj aD aI;refine za rfl (zn rfl ?_);intro bM w4 aJ aM bN;obtain ⟨HF,LW,E⟩:=aK HF LW E aj aJ aM;refine zi ?_;intro aX w6 aC aT aU;obtain ⟨aU,HF,E,aj⟩:=aZ HF LW E aj aT aU;refine vk ?_;rintro e w7 ⟨rfl,hb⟩;refine ⟨_,rfl,?_⟩;have Ec:=Ext.of_below hb No;replace aC:=aC.av Ec ah.nil;replace E:=E.trans Ec.no;refine vt ?_;rintro e w8 ⟨rfl,hb⟩;refine ⟨_,rfl,?_⟩;have Ec:=Ext.of_below hb No;replace aC:=aC.av Ec ah.nil;replace E:=E.trans Ec.no;refine nG ?_;refine ygz ?_;rintro e w9 ⟨rfl,hb⟩;refine ⟨_,rfl,?_⟩;have Ec:=Ext.of_below hb No;replace aC:=aC.av Ec ah.nil;replace E:=E.trans Ec.no;refine zu ?_;refine bV rfl (zb um rfl ((kl _ ub A2 B2 c2 d2 true nb).mono ?_));rintro e dI ⟨rfl,hb⟩;refine ⟨_,rfl,?_⟩;have Ec:=Ext.of_below hb No;replace aC:=aC.av Ec ah.nil;replace E:=E.trans Ec.no;refine zy ?_;refine za rfl (zb au8 rfl ((Gs _ ua ub A1 B1 A2 B2 c1 d1 c2 d2 (HF.on E).here.1.1.1.1.1.2 hl ha (HF.on E).here.1.1.1.1.2 hl' hb0 (later hD (LW.step E aj).toBelow) (HF.on E).here.1.1.1.2 ⟨te,pe,(HF.on E).here.1.1.2⟩ op hW MJ ga na gb nb p hp).mono ?_));rintro e dS ⟨A5,q5,rfl,o5,hb⟩;refine ⟨_,rfl,?_⟩;have XC:∀q9,(ak [(some aX)]) q9→q9<dI.heap.size:=(ak.grow ak.none_ (zg aC.lt));have SC:=Nat.le_trans LW.size E.size;have Ec:=Ext.of_below hb No;replace aC:=aC.av Ec ah.nil;replace E:=E.trans Ec.no;have S5:=SC;obtain ⟨HF,LW,E⟩:=cZ HF LW E aj (Per.bP o5 XC);refine zu ?_;refine YK ?_;intro eB Bx aT;replace aC:aB eB aX 28 #[.int .i64 p.1.k,.bool p.1.yes,.bool p.1.neg,.slice A5 p.1.xs.length q5,.int .u64 (p.1.bits:Int),.string p.1.s,.slice none 0 0]:=Bx;replace E:=E.step1 aT ak.head;refine zr ?_;exact ⟨A5,q5,rfl,((HF.on E).here.2).mono S5,(LW.step E aj).toBelow⟩
theorem Y0 (ga:ua.good=true) (gb:ub.good=true) (ka:ua.k=4) (kb:ub.k=4) (h:20000<ua.s.size+ub.s.size):Calls prog 7 #[.int .i64 1,aP ua A1 c1 B1 d1,aP ub A2 c2 B2 d2] w (vg w (vZ,2)):=by
 have _:=hx;have _:=hl;have _:=ha;have _:=hy;have _:=hl';have _:=hb0;have _:=hD;have _:=aG;have _:=hE;obtain ⟨te,pe,hE⟩:=hE;have na:qd ua.k=false:=by rw[ka];rfl
 have z1:=PV.fq ga ka;have z2:=PV.fq gb kb;refine zc func7 rfl ntmps7 rfl ?_;obtain ⟨HF,LW,aj,E⟩:=bg w;replace HF:=HF.and (Per.ay hx);replace HF:=HF.and (Per.ay hy);replace HF:=HF.and (Per.tabs aG (fun _ h=>h.elim));replace HF:=HF.and (Per.aR hE (fun _ h=>h.elim));refine zf ?_;intro aO w2 aD aI aW;obtain ⟨HF,LW,E⟩:=aK HF LW E aj aD aI;refine za rfl (zn rfl ?_);intro bM w4 aJ aM bN;obtain ⟨HF,LW,E⟩:=aK HF LW E aj aJ aM;refine zi ?_;intro aX w6 aC aT aU;obtain ⟨aU,HF,E,aj⟩:=aZ HF LW E aj aT aU;refine vk ?_;rintro e w7 ⟨rfl,hb⟩;refine ⟨_,rfl,?_⟩;have Ec:=Ext.of_below hb No;replace aC:=aC.av Ec ah.nil;replace E:=E.trans Ec.no;refine vt ?_;rintro e w8 ⟨rfl,hb⟩;refine ⟨_,rfl,?_⟩;have Ec:=Ext.of_below hb No;replace aC:=aC.av Ec ah.nil;replace E:=E.trans Ec.no;refine zhv ?_;rintro e w9 ⟨rfl,hb⟩;refine ⟨_,rfl,?_⟩;have Ec:=Ext.of_below hb No;replace aC:=aC.av Ec ah.nil;replace E:=E.trans Ec.no;refine Dt ?_;refine CZ ?_;refine zq ?_;refine ze 57 (.bool true) rfl (by rw[decide_eq_true om]<;>rfl) (zq ?_);refine qbx ?_;refine YK ?_;intro dI Bx aT;replace aC:aB dI aX 28 #[.int .i64 0,.bool false,.bool false,.slice none 0 0,.int .u64 0,.string ⟨#[]⟩,.slice none 0 0]:=Bx;replace E:=E.step1 aT ak.head;refine yu ?_;exact Ns
theorem Za (ga:ua.good=true) (gb:ub.good=true) (ka:ua.k=4) (kb:ub.k=4) (h:¬20000<ua.s.size+ub.s.size):Calls prog 7 #[.int .i64 1,aP ua A1 c1 B1 d1,aP ub A2 c2 B2 d2] w (vg w (vT (ua.s++ub.s),0)):=by
 have _:=hx;have _:=hl;have _:=ha;have _:=hy;have _:=hl';have _:=hb0;have _:=hD;have _:=aG;have _:=hE;obtain ⟨te,pe,hE⟩:=hE;have na:qd ua.k=false:=by rw[ka];rfl
 have z1:=PV.fq ga ka;have z2:=PV.fq gb kb;refine zc func7 rfl ntmps7 rfl ?_;obtain ⟨HF,LW,aj,E⟩:=bg w;replace HF:=HF.and (Per.ay hx);replace HF:=HF.and (Per.ay hy);replace HF:=HF.and (Per.tabs aG (fun _ h=>h.elim));replace HF:=HF.and (Per.aR hE (fun _ h=>h.elim));refine zf ?_;intro aO w2 aD aI aW;obtain ⟨HF,LW,E⟩:=aK HF LW E aj aD aI;refine za rfl (zn rfl ?_);intro bM w4 aJ aM bN;obtain ⟨HF,LW,E⟩:=aK HF LW E aj aJ aM;refine zi ?_;intro aX w6 aC aT aU;obtain ⟨aU,HF,E,aj⟩:=aZ HF LW E aj aT aU;refine vk ?_;rintro e w7 ⟨rfl,hb⟩;refine ⟨_,rfl,?_⟩;have Ec:=Ext.of_below hb No;replace aC:=aC.av Ec ah.nil;replace E:=E.trans Ec.no;refine vt ?_;rintro e w8 ⟨rfl,hb⟩;refine ⟨_,rfl,?_⟩;have Ec:=Ext.of_below hb No;replace aC:=aC.av Ec ah.nil;replace E:=E.trans Ec.no;refine zhv ?_;rintro e w9 ⟨rfl,hb⟩;refine ⟨_,rfl,?_⟩;have Ec:=Ext.of_below hb No;replace aC:=aC.av Ec ah.nil;replace E:=E.trans Ec.no;refine Dt ?_;refine CZ ?_;refine zq ?_;refine ze 57 (.bool false) rfl (by rw[decide_eq_false om]<;>rfl) (qo ?_);refine za rfl (qvk rfl rfl om (za rfl (zb ahj rfl ((wP _ (ua.s++ub.s)).mono ?_))));rintro e dI ⟨rfl,hb⟩;refine ⟨_,rfl,?_⟩;have Ec:=Ext.of_below hb No;replace aC:=aC.av Ec ah.nil;replace E:=E.trans Ec.no;refine YK ?_;intro dS Bx aT;replace aC:aB dS aX 28 #[.int .i64 4,.bool false,.bool false,.slice none 0 0,.int .u64 0,.string (ua.s++ub.s),.slice none 0 0]:=Bx;replace E:=E.step1 aT ak.head;refine zr ?_;exact Ns
theorem Ud (ga:ua.good=true) (gb:ub.good=true) (ka:ua.k=4) (kb:ub.k=1∨ub.k=2) (kc:ub.k=1) (p:PV×Int) (hp:p=gQ ua.s (qu ub)):Calls prog 7 #[.int .i64 3,aP ua A1 c1 B1 d1,aP ub A2 c2 B2 d2] w (vg w (p)):=by
 have _:=hx;have _:=hl;have _:=ha;have _:=hy;have _:=hl';have _:=hb0;have _:=hD;have _:=aG;have _:=hE;obtain ⟨te,pe,hE⟩:=hE;have hns:qd ua.k=false:=by rw[ka];rfl
 have V7:qd ub.k=true:=by rcases kb with h | h<;>rw[h]<;>rfl
 have z1:=PV.fq ga ka;obtain ⟨J,hJ⟩:∃J,J=qu ub:=⟨_,rfl⟩;have Jb:J.natAbs<au^30:=hJ▸xx gb kb;rw[←hJ] at hp;refine zc func7 rfl ntmps7 rfl ?_;obtain ⟨HF,LW,aj,E⟩:=bg w;replace HF:=HF.and (Per.ay hx);replace HF:=HF.and (Per.ay hy);replace HF:=HF.and (Per.tabs aG (fun _ h=>h.elim));replace HF:=HF.and (Per.aR hE (fun _ h=>h.elim));refine zf ?_;intro aO w2 aD aI aW;obtain ⟨HF,LW,E⟩:=aK HF LW E aj aD aI;refine za rfl (zn rfl ?_);intro bM w4 aJ aM bN;obtain ⟨HF,LW,E⟩:=aK HF LW E aj aJ aM;refine zi ?_;intro aX w6 aC aT aU;obtain ⟨aU,HF,E,aj⟩:=aZ HF LW E aj aT aU;refine vk ?_;rintro e w7 ⟨rfl,hb⟩;refine ⟨_,rfl,?_⟩;have Ec:=Ext.of_below hb No;replace aC:=aC.av Ec ah.nil;replace E:=E.trans Ec.no;refine vt ?_;rintro e w8 ⟨rfl,hb⟩;refine ⟨_,rfl,?_⟩;have Ec:=Ext.of_below hb No;replace aC:=aC.av Ec ah.nil;replace E:=E.trans Ec.no;refine MX ?_;refine za rfl (zb um rfl ((kl _ ua A1 B1 c1 d1 false hns).mono ?_));rintro e w9 ⟨rfl,hb⟩;refine ⟨_,rfl,?_⟩;have Ec:=Ext.of_below hb No;replace aC:=aC.av Ec ah.nil;replace E:=E.trans Ec.no;refine qB ?_;refine zd 73 (.bool true) rfl (by simp[ka]) (ye ?_);refine zd 77 (.bool true) rfl (by simp[kc]) (zy ?_);exact aF6
theorem Ue (ga:ua.good=true) (gb:ub.good=true) (ka:ub.k=4) (kb:ua.k=1∨ua.k=2) (kc:ua.k=1) (p:PV×Int) (hp:p=gQ ub.s (qu ua)):Calls prog 7 #[.int .i64 3,aP ua A1 c1 B1 d1,aP ub A2 c2 B2 d2] w (vg w (p)):=by
 have _:=hx;have _:=hl;have _:=ha;have _:=hy;have _:=hl';have _:=hb0;have _:=hD;have _:=aG;have _:=hE;obtain ⟨te,pe,hE⟩:=hE;have hns:qd ub.k=false:=by rw[ka];rfl
 have V7:qd ua.k=true:=by rcases kb with h | h<;>rw[h]<;>rfl
 have z1:=PV.fq gb ka;obtain ⟨J,hJ⟩:∃J,J=qu ua:=⟨_,rfl⟩;have Jb:J.natAbs<au^30:=hJ▸xx ga kb;rw[←hJ] at hp;refine zc func7 rfl ntmps7 rfl ?_;obtain ⟨HF,LW,aj,E⟩:=bg w;replace HF:=HF.and (Per.ay hx);replace HF:=HF.and (Per.ay hy);replace HF:=HF.and (Per.tabs aG (fun _ h=>h.elim));replace HF:=HF.and (Per.aR hE (fun _ h=>h.elim));refine zf ?_;intro aO w2 aD aI aW;obtain ⟨HF,LW,E⟩:=aK HF LW E aj aD aI;refine za rfl (zn rfl ?_);intro bM w4 aJ aM bN;obtain ⟨HF,LW,E⟩:=aK HF LW E aj aJ aM;refine zi ?_;intro aX w6 aC aT aU;obtain ⟨aU,HF,E,aj⟩:=aZ HF LW E aj aT aU;refine vk ?_;rintro e w7 ⟨rfl,hb⟩;refine ⟨_,rfl,?_⟩;have Ec:=Ext.of_below hb No;replace aC:=aC.av Ec ah.nil;replace E:=E.trans Ec.no;refine vt ?_;rintro e w8 ⟨rfl,hb⟩;refine ⟨_,rfl,?_⟩;have Ec:=Ext.of_below hb No;replace aC:=aC.av Ec ah.nil;replace E:=E.trans Ec.no;refine MX ?_;refine za rfl (zb um rfl ((kl _ ua A1 B1 c1 d1 true V7).mono ?_));rintro e w9 ⟨rfl,hb⟩;refine ⟨_,rfl,?_⟩;have Ec:=Ext.of_below hb No;replace aC:=aC.av Ec ah.nil;replace E:=E.trans Ec.no;refine zu ?_;refine bV rfl (zb um rfl ((kl _ ub A2 B2 c2 d2 false hns).mono ?_));rintro e dI ⟨rfl,hb⟩;refine ⟨_,rfl,?_⟩;have Ec:=Ext.of_below hb No;replace aC:=aC.av Ec ah.nil;replace E:=E.trans Ec.no;refine CY ?_;refine zd 102 (.bool true) rfl (by simp[kc]) (zy ?_);exact aF7
theorem Uf (ga:ua.good=true) (gb:ub.good=true) (ka:ua.k=4) (kb:ub.k=1∨ub.k=2) (kc:ub.k=2) (p:PV×Int) (hp:p=gQ ua.s (qu ub)):Calls prog 7 #[.int .i64 3,aP ua A1 c1 B1 d1,aP ub A2 c2 B2 d2] w (vg w (p)):=by
 have _:=hx;have _:=hl;have _:=ha;have _:=hy;have _:=hl';have _:=hb0;have _:=hD;have _:=aG;have _:=hE;obtain ⟨te,pe,hE⟩:=hE;have hns:qd ua.k=false:=by rw[ka];rfl
 have V7:qd ub.k=true:=by rcases kb with h | h<;>rw[h]<;>rfl
 have z1:=PV.fq ga ka;obtain ⟨J,hJ⟩:∃J,J=qu ub:=⟨_,rfl⟩;have Jb:J.natAbs<au^30:=hJ▸xx gb kb;rw[←hJ] at hp;refine zc func7 rfl ntmps7 rfl ?_;obtain ⟨HF,LW,aj,E⟩:=bg w;replace HF:=HF.and (Per.ay hx);replace HF:=HF.and (Per.ay hy);replace HF:=HF.and (Per.tabs aG (fun _ h=>h.elim));replace HF:=HF.and (Per.aR hE (fun _ h=>h.elim));refine zf ?_;intro aO w2 aD aI aW;obtain ⟨HF,LW,E⟩:=aK HF LW E aj aD aI;refine za rfl (zn rfl ?_);intro bM w4 aJ aM bN;obtain ⟨HF,LW,E⟩:=aK HF LW E aj aJ aM;refine zi ?_;intro aX w6 aC aT aU;obtain ⟨aU,HF,E,aj⟩:=aZ HF LW E aj aT aU;refine vk ?_;rintro e w7 ⟨rfl,hb⟩;refine ⟨_,rfl,?_⟩;have Ec:=Ext.of_below hb No;replace aC:=aC.av Ec ah.nil;replace E:=E.trans Ec.no;refine vt ?_;rintro e w8 ⟨rfl,hb⟩;refine ⟨_,rfl,?_⟩;have Ec:=Ext.of_below hb No;replace aC:=aC.av Ec ah.nil;replace E:=E.trans Ec.no;refine MX ?_;refine za rfl (zb um rfl ((kl _ ua A1 B1 c1 d1 false hns).mono ?_));rintro e w9 ⟨rfl,hb⟩;refine ⟨_,rfl,?_⟩;have Ec:=Ext.of_below hb No;replace aC:=aC.av Ec ah.nil;replace E:=E.trans Ec.no;refine qB ?_;refine zd 73 (.bool true) rfl (by simp[ka]) (ye ?_);refine zd 77 (.bool false) rfl (by simp[kc]) (yu ?_);refine ze 65 (.bool true) rfl (by simp[kc]) (zu ?_);exact aF6
theorem Ug (ga:ua.good=true) (gb:ub.good=true) (ka:ub.k=4) (kb:ua.k=1∨ua.k=2) (kc:ua.k=2) (p:PV×Int) (hp:p=gQ ub.s (qu ua)):Calls prog 7 #[.int .i64 3,aP ua A1 c1 B1 d1,aP ub A2 c2 B2 d2] w (vg w (p)):=by
 have _:=hx;have _:=hl;have _:=ha;have _:=hy;have _:=hl';have _:=hb0;have _:=hD;have _:=aG;have _:=hE;obtain ⟨te,pe,hE⟩:=hE;have hns:qd ub.k=false:=by rw[ka];rfl
 have V7:qd ua.k=true:=by rcases kb with h | h<;>rw[h]<;>rfl
 have z1:=PV.fq gb ka;obtain ⟨J,hJ⟩:∃J,J=qu ua:=⟨_,rfl⟩;have Jb:J.natAbs<au^30:=hJ▸xx ga kb;rw[←hJ] at hp;refine zc func7 rfl ntmps7 rfl ?_;obtain ⟨HF,LW,aj,E⟩:=bg w;replace HF:=HF.and (Per.ay hx);replace HF:=HF.and (Per.ay hy);replace HF:=HF.and (Per.tabs aG (fun _ h=>h.elim));replace HF:=HF.and (Per.aR hE (fun _ h=>h.elim));refine zf ?_;intro aO w2 aD aI aW;obtain ⟨HF,LW,E⟩:=aK HF LW E aj aD aI;refine za rfl (zn rfl ?_);intro bM w4 aJ aM bN;obtain ⟨HF,LW,E⟩:=aK HF LW E aj aJ aM;refine zi ?_;intro aX w6 aC aT aU;obtain ⟨aU,HF,E,aj⟩:=aZ HF LW E aj aT aU;refine vk ?_;rintro e w7 ⟨rfl,hb⟩;refine ⟨_,rfl,?_⟩;have Ec:=Ext.of_below hb No;replace aC:=aC.av Ec ah.nil;replace E:=E.trans Ec.no;refine vt ?_;rintro e w8 ⟨rfl,hb⟩;refine ⟨_,rfl,?_⟩;have Ec:=Ext.of_below hb No;replace aC:=aC.av Ec ah.nil;replace E:=E.trans Ec.no;refine MX ?_;refine za rfl (zb um rfl ((kl _ ua A1 B1 c1 d1 true V7).mono ?_));rintro e w9 ⟨rfl,hb⟩;refine ⟨_,rfl,?_⟩;have Ec:=Ext.of_below hb No;replace aC:=aC.av Ec ah.nil;replace E:=E.trans Ec.no;refine zu ?_;refine bV rfl (zb um rfl ((kl _ ub A2 B2 c2 d2 false hns).mono ?_));rintro e dI ⟨rfl,hb⟩;refine ⟨_,rfl,?_⟩;have Ec:=Ext.of_below hb No;replace aC:=aC.av Ec ah.nil;replace E:=E.trans Ec.no;refine CY ?_;refine zd 102 (.bool false) rfl (by simp[kc]) (yu ?_);refine ze 90 (.bool true) rfl (by simp[kc]) (zu ?_);exact aF7
theorem aq6 (op:Int) (ga:ua.good=true) (gb:ub.good=true) (h:1≤op∧op≤7) (h1:op≠1) (h3:op≠3) (na:qd ua.k=false)  :Calls prog 7 #[.int .i64 op,aP ua A1 c1 B1 d1,aP ub A2 c2 B2 d2] w (vg w (vZ,9)):=by
 have _:=hx;have _:=hl;have _:=ha;have _:=hy;have _:=hl';have _:=hb0;have _:=hD;have _:=aG;have _:=hE;obtain ⟨te,pe,hE⟩:=hE;refine zc func7 rfl ntmps7 rfl ?_;obtain ⟨HF,LW,aj,E⟩:=bg w;replace HF:=HF.and (Per.ay hx);replace HF:=HF.and (Per.ay hy);replace HF:=HF.and (Per.tabs aG (fun _ h=>h.elim));replace HF:=HF.and (Per.aR hE (fun _ h=>h.elim));refine zf ?_;intro aO w2 aD aI aW;obtain ⟨HF,LW,E⟩:=aK HF LW E aj aD aI;refine za rfl (zn rfl ?_);intro bM w4 aJ aM bN;obtain ⟨HF,LW,E⟩:=aK HF LW E aj aJ aM;refine zi ?_;intro aX w6 aC aT aU;obtain ⟨aU,HF,E,aj⟩:=aZ HF LW E aj aT aU;refine vk ?_;rintro e w7 ⟨rfl,hb⟩;refine ⟨_,rfl,?_⟩;have Ec:=Ext.of_below hb No;replace aC:=aC.av Ec ah.nil;replace E:=E.trans Ec.no;refine vt ?_;rintro e w8 ⟨rfl,hb⟩;refine ⟨_,rfl,?_⟩;have Ec:=Ext.of_below hb No;replace aC:=aC.av Ec ah.nil;replace E:=E.trans Ec.no;refine nG ?_;refine za rfl (zb um rfl ((kl _ ua A1 B1 c1 d1 false na).mono ?_));rintro e w9 ⟨rfl,hb⟩;refine ⟨_,rfl,?_⟩;have Ec:=Ext.of_below hb No;replace aC:=aC.av Ec ah.nil;replace E:=E.trans Ec.no;refine gf ?_;refine C8 ?_;exact Ub
theorem aq7 (ga:ua.good=true) (gb:ub.good=true) (ka:ua.k≠4) (na:qd ua.k=false)  :Calls prog 7 #[.int .i64 1,aP ua A1 c1 B1 d1,aP ub A2 c2 B2 d2] w (vg w (vZ,9)):=by
 have _:=hx;have _:=hl;have _:=ha;have _:=hy;have _:=hl';have _:=hb0;have _:=hD;have _:=aG;have _:=hE;obtain ⟨te,pe,hE⟩:=hE;refine zc func7 rfl ntmps7 rfl ?_;obtain ⟨HF,LW,aj,E⟩:=bg w;replace HF:=HF.and (Per.ay hx);replace HF:=HF.and (Per.ay hy);replace HF:=HF.and (Per.tabs aG (fun _ h=>h.elim));replace HF:=HF.and (Per.aR hE (fun _ h=>h.elim));refine zf ?_;intro aO w2 aD aI aW;obtain ⟨HF,LW,E⟩:=aK HF LW E aj aD aI;refine za rfl (zn rfl ?_);intro bM w4 aJ aM bN;obtain ⟨HF,LW,E⟩:=aK HF LW E aj aJ aM;refine zi ?_;intro aX w6 aC aT aU;obtain ⟨aU,HF,E,aj⟩:=aZ HF LW E aj aT aU;refine vk ?_;rintro e w7 ⟨rfl,hb⟩;refine ⟨_,rfl,?_⟩;have Ec:=Ext.of_below hb No;replace aC:=aC.av Ec ah.nil;replace E:=E.trans Ec.no;refine vt ?_;rintro e w8 ⟨rfl,hb⟩;refine ⟨_,rfl,?_⟩;have Ec:=Ext.of_below hb No;replace aC:=aC.av Ec ah.nil;replace E:=E.trans Ec.no;refine zhv ?_;rintro e w9 ⟨rfl,hb⟩;refine ⟨_,rfl,?_⟩;have Ec:=Ext.of_below hb No;replace aC:=aC.av Ec ah.nil;replace E:=E.trans Ec.no;refine Dt ?_;refine zd 45 (.bool false) rfl (by simp[ka]) (qrz ?_);refine qrq ?_;exact Ub
theorem aq8 (ga:ua.good=true) (gb:ub.good=true) (ka:ua.k=4) (kb:ub.k=4) (na:qd ua.k=false)  :Calls prog 7 #[.int .i64 3,aP ua A1 c1 B1 d1,aP ub A2 c2 B2 d2] w (vg w (vZ,9)):=by
 have _:=hx;have _:=hl;have _:=ha;have _:=hy;have _:=hl';have _:=hb0;have _:=hD;have _:=aG;have _:=hE;obtain ⟨te,pe,hE⟩:=hE;have n1:ub.k≠1:=om;have n2:ub.k≠2:=om;have m1:ua.k≠1:=om;have m2:ua.k≠2:=om;refine zc func7 rfl ntmps7 rfl ?_;obtain ⟨HF,LW,aj,E⟩:=bg w;replace HF:=HF.and (Per.ay hx);replace HF:=HF.and (Per.ay hy);replace HF:=HF.and (Per.tabs aG (fun _ h=>h.elim));replace HF:=HF.and (Per.aR hE (fun _ h=>h.elim));refine zf ?_;intro aO w2 aD aI aW;obtain ⟨HF,LW,E⟩:=aK HF LW E aj aD aI;refine za rfl (zn rfl ?_);intro bM w4 aJ aM bN;obtain ⟨HF,LW,E⟩:=aK HF LW E aj aJ aM;refine zi ?_;intro aX w6 aC aT aU;obtain ⟨aU,HF,E,aj⟩:=aZ HF LW E aj aT aU;refine vk ?_;rintro e w7 ⟨rfl,hb⟩;refine ⟨_,rfl,?_⟩;have Ec:=Ext.of_below hb No;replace aC:=aC.av Ec ah.nil;replace E:=E.trans Ec.no;refine vt ?_;rintro e w8 ⟨rfl,hb⟩;refine ⟨_,rfl,?_⟩;have Ec:=Ext.of_below hb No;replace aC:=aC.av Ec ah.nil;replace E:=E.trans Ec.no;refine zhv ?_;rintro e w9 ⟨rfl,hb⟩;refine ⟨_,rfl,?_⟩;have Ec:=Ext.of_below hb No;replace aC:=aC.av Ec ah.nil;replace E:=E.trans Ec.no;refine C9 ?_;exact ag3
theorem aq9 (ga:ua.good=true) (gb:ub.good=true) (ka:ua.k=4) (kb:ub.k≠4) (n1:ub.k≠1) (n2:ub.k≠2) (na:qd ua.k=false)  :Calls prog 7 #[.int .i64 3,aP ua A1 c1 B1 d1,aP ub A2 c2 B2 d2] w (vg w (vZ,9)):=by
 have _:=hx;have _:=hl;have _:=ha;have _:=hy;have _:=hl';have _:=hb0;have _:=hD;have _:=aG;have _:=hE;obtain ⟨te,pe,hE⟩:=hE;refine zc func7 rfl ntmps7 rfl ?_;obtain ⟨HF,LW,aj,E⟩:=bg w;replace HF:=HF.and (Per.ay hx);replace HF:=HF.and (Per.ay hy);replace HF:=HF.and (Per.tabs aG (fun _ h=>h.elim));replace HF:=HF.and (Per.aR hE (fun _ h=>h.elim));refine zf ?_;intro aO w2 aD aI aW;obtain ⟨HF,LW,E⟩:=aK HF LW E aj aD aI;refine za rfl (zn rfl ?_);intro bM w4 aJ aM bN;obtain ⟨HF,LW,E⟩:=aK HF LW E aj aJ aM;refine zi ?_;intro aX w6 aC aT aU;obtain ⟨aU,HF,E,aj⟩:=aZ HF LW E aj aT aU;refine vk ?_;rintro e w7 ⟨rfl,hb⟩;refine ⟨_,rfl,?_⟩;have Ec:=Ext.of_below hb No;replace aC:=aC.av Ec ah.nil;replace E:=E.trans Ec.no;refine vt ?_;rintro e w8 ⟨rfl,hb⟩;refine ⟨_,rfl,?_⟩;have Ec:=Ext.of_below hb No;replace aC:=aC.av Ec ah.nil;replace E:=E.trans Ec.no;refine zhv ?_;rintro e w9 ⟨rfl,hb⟩;refine ⟨_,rfl,?_⟩;have Ec:=Ext.of_below hb No;replace aC:=aC.av Ec ah.nil;replace E:=E.trans Ec.no;refine C9 ?_;exact Ua
theorem aqz (ga:ua.good=true) (gb:ub.good=true) (ka:ua.k≠4) (kb:ub.k=4) (m1:ua.k≠1) (m2:ua.k≠2) (na:qd ua.k=false)  :Calls prog 7 #[.int .i64 3,aP ua A1 c1 B1 d1,aP ub A2 c2 B2 d2] w (vg w (vZ,9)):=by
 have _:=hx;have _:=hl;have _:=ha;have _:=hy;have _:=hl';have _:=hb0;have _:=hD;have _:=aG;have _:=hE;obtain ⟨te,pe,hE⟩:=hE;refine zc func7 rfl ntmps7 rfl ?_;obtain ⟨HF,LW,aj,E⟩:=bg w;replace HF:=HF.and (Per.ay hx);replace HF:=HF.and (Per.ay hy);replace HF:=HF.and (Per.tabs aG (fun _ h=>h.elim));replace HF:=HF.and (Per.aR hE (fun _ h=>h.elim));refine zf ?_;intro aO w2 aD aI aW;obtain ⟨HF,LW,E⟩:=aK HF LW E aj aD aI;refine za rfl (zn rfl ?_);intro bM w4 aJ aM bN;obtain ⟨HF,LW,E⟩:=aK HF LW E aj aJ aM;refine zi ?_;intro aX w6 aC aT aU;obtain ⟨aU,HF,E,aj⟩:=aZ HF LW E aj aT aU;refine vk ?_;rintro e w7 ⟨rfl,hb⟩;refine ⟨_,rfl,?_⟩;have Ec:=Ext.of_below hb No;replace aC:=aC.av Ec ah.nil;replace E:=E.trans Ec.no;refine vt ?_;rintro e w8 ⟨rfl,hb⟩;refine ⟨_,rfl,?_⟩;have Ec:=Ext.of_below hb No;replace aC:=aC.av Ec ah.nil;replace E:=E.trans Ec.no;refine zhv ?_;rintro e w9 ⟨rfl,hb⟩;refine ⟨_,rfl,?_⟩;have Ec:=Ext.of_below hb No;replace aC:=aC.av Ec ah.nil;replace E:=E.trans Ec.no;refine qB ?_;refine yyq ?_;exact ag3
theorem Zb (ga:ua.good=true) (gb:ub.good=true) (ka:ua.k≠4) (kb:ub.k≠4) (na:qd ua.k=false)  :Calls prog 7 #[.int .i64 3,aP ua A1 c1 B1 d1,aP ub A2 c2 B2 d2] w (vg w (vZ,9)):=by
 have _:=hx;have _:=hl;have _:=ha;have _:=hy;have _:=hl';have _:=hb0;have _:=hD;have _:=aG;have _:=hE;obtain ⟨te,pe,hE⟩:=hE;refine zc func7 rfl ntmps7 rfl ?_;obtain ⟨HF,LW,aj,E⟩:=bg w;replace HF:=HF.and (Per.ay hx);replace HF:=HF.and (Per.ay hy);replace HF:=HF.and (Per.tabs aG (fun _ h=>h.elim));replace HF:=HF.and (Per.aR hE (fun _ h=>h.elim));refine zf ?_;intro aO w2 aD aI aW;obtain ⟨HF,LW,E⟩:=aK HF LW E aj aD aI;refine za rfl (zn rfl ?_);intro bM w4 aJ aM bN;obtain ⟨HF,LW,E⟩:=aK HF LW E aj aJ aM;refine zi ?_;intro aX w6 aC aT aU;obtain ⟨aU,HF,E,aj⟩:=aZ HF LW E aj aT aU;refine vk ?_;rintro e w7 ⟨rfl,hb⟩;refine ⟨_,rfl,?_⟩;have Ec:=Ext.of_below hb No;replace aC:=aC.av Ec ah.nil;replace E:=E.trans Ec.no;refine vt ?_;rintro e w8 ⟨rfl,hb⟩;refine ⟨_,rfl,?_⟩;have Ec:=Ext.of_below hb No;replace aC:=aC.av Ec ah.nil;replace E:=E.trans Ec.no;refine zhv ?_;rintro e w9 ⟨rfl,hb⟩;refine ⟨_,rfl,?_⟩;have Ec:=Ext.of_below hb No;replace aC:=aC.av Ec ah.nil;replace E:=E.trans Ec.no;refine qB ?_;refine yyq ?_;exact Ua
theorem aqx (op:Int) (ga:ua.good=true) (gb:ub.good=true) (h:1≤op∧op≤7) (h1:op≠1) (h3:op≠3) (na:qd ua.k=true) (nb:qd ub.k=false)  :Calls prog 7 #[.int .i64 op,aP ua A1 c1 B1 d1,aP ub A2 c2 B2 d2] w (vg w (vZ,9)):=by
 have _:=hx;have _:=hl;have _:=ha;have _:=hy;have _:=hl';have _:=hb0;have _:=hD;have _:=aG;have _:=hE;obtain ⟨te,pe,hE⟩:=hE;refine zc func7 rfl ntmps7 rfl ?_;obtain ⟨HF,LW,aj,E⟩:=bg w;replace HF:=HF.and (Per.ay hx);replace HF:=HF.and (Per.ay hy);replace HF:=HF.and (Per.tabs aG (fun _ h=>h.elim));replace HF:=HF.and (Per.aR hE (fun _ h=>h.elim));refine zf ?_;intro aO w2 aD aI aW;obtain ⟨HF,LW,E⟩:=aK HF LW E aj aD aI;refine za rfl (zn rfl ?_);intro bM w4 aJ aM bN;obtain ⟨HF,LW,E⟩:=aK HF LW E aj aJ aM;refine zi ?_;intro aX w6 aC aT aU;obtain ⟨aU,HF,E,aj⟩:=aZ HF LW E aj aT aU;refine vk ?_;rintro e w7 ⟨rfl,hb⟩;refine ⟨_,rfl,?_⟩;have Ec:=Ext.of_below hb No;replace aC:=aC.av Ec ah.nil;replace E:=E.trans Ec.no;refine vt ?_;rintro e w8 ⟨rfl,hb⟩;refine ⟨_,rfl,?_⟩;have Ec:=Ext.of_below hb No;replace aC:=aC.av Ec ah.nil;replace E:=E.trans Ec.no;refine nG ?_;refine ygz ?_;rintro e w9 ⟨rfl,hb⟩;refine ⟨_,rfl,?_⟩;have Ec:=Ext.of_below hb No;replace aC:=aC.av Ec ah.nil;replace E:=E.trans Ec.no;refine yzv ?_;rintro e dI ⟨rfl,hb⟩;refine ⟨_,rfl,?_⟩;have Ec:=Ext.of_below hb No;replace aC:=aC.av Ec ah.nil;replace E:=E.trans Ec.no;refine zy ?_;refine C8 ?_;exact Jr
theorem aqj (ga:ua.good=true) (gb:ub.good=true) (ka:ua.k≠4) (na:qd ua.k=true) (nb:qd ub.k=false)  :Calls prog 7 #[.int .i64 1,aP ua A1 c1 B1 d1,aP ub A2 c2 B2 d2] w (vg w (vZ,9)):=by
 have _:=hx;have _:=hl;have _:=ha;have _:=hy;have _:=hl';have _:=hb0;have _:=hD;have _:=aG;have _:=hE;obtain ⟨te,pe,hE⟩:=hE;refine zc func7 rfl ntmps7 rfl ?_;obtain ⟨HF,LW,aj,E⟩:=bg w;replace HF:=HF.and (Per.ay hx);replace HF:=HF.and (Per.ay hy);replace HF:=HF.and (Per.tabs aG (fun _ h=>h.elim));replace HF:=HF.and (Per.aR hE (fun _ h=>h.elim));refine zf ?_;intro aO w2 aD aI aW;obtain ⟨HF,LW,E⟩:=aK HF LW E aj aD aI;refine za rfl (zn rfl ?_);intro bM w4 aJ aM bN;obtain ⟨HF,LW,E⟩:=aK HF LW E aj aJ aM;refine zi ?_;intro aX w6 aC aT aU;obtain ⟨aU,HF,E,aj⟩:=aZ HF LW E aj aT aU;refine vk ?_;rintro e w7 ⟨rfl,hb⟩;refine ⟨_,rfl,?_⟩;have Ec:=Ext.of_below hb No;replace aC:=aC.av Ec ah.nil;replace E:=E.trans Ec.no;refine vt ?_;rintro e w8 ⟨rfl,hb⟩;refine ⟨_,rfl,?_⟩;have Ec:=Ext.of_below hb No;replace aC:=aC.av Ec ah.nil;replace E:=E.trans Ec.no;refine MX ?_;refine ygz ?_;rintro e w9 ⟨rfl,hb⟩;refine ⟨_,rfl,?_⟩;have Ec:=Ext.of_below hb No;replace aC:=aC.av Ec ah.nil;replace E:=E.trans Ec.no;refine yzv ?_;rintro e dI ⟨rfl,hb⟩;refine ⟨_,rfl,?_⟩;have Ec:=Ext.of_below hb No;replace aC:=aC.av Ec ah.nil;replace E:=E.trans Ec.no;refine xd ?_;refine zd 45 (.bool false) rfl (by simp[ka]) (qrz ?_);refine qrq ?_;exact Jr
theorem ar0 (ga:ua.good=true) (gb:ub.good=true) (ka:ua.k=3) (kb:ub.k=4) (na:qd ua.k=true) (nb:qd ub.k=false)  :Calls prog 7 #[.int .i64 3,aP ua A1 c1 B1 d1,aP ub A2 c2 B2 d2] w (vg w (vZ,9)):=by
 have _:=hx;have _:=hl;have _:=ha;have _:=hy;have _:=hl';have _:=hb0;have _:=hD;have _:=aG;have _:=hE;obtain ⟨te,pe,hE⟩:=hE;have m1:ua.k≠1:=om;have m2:ua.k≠2:=om;refine zc func7 rfl ntmps7 rfl ?_;obtain ⟨HF,LW,aj,E⟩:=bg w;replace HF:=HF.and (Per.ay hx);replace HF:=HF.and (Per.ay hy);replace HF:=HF.and (Per.tabs aG (fun _ h=>h.elim));replace HF:=HF.and (Per.aR hE (fun _ h=>h.elim));refine zf ?_;intro aO w2 aD aI aW;obtain ⟨HF,LW,E⟩:=aK HF LW E aj aD aI;refine za rfl (zn rfl ?_);intro bM w4 aJ aM bN;obtain ⟨HF,LW,E⟩:=aK HF LW E aj aJ aM;refine zi ?_;intro aX w6 aC aT aU;obtain ⟨aU,HF,E,aj⟩:=aZ HF LW E aj aT aU;refine vk ?_;rintro e w7 ⟨rfl,hb⟩;refine ⟨_,rfl,?_⟩;have Ec:=Ext.of_below hb No;replace aC:=aC.av Ec ah.nil;replace E:=E.trans Ec.no;refine vt ?_;rintro e w8 ⟨rfl,hb⟩;refine ⟨_,rfl,?_⟩;have Ec:=Ext.of_below hb No;replace aC:=aC.av Ec ah.nil;replace E:=E.trans Ec.no;refine MX ?_;refine ygz ?_;rintro e w9 ⟨rfl,hb⟩;refine ⟨_,rfl,?_⟩;have Ec:=Ext.of_below hb No;replace aC:=aC.av Ec ah.nil;replace E:=E.trans Ec.no;refine yzv ?_;rintro e dI ⟨rfl,hb⟩;refine ⟨_,rfl,?_⟩;have Ec:=Ext.of_below hb No;replace aC:=aC.av Ec ah.nil;replace E:=E.trans Ec.no;refine OL ?_;refine yyq ?_;refine zd 98 (.bool true) rfl (by simp[kb]) (ye ?_);refine zd 102 (.bool false) rfl (by simp[m1]) (yu ?_);refine ze 90 (.bool false) rfl (by simp[m2]) (zt ?_);exact Jr
theorem Zc (ga:ua.good=true) (gb:ub.good=true) (ka:ua.k≠4) (kb:ub.k≠4) (na:qd ua.k=true) (nb:qd ub.k=false)  :Calls prog 7 #[.int .i64 3,aP ua A1 c1 B1 d1,aP ub A2 c2 B2 d2] w (vg w (vZ,9)):=by
 have _:=hx;have _:=hl;have _:=ha;have _:=hy;have _:=hl';have _:=hb0;have _:=hD;have _:=aG;have _:=hE;obtain ⟨te,pe,hE⟩:=hE;refine zc func7 rfl ntmps7 rfl ?_;obtain ⟨HF,LW,aj,E⟩:=bg w;replace HF:=HF.and (Per.ay hx);replace HF:=HF.and (Per.ay hy);replace HF:=HF.and (Per.tabs aG (fun _ h=>h.elim));replace HF:=HF.and (Per.aR hE (fun _ h=>h.elim));refine zf ?_;intro aO w2 aD aI aW;obtain ⟨HF,LW,E⟩:=aK HF LW E aj aD aI;refine za rfl (zn rfl ?_);intro bM w4 aJ aM bN;obtain ⟨HF,LW,E⟩:=aK HF LW E aj aJ aM;refine zi ?_;intro aX w6 aC aT aU;obtain ⟨aU,HF,E,aj⟩:=aZ HF LW E aj aT aU;refine vk ?_;rintro e w7 ⟨rfl,hb⟩;refine ⟨_,rfl,?_⟩;have Ec:=Ext.of_below hb No;replace aC:=aC.av Ec ah.nil;replace E:=E.trans Ec.no;refine vt ?_;rintro e w8 ⟨rfl,hb⟩;refine ⟨_,rfl,?_⟩;have Ec:=Ext.of_below hb No;replace aC:=aC.av Ec ah.nil;replace E:=E.trans Ec.no;refine MX ?_;refine ygz ?_;rintro e w9 ⟨rfl,hb⟩;refine ⟨_,rfl,?_⟩;have Ec:=Ext.of_below hb No;replace aC:=aC.av Ec ah.nil;replace E:=E.trans Ec.no;refine yzv ?_;rintro e dI ⟨rfl,hb⟩;refine ⟨_,rfl,?_⟩;have Ec:=Ext.of_below hb No;replace aC:=aC.av Ec ah.nil;replace E:=E.trans Ec.no;refine OL ?_;refine yyq ?_;refine zd 98 (.bool false) rfl (by simp[kb]) (Dt ?_);exact Jr
theorem aF8 (ga:ua.good=true) (gb:ub.good=true) (ka:ua.k=4) (kb:ub.k≠4) (na:qd ua.k=false)  :Calls prog 7 #[.int .i64 1,aP ua A1 c1 B1 d1,aP ub A2 c2 B2 d2] w (vg w (vZ,9)):=by
 have _:=hx;have _:=hl;have _:=ha;have _:=hy;have _:=hl';have _:=hb0;have _:=hD;have _:=aG;have _:=hE;obtain ⟨te,pe,hE⟩:=hE;refine zc func7 rfl ntmps7 rfl ?_;obtain ⟨HF,LW,aj,E⟩:=bg w;replace HF:=HF.and (Per.ay hx);replace HF:=HF.and (Per.ay hy);replace HF:=HF.and (Per.tabs aG (fun _ h=>h.elim));replace HF:=HF.and (Per.aR hE (fun _ h=>h.elim));refine zf ?_;intro aO w2 aD aI aW;obtain ⟨HF,LW,E⟩:=aK HF LW E aj aD aI;refine za rfl (zn rfl ?_);intro bM w4 aJ aM bN;obtain ⟨HF,LW,E⟩:=aK HF LW E aj aJ aM;refine zi ?_;intro aX w6 aC aT aU;obtain ⟨aU,HF,E,aj⟩:=aZ HF LW E aj aT aU;refine vk ?_;rintro e w7 ⟨rfl,hb⟩;refine ⟨_,rfl,?_⟩;have Ec:=Ext.of_below hb No;replace aC:=aC.av Ec ah.nil;replace E:=E.trans Ec.no;refine vt ?_;rintro e w8 ⟨rfl,hb⟩;refine ⟨_,rfl,?_⟩;have Ec:=Ext.of_below hb No;replace aC:=aC.av Ec ah.nil;replace E:=E.trans Ec.no;refine zhv ?_;rintro e w9 ⟨rfl,hb⟩;refine ⟨_,rfl,?_⟩;have Ec:=Ext.of_below hb No;replace aC:=aC.av Ec ah.nil;replace E:=E.trans Ec.no;refine Dt ?_;refine zd 45 (.bool true) rfl (by simp[ka]) (zr ?_);refine ze 37 (.bool false) rfl (by simp[kb]) (qrz ?_);refine jm ?_;exact Ub
theorem jt (op:Int) (hW:WhC op) (MJ:(ua.k=3∨ub.k=3∨op=4)→TT op) (p:PV×Int) (hp:p=vf op ua ub):Calls prog 7 #[.int .i64 op,aP ua A1 c1 B1 d1,aP ub A2 c2 B2 d2] w (vg w p):=by
 subst hp;unfold vf;cases ga:ua.good
 · exact YX w ua ub A1 B1 A2 B2 c1 d1 c2 d2 hx hl ha hy hl' hb0 hD aG hE op ga
 cases gb:ub.good
 · exact YZ w ua ub A1 B1 A2 B2 c1 d1 c2 d2 hx hl ha hy hl' hb0 hD aG hE op ga gb
 rw[if_pos (show (true&&true)=true from rfl)];by_cases h:op<1∨7<op
 · rw[if_pos h];rcases h with h | h
   · exact aq3 w ua ub A1 B1 A2 B2 c1 d1 c2 d2 hx hl ha hy hl' hb0 hD aG hE op ga gb h
   · exact aq4 w ua ub A1 B1 A2 B2 c1 d1 c2 d2 hx hl ha hy hl' hb0 hD aG hE op ga gb h
 rw[if_neg h];have h7:1≤op∧op≤7:=om;have no:∀(hna:qd ua.k=false∨(qd ua.k=true∧qd ub.k=false)),Calls prog 7 #[.int .i64 op,aP ua A1 c1 B1 d1,aP ub A2 c2 B2 d2] w (vg w (if op=1∧ua.k=4∧ub.k=4 then (if 20000<ua.s.size+ub.s.size then (vZ,2) else (vT (ua.s++ub.s),0)) else if op=3∧ua.k=4∧(ub.k=1∨ub.k=2) then gQ ua.s (qu ub) else if op=3∧ub.k=4∧(ua.k=1∨ua.k=2) then gQ ub.s (qu ua) else (vZ,9))):=by
  intro hna;by_cases h1:op=1
  · subst h1;by_cases ka:ua.k=4
    · have na:qd ua.k=false:=by rw[ka];rfl
      by_cases kb:ub.k=4
      · rw[if_pos ⟨rfl,ka,kb⟩];by_cases hc:20000<ua.s.size+ub.s.size
        · rw[if_pos hc];exact Y0 w ua ub A1 B1 A2 B2 c1 d1 c2 d2 hx hl ha hy hl' hb0 hD aG hE ga gb ka kb hc
        · rw[if_neg hc];exact Za w ua ub A1 B1 A2 B2 c1 d1 c2 d2 hx hl ha hy hl' hb0 hD aG hE ga gb ka kb hc
      · rw[if_neg (fun q=>kb q.2.2),if_neg (fun q=>absurd q.1 de),if_neg (fun q=>absurd q.1 de)];exact aF8 w ua ub A1 B1 A2 B2 c1 d1 c2 d2 hx hl ha hy hl' hb0 hD aG hE ga gb ka kb na
    · rw[if_neg (fun q=>ka q.2.1),if_neg (fun q=>absurd q.1 de),if_neg (fun q=>absurd q.1 de)];rcases hna with na | ⟨na,nb⟩
      · exact aq7 w ua ub A1 B1 A2 B2 c1 d1 c2 d2 hx hl ha hy hl' hb0 hD aG hE ga gb ka na
      · exact aqj w ua ub A1 B1 A2 B2 c1 d1 c2 d2 hx hl ha hy hl' hb0 hD aG hE ga gb ka na nb
  rw[if_neg (fun q=>h1 q.1)];by_cases h3:op=3
  · subst h3;by_cases ka:ua.k=4
    · have na:qd ua.k=false:=by rw[ka];rfl
      by_cases kb:ub.k=1∨ub.k=2
      · rw[if_pos ⟨rfl,ka,kb⟩];rcases kb with kc | kc
        · exact Ud w ua ub A1 B1 A2 B2 c1 d1 c2 d2 hx hl ha hy hl' hb0 hD aG hE ga gb ka (Or.inl kc) kc _ rfl
        · exact Uf w ua ub A1 B1 A2 B2 c1 d1 c2 d2 hx hl ha hy hl' hb0 hD aG hE ga gb ka (Or.inr kc) kc _ rfl
      · rw[if_neg (fun q=>kb q.2.2),if_neg (fun q=>by have:=q.2.2;omega)];by_cases k4:ub.k=4
        · exact aq8 w ua ub A1 B1 A2 B2 c1 d1 c2 d2 hx hl ha hy hl' hb0 hD aG hE ga gb ka k4 na
        · exact aq9 w ua ub A1 B1 A2 B2 c1 d1 c2 d2 hx hl ha hy hl' hb0 hD aG hE ga gb ka k4 (fun e=>kb (Or.inl e)) (fun e=>kb (Or.inr e)) na
    · rw[if_neg (fun q=>ka q.2.1)];by_cases kb:ub.k=4
      · by_cases kc:ua.k=1∨ua.k=2
        · rw[if_pos ⟨rfl,kb,kc⟩];rcases kc with kc | kc
          · exact Ue w ua ub A1 B1 A2 B2 c1 d1 c2 d2 hx hl ha hy hl' hb0 hD aG hE ga gb kb (Or.inl kc) kc _ rfl
          · exact Ug w ua ub A1 B1 A2 B2 c1 d1 c2 d2 hx hl ha hy hl' hb0 hD aG hE ga gb kb (Or.inr kc) kc _ rfl
        · rw[if_neg (fun q=>kc q.2.2)];rcases hna with na | ⟨na,nb⟩
          · exact aqz w ua ub A1 B1 A2 B2 c1 d1 c2 d2 hx hl ha hy hl' hb0 hD aG hE ga gb ka kb (fun e=>kc (Or.inl e)) (fun e=>kc (Or.inr e)) na
          · exact ar0 w ua ub A1 B1 A2 B2 c1 d1 c2 d2 hx hl ha hy hl' hb0 hD aG hE ga gb (by have:=QY na;omega) kb na nb
      · rw[if_neg (fun q=>kb q.2.1)];rcases hna with na | ⟨na,nb⟩
        · exact Zb w ua ub A1 B1 A2 B2 c1 d1 c2 d2 hx hl ha hy hl' hb0 hD aG hE ga gb ka kb na
        · exact Zc w ua ub A1 B1 A2 B2 c1 d1 c2 d2 hx hl ha hy hl' hb0 hD aG hE ga gb ka kb na nb
  rw[if_neg (fun q=>h3 q.1),if_neg (fun q=>h3 q.1)];rcases hna with na | ⟨na,nb⟩
  · exact aq6 w ua ub A1 B1 A2 B2 c1 d1 c2 d2 hx hl ha hy hl' hb0 hD aG hE op ga gb h7 h1 h3 na
  · exact aqx w ua ub A1 B1 A2 B2 c1 d1 c2 d2 hx hl ha hy hl' hb0 hD aG hE op ga gb h7 h1 h3 na nb
 cases na:qd ua.k
 · rw[if_neg (show ¬(false&&qd ub.k)=true by rw[Bool.false_and];decide)];exact no (Or.inl na)
 cases nb:qd ub.k
 · rw[if_neg de];exact no (Or.inr ⟨na,nb⟩)
 rw[if_pos (show (true&&true)=true from rfl)];exact aq5 w ua ub A1 B1 A2 B2 c1 d1 c2 d2 hx hl ha hy hl' hb0 hD aG hE op ga gb h7 na nb hW MJ _ rfl
end
end Go.Proofs.YtmnmebdmpigddaaGreatDoor
namespace Go.Proofs.YtmnmebdmpigddaaGreatDoor
open Go.RowKit Proofs.Tryz
theorem Da {P Q:Prop} (k:Q) (h:(Unit→Q)→P:=by
 intro zK;refine Db ?_;refine yu ?_;refine za rfl (zb ai3 rfl ((U2 _ (HF.on E).here.1.1.1.2 (HF.on E).here.1.1.2).mono ?_));exact zK ()):P:=h fun _=>k
theorem yxz {P Q:Prop} (k:Q) (h:(Unit→Q)→P:=by
 intro zK;refine zp (zo kz rfl rfl aC rfl rfl rfl ?_);exact zK ()):P:=h fun _=>k
theorem yxq {P Q:Prop} (k:Q) (h:(Unit→Q)→P:=by
 intro zK;refine zp (zo kz rfl rfl bJ rfl rfl rfl ?_);exact zK ()):P:=h fun _=>k
theorem yxk {P Q:Prop} (k:Q) (h:(Unit→Q)→P:=by
 intro zK;refine zp (zo kz rfl rfl bG rfl rfl rfl ?_);exact zK ()):P:=h fun _=>k
theorem Dc {P Q:Prop} (k:Q) (h:(Unit→Q)→P:=by
 intro zK;refine Db ?_;refine yu ?_;refine za rfl (zb ai3 rfl ((zM A B c d (limbs i) (limbs j) w6 (decide (i<0)) (decide (j<0)) (HF.on E).here.1.1.1.2 (HF.on E).here.1.1.2 gi gj h0).mono ?_));exact zK ()):P:=h fun _=>k
theorem Db {P Q:Prop} (k:Q) (h:(Unit→Q)→P:=by
 intro zK;refine qA ?_;refine ze 12 (.bool false) rfl (by simp[h1]) (zr ?_);refine ze 19 (.bool false) rfl (by simp[h2]) (zr ?_);refine ze 26 (.bool false) rfl (by simp[h3]) (zr ?_);refine ze 33 (.bool false) rfl (by simp[h7]) ?_;exact zK ()):P:=h fun _=>k
theorem Uh {P:Prop} (h:P:=by
 replace E:=E.step1 aT ak.head;refine zt ?_;exact ⟨A3,c3,rfl,((HF.on E).here.1.1.1.2).mono S3,(LW.step E aj).toBelow⟩):P:=h
theorem ag4 {P:Prop} (h:P:=by
 replace E:=E.step1 aT ak.head;obtain ⟨HF,LW,aj,E⟩:=dz HF LW E aj (Y:=No) (ak.skip ak.aV) (Per.aS aC ah.nil);refine zv ?_;exact ⟨A4,c4,rfl,((HF.on E).here.1.1.1.2).mono S3,(LW.step E aj).toBelow⟩):P:=h
theorem Ui {P:Prop} (h:P:=by
 rintro e w7 ⟨A3,c3,rfl,o3,hb⟩;refine ⟨_,rfl,?_⟩;have XC:∀q9,(ak [(some aX)]) q9→q9<w6.heap.size:=(ak.grow ak.none_ (zg aC.lt));have SC:=Nat.le_trans LW.size E.size;have Ec:=Ext.of_below hb No;replace aC:=aC.av Ec ah.nil;replace E:=E.trans Ec.no;have S3:=SC;obtain ⟨HF,LW,E⟩:=cZ HF LW E aj (Per.bP o3 XC);refine zu ?_;refine zp (zo kz rfl rfl aC rfl rfl rfl ?_);intro w8 Bx aT;replace aC:aB w8 aX 24 #[.bool (decide (V<0)),.slice A3 (limbs V).length c3]:=Bx;replace E:=E.step1 aT ak.head;refine zr ?_;exact ⟨A3,c3,rfl,((HF.on E).here.2).mono S3,(LW.step E aj).toBelow⟩):P:=h
attribute [local irreducible] OW RS CW EW
section
variable (w:World) (A B:Option Addr) (c d:Nat) (i j:Int) (hi:i.natAbs<au^30) (hj:j.natAbs<au^30) (hx:aA w A (limbs i)) (hy:aA w B (limbs j))
include hi hj hx hy
theorem ar1  :Calls prog 67 #[.int .i64 1,.agg #[.bool (decide (i<0)),.slice A (limbs i).length c],.agg #[.bool (decide (j<0)),.slice B (limbs j).length d]] w (zx w (bX true (i+j)) (bZ true (i+j))):=by
 have _:=hx;have _:=hy;have _:=hi;have _:=hj;have li:=zk hi;have lj:=zk hj;obtain ⟨gi,ni⟩:=jy hi;obtain ⟨gj,nj⟩:=jy hj;obtain ⟨V,hV⟩:∃V,V=bX true (i+j):=⟨_,rfl⟩;obtain ⟨f,hf⟩:∃f,f=bZ true (i+j):=⟨_,rfl⟩;rw[←hV,←hf];refine zc func67 rfl ntmps67 rfl ?_;obtain ⟨HF,LW,aj,E⟩:=bg w;replace HF:=HF.and (Per.ay hx);replace HF:=HF.and (Per.ay hy);refine zf ?_;intro aO w2 aD aI aW;obtain ⟨HF,LW,E⟩:=aK HF LW E aj aD aI;refine za rfl (zn rfl ?_);intro bM w4 aJ aM bN;obtain ⟨HF,LW,E⟩:=aK HF LW E aj aJ aM;refine yn ?_;intro aX w6 aC aT aU;obtain ⟨aU,HF,E,aj⟩:=aZ HF LW E aj aT aU;refine jL ?_;have hc:=uM A B c d (limbs i) (limbs j) w6 (decide (i<0)) (decide (j<0)) (HF.on E).here.1.1.1.2 (HF.on E).here.1.1.2 om om;rw[gi,gj,ni,nj,Bool.and_true,←hV,←hf] at hc;refine za rfl (zb aa0 rfl ((hc).mono ?_));exact Ui
theorem ar2  :Calls prog 67 #[.int .i64 2,.agg #[.bool (decide (i<0)),.slice A (limbs i).length c],.agg #[.bool (decide (j<0)),.slice B (limbs j).length d]] w (zx w (bX true (i-j)) (bZ true (i-j))):=by
 have _:=hx;have _:=hy;have _:=hi;have _:=hj;have li:=zk hi;have lj:=zk hj;obtain ⟨gi,ni⟩:=jy hi;obtain ⟨gj,nj⟩:=jy hj;obtain ⟨V,hV⟩:∃V,V=bX true (i-j):=⟨_,rfl⟩;obtain ⟨f,hf⟩:∃f,f=bZ true (i-j):=⟨_,rfl⟩;rw[←hV,←hf];refine zc func67 rfl ntmps67 rfl ?_;obtain ⟨HF,LW,aj,E⟩:=bg w;replace HF:=HF.and (Per.ay hx);replace HF:=HF.and (Per.ay hy);refine zf ?_;intro aO w2 aD aI aW;obtain ⟨HF,LW,E⟩:=aK HF LW E aj aD aI;refine za rfl (zn rfl ?_);intro bM w4 aJ aM bN;obtain ⟨HF,LW,E⟩:=aK HF LW E aj aJ aM;refine yn ?_;intro aX w6 aC aT aU;obtain ⟨aU,HF,E,aj⟩:=aZ HF LW E aj aT aU;refine axq ?_;have hc:=Wn A B c d (limbs i) (limbs j) w6 (decide (i<0)) (decide (j<0)) (HF.on E).here.1.1.1.2 (HF.on E).here.1.1.2 om om;rw[gi,gj,ni,nj,Bool.and_true,←hV,←hf] at hc;refine za rfl (zb av6 rfl ((hc).mono ?_));exact Ui
theorem ar3  :Calls prog 67 #[.int .i64 3,.agg #[.bool (decide (i<0)),.slice A (limbs i).length c],.agg #[.bool (decide (j<0)),.slice B (limbs j).length d]] w (zx w (bX true (i*j)) (bZ true (i*j))):=by
 have _:=hx;have _:=hy;have _:=hi;have _:=hj;have li:=zk hi;have lj:=zk hj;obtain ⟨gi,ni⟩:=jy hi;obtain ⟨gj,nj⟩:=jy hj;obtain ⟨V,hV⟩:∃V,V=bX true (i*j):=⟨_,rfl⟩;obtain ⟨f,hf⟩:∃f,f=bZ true (i*j):=⟨_,rfl⟩;rw[←hV,←hf];refine zc func67 rfl ntmps67 rfl ?_;obtain ⟨HF,LW,aj,E⟩:=bg w;replace HF:=HF.and (Per.ay hx);replace HF:=HF.and (Per.ay hy);refine zf ?_;intro aO w2 aD aI aW;obtain ⟨HF,LW,E⟩:=aK HF LW E aj aD aI;refine za rfl (zn rfl ?_);intro bM w4 aJ aM bN;obtain ⟨HF,LW,E⟩:=aK HF LW E aj aJ aM;refine yn ?_;intro aX w6 aC aT aU;obtain ⟨aU,HF,E,aj⟩:=aZ HF LW E aj aT aU;refine axj ?_;have hc:=Hz (decide (i<0)) (decide (j<0)) A B c d (limbs i) (limbs j) w6 (HF.on E).here.1.1.1.2 (HF.on E).here.1.1.2 om om;rw[gi,gj,ni,nj,Bool.and_true,←hV,←hf] at hc;refine za rfl (zb ai2 rfl ((hc).mono ?_));exact Ui
theorem Uj (op:Int) (h1:op≠1) (h2:op≠2) (h3:op≠3) (h7:op≠7) (h5:op=5) (h:j=0):Calls prog 67 #[.int .i64 op,.agg #[.bool (decide (i<0)),.slice A (limbs i).length c],.agg #[.bool (decide (j<0)),.slice B (limbs j).length d]] w (zx w 0 6):=by
 have _:=hx;have _:=hy;have _:=hi;have _:=hj;have li:=zk hi;have lj:=zk hj;obtain ⟨gi,ni⟩:=jy hi;obtain ⟨gj,nj⟩:=jy hj;have _:=ni;have _:=nj;have _:=li;have _:=lj;have h0:(limbs j).length=0:=by rw[h,qj];rfl
 refine zc func67 rfl ntmps67 rfl ?_;obtain ⟨HF,LW,aj,E⟩:=bg w;replace HF:=HF.and (Per.ay hx);replace HF:=HF.and (Per.ay hy);refine zf ?_;intro aO w2 aD aI aW;obtain ⟨HF,LW,E⟩:=aK HF LW E aj aD aI;refine za rfl (zn rfl ?_);intro bM w4 aJ aM bN;obtain ⟨HF,LW,E⟩:=aK HF LW E aj aJ aM;refine yn ?_;intro aX w6 aC aT aU;obtain ⟨aU,HF,E,aj⟩:=aZ HF LW E aj aT aU;refine Dc ?_;rintro e w7 ⟨A3,c3,A4,c4,rfl,o3,o4,hb,_⟩;refine ⟨_,rfl,?_⟩;have XC:∀q9,(ak [(some aX)]) q9→q9<w6.heap.size:=(ak.grow ak.none_ (zg aC.lt));have SC:=Nat.le_trans LW.size E.size;have Ec:=Ext.of_below hb No;replace aC:=aC.av Ec ah.nil;replace E:=E.trans Ec.no;have S3:=SC;obtain ⟨HF,LW,E⟩:=cZ HF LW E aj (Per.bP o3 XC);obtain ⟨HF,LW,E⟩:=cZ HF LW E aj (Per.bP o4 XC);refine ye ?_;refine yn ?_;intro dB w9 bJ dN fO;have dn:Apart (some dB) (some aX):=Apart.of_lt (zg aC.lt) fO;have dX:=dn.symm;replace aC:=aC.av dN ah.nil;obtain ⟨fO,HF,E,aj⟩:=aZ HF LW E aj dN fO;refine yn ?_;intro bY dS bG bK dD;have dF:Apart (some bY) (some dB):=Apart.of_lt (zg bJ.lt) dD;have dY:=dF.symm;have bL:Apart (some bY) (some aX):=Apart.of_lt (zg aC.lt) dD;have cO:=bL.symm;replace bJ:=bJ.av bK ah.nil;replace aC:=aC.av bK ah.nil;obtain ⟨dD,HF,E,aj⟩:=aZ HF LW E aj bK dD;refine yxq ?_;intro eB Bx dN;replace bJ:aB eB dB 24 #[.bool (decide ((0:Int)<0)),.slice A3 (limbs (0:Int)).length c3]:=Bx;replace bG:=bG.av dN (ah.cons dF ah.nil);replace aC:=aC.av dN (ah.cons dX ah.nil);replace E:=E.step1 dN (ak.tail ak.head);obtain ⟨HF,LW,aj,E⟩:=dz HF LW E aj (Y:=ak [(some bY),(some aX)]) (ak.keep (ak.skip (ak.keep ak.aV))) (Per.aS bJ (ah.cons dY (ah.cons dn ah.nil)));refine yxk ?_;intro fK Bx bK;replace bG:aB fK bY 24 #[.bool (decide ((0:Int)<0)),.slice A4 (limbs (0:Int)).length c4]:=Bx;replace aC:=aC.av bK (ah.cons cO ah.nil);replace E:=E.step1 bK ak.head;obtain ⟨HF,LW,aj,E⟩:=dz HF LW E aj (Y:=ak [(some aX)]) (ak.skip (ak.keep ak.aV)) (Per.aS bG (ah.cons bL ah.nil));refine zy ?_;refine ze 48 (.bool true) rfl (by simp[h5]) (zv ?_);refine yxz ?_;intro dL Bx aT;replace aC:aB dL aX 24 #[.bool (decide ((0:Int)<0)),.slice A3 (limbs (0:Int)).length c3]:=Bx;exact Uh
theorem Zd (op:Int) (h1:op≠1) (h2:op≠2) (h3:op≠3) (h7:op≠7) (h5:op=5) (h:j≠0):Calls prog 67 #[.int .i64 op,.agg #[.bool (decide (i<0)),.slice A (limbs i).length c],.agg #[.bool (decide (j<0)),.slice B (limbs j).length d]] w (zx w (dq (decide (i<0)) (decide (j<0)) i.natAbs j.natAbs) 0):=by
 have _:=hx;have _:=hy;have _:=hi;have _:=hj;have li:=zk hi;have lj:=zk hj;obtain ⟨gi,ni⟩:=jy hi;obtain ⟨gj,nj⟩:=jy hj;have _:=ni;have _:=nj;have _:=li;have _:=lj;have h0:0<(limbs j).length:=oa h;have e1:val au (limbs i)=i.natAbs:=oz i;have e2:val au (limbs j)=j.natAbs:=oz j;obtain ⟨q,hq⟩:∃q,q=dq (decide (i<0)) (decide (j<0)) i.natAbs j.natAbs:=⟨_,rfl⟩;obtain ⟨r,hr⟩:∃r,r=dr (decide (i<0)) (decide (j<0)) i.natAbs j.natAbs:=⟨_,rfl⟩;have U2:=fun w hx hy=>qok A B c d (limbs i) (limbs j) w (decide (i<0)) (decide (j<0)) hx hy gi gj h0;rw[e1,e2,←hq,←hr] at U2;rw[←hq];refine zc func67 rfl ntmps67 rfl ?_;obtain ⟨HF,LW,aj,E⟩:=bg w;replace HF:=HF.and (Per.ay hx);replace HF:=HF.and (Per.ay hy);refine zf ?_;intro aO w2 aD aI aW;obtain ⟨HF,LW,E⟩:=aK HF LW E aj aD aI;refine za rfl (zn rfl ?_);intro bM w4 aJ aM bN;obtain ⟨HF,LW,E⟩:=aK HF LW E aj aJ aM;refine yn ?_;intro aX w6 aC aT aU;obtain ⟨aU,HF,E,aj⟩:=aZ HF LW E aj aT aU;refine Da ?_;rintro e w7 ⟨A3,c3,A4,c4,rfl,o3,o4,hb,_⟩;refine ⟨_,rfl,?_⟩;have XC:∀q9,(ak [(some aX)]) q9→q9<w6.heap.size:=(ak.grow ak.none_ (zg aC.lt));have SC:=Nat.le_trans LW.size E.size;have Ec:=Ext.of_below hb No;replace aC:=aC.av Ec ah.nil;replace E:=E.trans Ec.no;have S3:=SC;obtain ⟨HF,LW,E⟩:=cZ HF LW E aj (Per.bP o3 XC);obtain ⟨HF,LW,E⟩:=cZ HF LW E aj (Per.bP o4 XC);refine ye ?_;refine yn ?_;intro dB w9 bJ dN fO;have dn:Apart (some dB) (some aX):=Apart.of_lt (zg aC.lt) fO;have dX:=dn.symm;replace aC:=aC.av dN ah.nil;obtain ⟨fO,HF,E,aj⟩:=aZ HF LW E aj dN fO;refine yn ?_;intro bY dS bG bK dD;have dF:Apart (some bY) (some dB):=Apart.of_lt (zg bJ.lt) dD;have dY:=dF.symm;have bL:Apart (some bY) (some aX):=Apart.of_lt (zg aC.lt) dD;have cO:=bL.symm;replace bJ:=bJ.av bK ah.nil;replace aC:=aC.av bK ah.nil;obtain ⟨dD,HF,E,aj⟩:=aZ HF LW E aj bK dD;refine yxq ?_;intro eB Bx dN;replace bJ:aB eB dB 24 #[.bool (decide (q<0)),.slice A3 (limbs q).length c3]:=Bx;replace bG:=bG.av dN (ah.cons dF ah.nil);replace aC:=aC.av dN (ah.cons dX ah.nil);replace E:=E.step1 dN (ak.tail ak.head);obtain ⟨HF,LW,aj,E⟩:=dz HF LW E aj (Y:=ak [(some bY),(some aX)]) (ak.keep (ak.skip (ak.keep ak.aV))) (Per.aS bJ (ah.cons dY (ah.cons dn ah.nil)));refine yxk ?_;intro fK Bx bK;replace bG:aB fK bY 24 #[.bool (decide (r<0)),.slice A4 (limbs r).length c4]:=Bx;replace aC:=aC.av bK (ah.cons cO ah.nil);replace E:=E.step1 bK ak.head;obtain ⟨HF,LW,aj,E⟩:=dz HF LW E aj (Y:=ak [(some aX)]) (ak.skip (ak.keep ak.aV)) (Per.aS bG (ah.cons bL ah.nil));refine zy ?_;refine ze 48 (.bool true) rfl (by simp[h5]) (zv ?_);refine yxz ?_;intro dL Bx aT;replace aC:aB dL aX 24 #[.bool (decide (q<0)),.slice A3 (limbs q).length c3]:=Bx;exact Uh
theorem Uk (op:Int) (h1:op≠1) (h2:op≠2) (h3:op≠3) (h7:op≠7) (h5:op≠5) (h:j=0):Calls prog 67 #[.int .i64 op,.agg #[.bool (decide (i<0)),.slice A (limbs i).length c],.agg #[.bool (decide (j<0)),.slice B (limbs j).length d]] w (zx w 0 6):=by
 have _:=hx;have _:=hy;have _:=hi;have _:=hj;have li:=zk hi;have lj:=zk hj;obtain ⟨gi,ni⟩:=jy hi;obtain ⟨gj,nj⟩:=jy hj;have _:=ni;have _:=nj;have _:=li;have _:=lj;have h0:(limbs j).length=0:=by rw[h,qj];rfl
 refine zc func67 rfl ntmps67 rfl ?_;obtain ⟨HF,LW,aj,E⟩:=bg w;replace HF:=HF.and (Per.ay hx);replace HF:=HF.and (Per.ay hy);refine zf ?_;intro aO w2 aD aI aW;obtain ⟨HF,LW,E⟩:=aK HF LW E aj aD aI;refine za rfl (zn rfl ?_);intro bM w4 aJ aM bN;obtain ⟨HF,LW,E⟩:=aK HF LW E aj aJ aM;refine yn ?_;intro aX w6 aC aT aU;obtain ⟨aU,HF,E,aj⟩:=aZ HF LW E aj aT aU;refine Dc ?_;rintro e w7 ⟨A3,c3,A4,c4,rfl,o3,o4,hb,_⟩;refine ⟨_,rfl,?_⟩;have XC:∀q9,(ak [(some aX)]) q9→q9<w6.heap.size:=(ak.grow ak.none_ (zg aC.lt));have SC:=Nat.le_trans LW.size E.size;have Ec:=Ext.of_below hb No;replace aC:=aC.av Ec ah.nil;replace E:=E.trans Ec.no;have S3:=SC;obtain ⟨HF,LW,E⟩:=cZ HF LW E aj (Per.bP o3 XC);obtain ⟨HF,LW,E⟩:=cZ HF LW E aj (Per.bP o4 XC);refine ye ?_;refine yn ?_;intro dB w9 bJ dN fO;have dn:Apart (some dB) (some aX):=Apart.of_lt (zg aC.lt) fO;have dX:=dn.symm;replace aC:=aC.av dN ah.nil;obtain ⟨fO,HF,E,aj⟩:=aZ HF LW E aj dN fO;refine yn ?_;intro bY dS bG bK dD;have dF:Apart (some bY) (some dB):=Apart.of_lt (zg bJ.lt) dD;have dY:=dF.symm;have bL:Apart (some bY) (some aX):=Apart.of_lt (zg aC.lt) dD;have cO:=bL.symm;replace bJ:=bJ.av bK ah.nil;replace aC:=aC.av bK ah.nil;obtain ⟨dD,HF,E,aj⟩:=aZ HF LW E aj bK dD;refine yxq ?_;intro eB Bx dN;replace bJ:aB eB dB 24 #[.bool (decide ((0:Int)<0)),.slice A3 (limbs (0:Int)).length c3]:=Bx;replace bG:=bG.av dN (ah.cons dF ah.nil);replace aC:=aC.av dN (ah.cons dX ah.nil);replace E:=E.step1 dN (ak.tail ak.head);obtain ⟨HF,LW,aj,E⟩:=dz HF LW E aj (Y:=ak [(some bY),(some aX)]) (ak.keep (ak.skip (ak.keep ak.aV))) (Per.aS bJ (ah.cons dY (ah.cons dn ah.nil)));refine yxk ?_;intro fK Bx bK;replace bG:aB fK bY 24 #[.bool (decide ((0:Int)<0)),.slice A4 (limbs (0:Int)).length c4]:=Bx;replace aC:=aC.av bK (ah.cons cO ah.nil);replace E:=E.step1 bK ak.head;obtain ⟨HF,LW,aj,E⟩:=dz HF LW E aj (Y:=ak [(some aX)]) (ak.skip (ak.keep ak.aV)) (Per.aS bG (ah.cons bL ah.nil));refine zy ?_;refine ze 48 (.bool false) rfl (by simp[h5]) (zr ?_);refine yxz ?_;intro dL Bx aT;replace aC:aB dL aX 24 #[.bool (decide ((0:Int)<0)),.slice A4 (limbs (0:Int)).length c4]:=Bx;exact ag4
theorem Ze (op:Int) (h1:op≠1) (h2:op≠2) (h3:op≠3) (h7:op≠7) (h5:op≠5) (h:j≠0):Calls prog 67 #[.int .i64 op,.agg #[.bool (decide (i<0)),.slice A (limbs i).length c],.agg #[.bool (decide (j<0)),.slice B (limbs j).length d]] w (zx w (dr (decide (i<0)) (decide (j<0)) i.natAbs j.natAbs) 0):=by
 have _:=hx;have _:=hy;have _:=hi;have _:=hj;have li:=zk hi;have lj:=zk hj;obtain ⟨gi,ni⟩:=jy hi;obtain ⟨gj,nj⟩:=jy hj;have _:=ni;have _:=nj;have _:=li;have _:=lj;have h0:0<(limbs j).length:=oa h;have e1:val au (limbs i)=i.natAbs:=oz i;have e2:val au (limbs j)=j.natAbs:=oz j;obtain ⟨q,hq⟩:∃q,q=dq (decide (i<0)) (decide (j<0)) i.natAbs j.natAbs:=⟨_,rfl⟩;obtain ⟨r,hr⟩:∃r,r=dr (decide (i<0)) (decide (j<0)) i.natAbs j.natAbs:=⟨_,rfl⟩;have U2:=fun w hx hy=>qok A B c d (limbs i) (limbs j) w (decide (i<0)) (decide (j<0)) hx hy gi gj h0;rw[e1,e2,←hq,←hr] at U2;rw[←hr];refine zc func67 rfl ntmps67 rfl ?_;obtain ⟨HF,LW,aj,E⟩:=bg w;replace HF:=HF.and (Per.ay hx);replace HF:=HF.and (Per.ay hy);refine zf ?_;intro aO w2 aD aI aW;obtain ⟨HF,LW,E⟩:=aK HF LW E aj aD aI;refine za rfl (zn rfl ?_);intro bM w4 aJ aM bN;obtain ⟨HF,LW,E⟩:=aK HF LW E aj aJ aM;refine yn ?_;intro aX w6 aC aT aU;obtain ⟨aU,HF,E,aj⟩:=aZ HF LW E aj aT aU;refine Da ?_;rintro e w7 ⟨A3,c3,A4,c4,rfl,o3,o4,hb,_⟩;refine ⟨_,rfl,?_⟩;have XC:∀q9,(ak [(some aX)]) q9→q9<w6.heap.size:=(ak.grow ak.none_ (zg aC.lt));have SC:=Nat.le_trans LW.size E.size;have Ec:=Ext.of_below hb No;replace aC:=aC.av Ec ah.nil;replace E:=E.trans Ec.no;have S3:=SC;obtain ⟨HF,LW,E⟩:=cZ HF LW E aj (Per.bP o3 XC);obtain ⟨HF,LW,E⟩:=cZ HF LW E aj (Per.bP o4 XC);refine ye ?_;refine yn ?_;intro dB w9 bJ dN fO;have dn:Apart (some dB) (some aX):=Apart.of_lt (zg aC.lt) fO;have dX:=dn.symm;replace aC:=aC.av dN ah.nil;obtain ⟨fO,HF,E,aj⟩:=aZ HF LW E aj dN fO;refine yn ?_;intro bY dS bG bK dD;have dF:Apart (some bY) (some dB):=Apart.of_lt (zg bJ.lt) dD;have dY:=dF.symm;have bL:Apart (some bY) (some aX):=Apart.of_lt (zg aC.lt) dD;have cO:=bL.symm;replace bJ:=bJ.av bK ah.nil;replace aC:=aC.av bK ah.nil;obtain ⟨dD,HF,E,aj⟩:=aZ HF LW E aj bK dD;refine yxq ?_;intro eB Bx dN;replace bJ:aB eB dB 24 #[.bool (decide (q<0)),.slice A3 (limbs q).length c3]:=Bx;replace bG:=bG.av dN (ah.cons dF ah.nil);replace aC:=aC.av dN (ah.cons dX ah.nil);replace E:=E.step1 dN (ak.tail ak.head);obtain ⟨HF,LW,aj,E⟩:=dz HF LW E aj (Y:=ak [(some bY),(some aX)]) (ak.keep (ak.skip (ak.keep ak.aV))) (Per.aS bJ (ah.cons dY (ah.cons dn ah.nil)));refine yxk ?_;intro fK Bx bK;replace bG:aB fK bY 24 #[.bool (decide (r<0)),.slice A4 (limbs r).length c4]:=Bx;replace aC:=aC.av bK (ah.cons cO ah.nil);replace E:=E.step1 bK ak.head;obtain ⟨HF,LW,aj,E⟩:=dz HF LW E aj (Y:=ak [(some aX)]) (ak.skip (ak.keep ak.aV)) (Per.aS bG (ah.cons bL ah.nil));refine zy ?_;refine ze 48 (.bool false) rfl (by simp[h5]) (zr ?_);refine yxz ?_;intro dL Bx aT;replace aC:aB dL aX 24 #[.bool (decide (r<0)),.slice A4 (limbs r).length c4]:=Bx;exact ag4
end
theorem iD (op:Int) (h7:op≠7):WhC op:=by
 intro w A B c d i j hi hj hx hy;obtain ⟨V,hV⟩:∃V,V=(fE op i j).1:=⟨_,rfl⟩;obtain ⟨f,hf⟩:∃f,f=(fE op i j).2:=⟨_,rfl⟩;rw[←hV,←hf];subst hV hf;unfold fE;by_cases h1:op=1
 · subst h1;rw[if_pos rfl];exact ar1 w A B c d i j hi hj hx hy
 rw[if_neg h1];by_cases h2:op=2
 · subst h2;rw[if_pos rfl];exact ar2 w A B c d i j hi hj hx hy
 rw[if_neg h2];by_cases h3:op=3
 · subst h3;rw[if_pos rfl];exact ar3 w A B c d i j hi hj hx hy
 rw[if_neg h3];rw[if_neg h7];by_cases h:j=0
 · rw[if_pos h];by_cases h5:op=5
   · exact Uj w A B c d i j hi hj hx hy op h1 h2 h3 h7 h5 h
   · exact Uk w A B c d i j hi hj hx hy op h1 h2 h3 h7 h5 h
 rw[if_neg h];by_cases h5:op=5
 · rw[if_pos h5];exact Zd w A B c d i j hi hj hx hy op h1 h2 h3 h7 h5 h
 · rw[if_neg h5];exact Ze w A B c d i j hi hj hx hy op h1 h2 h3 h7 h5 h
end Go.Proofs.YtmnmebdmpigddaaGreatDoor
namespace Go.Proofs.YtmnmebdmpigddaaGreatDoor
open Go.RowKit Proofs.Tryz
attribute [local irreducible] OW RS CW EW
section
variable (w:World) (x y:Nat) (hx:x<18446744073709551616) (hy:y<18446744073709551616)
include hx hy
theorem ar4  :Calls prog 68 #[.int .i64 1,.int .u64 ((x:Nat):Int),.int .u64 ((y:Nat):Int)] w (aH w (.tuple #[.int .u64 ((oi (cK .add x y):Nat):Int),.int .i64 (0)])):=by
 have _:=hx;have _:=hy;refine zc func68 rfl ntmps68 rfl ?_;have LW:=aF (No) w;have aj:=bD (No) w;have E:=aF (No) w;refine yI ?_;refine zh rfl av7 rfl (KE _ x y) E fun w1 E=>(yu ?_);exact vj
theorem ar5  :Calls prog 68 #[.int .i64 3,.int .u64 ((x:Nat):Int),.int .u64 ((y:Nat):Int)] w (aH w (.tuple #[.int .u64 ((oi (cK .mul x y):Nat):Int),.int .i64 (0)])):=by
 have _:=hx;have _:=hy;refine zc func68 rfl ntmps68 rfl ?_;have LW:=aF (No) w;have aj:=bD (No) w;have E:=aF (No) w;refine ay0 ?_;refine zh rfl av8 rfl (KF _ x y) E fun w1 E=>(yu ?_);exact vj
end
theorem Dy:TT 1:=fun w x y hx hy=>ar4 w x y hx hy
theorem aF9:TT 3:=fun w x y hx hy=>ar5 w x y hx hy
end Go.Proofs.YtmnmebdmpigddaaGreatDoor
namespace Go.Proofs.YtmnmebdmpigddaaGreatDoor
open Go.RowKit
theorem Ul {P:Prop} (h:P:=by
 simp only[Bool.and_eq_true,decide_eq_true_eq] at hg
 exact ⟨hg.2.1.2,hg.1⟩):P:=h
theorem zxz {i:Int} (h:i.natAbs<au^30):(vI i).good=true:=by
 have hg:=qy h;unfold PV.good vI;simp[hg]
theorem nH (i:Int):qu (vI i)=i:=jz i
theorem ywq {s:ByteArray} (h:s.size≤20000):(vT s).good=true:=by
 unfold PV.good vT;simp[h]
theorem Um {s:ByteArray} (h:s.toList=(⟨#[]⟩:ByteArray).toList):s= ⟨#[]⟩:=by
 rw[ByteArray.toList_eq,ByteArray.toList_eq] at h;cases s
 congr
 exact Array.toList_inj.1 h
theorem Gt {v:PV} (hg:v.good=true) (hk:v.k=2):v=vI (qu v):=by
 obtain ⟨h1,h2,_⟩:=PV.canon hg (Or.inr hk);have hn:v.cn=v.neg:=by unfold PV.cn;rw[if_neg om]
 have hx:v.cx=v.xs:=by unfold PV.cx;rw[if_neg om]
 have hs:=Um (PV.s0 hg (Or.inr (Or.inr (Or.inl hk))));have hy:=PV.y0 hg om;have hb:v.bits=0∧v.ni=0:=by
  unfold PV.good at hg;rw[if_neg om,if_neg om,if_pos hk] at hg;exact Ul
 have h1:v.neg=decide (qu v<0):=hn.symm.trans h1;have h2:v.xs=limbs (qu v):=hx.symm.trans h2;have e:(⟨v.k,v.yes,v.neg,v.xs,v.bits,v.s,v.ni⟩:PV)=vI (qu v):=by
  rw[hk,hy,h1,h2,hb.1,hs,hb.2];rfl
 exact e
theorem ar6 {v:PV} (hg:v.good=true) (hk:v.k=4):v=vT v.s:=by
 have hy:=PV.y0 hg om;have hb:=PV.b0 hg om;have hc:v.bits=0∧v.ni=0:=by
  unfold PV.good at hg;rw[if_neg om,if_neg om,if_neg om,if_neg om,if_pos hk] at hg;exact Ul
 have e:(⟨v.k,v.yes,v.neg,v.xs,v.bits,v.s,v.ni⟩:PV)=vT v.s:=by
  rw[hk,hy,hb.1,hb.2,hc.1,hc.2];rfl
 exact e
theorem yuz {v:PV} (hg:v.good=true):Fu v v=true:=by
 unfold Fu;rw[hg,if_pos (by simp)];split
 · rename_i hk
   rw[PV.ad3 hg hk];unfold gJ iH;simp
 · split
   · simp
   · simp
theorem Un {v:Int} (h:bZ true v=0):v.natAbs<au^30∧bX true v=v:=by
 rcases Nat.lt_or_ge v.natAbs (au^30) with h1 | h1
 · exact ⟨h1,PZ h1⟩
 · unfold bZ at h;rw[if_pos rfl,if_neg om] at h;cases h
theorem Uo {op i j:Int} (hi:i.natAbs<au^30) (hj:j.natAbs<au^30) (h1:1≤op) (h7:op≤7) (h4:op≠4):vf op (vI i) (vI j)=if (fE op i j).2=0 then (vI (fE op i j).1,0) else (vZ,(fE op i j).2):=by
 unfold vf;rw[zxz hi,zxz hj,if_pos (show (true&&true)=true from rfl),if_neg (show ¬(op<1∨7<op) from om),if_pos (show (qd (vI i).k&&qd (vI j).k)=true from rfl)];unfold YC;rw[if_neg (show ¬((vI i).k=3∨(vI j).k=3) from fun h=>h.elim (fun e=>absurd e (show (2:Int)≠3 from de)) (fun e=>absurd e (show (2:Int)≠3 from de))),if_pos h4,nH,nH]
theorem Js {i j:Int} (hi:i.natAbs<au^30) (hj:j.natAbs<au^30) (h:(vf 1 (vI i) (vI j)).2=0):(i+j).natAbs<au^30∧vf 1 (vI i) (vI j)=(vI (i+j),0):=by
 rw[Uo hi hj de de de] at h ⊢;by_cases he:(fE 1 i j).2=0
 · obtain ⟨h1,h2⟩:=Un (v:=i+j) he;rw[if_pos he];refine ⟨h1,?_⟩;show (vI (bX true (i+j)),(0:Int))=_
   rw[h2]
 · rw[if_neg he] at h;exact absurd h he
theorem qiz {i j:Int} (hi:i.natAbs<au^30) (hj:j.natAbs<au^30) (h:(i+j).natAbs<au^30):vf 1 (vI i) (vI j)=(vI (i+j),0):=by
 rw[Uo hi hj de de de];have he:(fE 1 i j).2=0:=U5 h;rw[if_pos he];show (vI (bX true (i+j)),(0:Int))=_
 rw[PZ h]
theorem nI {i j:Int} (hi:i.natAbs<au^30) (hj:j.natAbs<au^30) (h:(i+j).natAbs<au^30):vf 2 (vI (i+j)) (vI j)=(vI i,0):=by
 rw[Uo h hj de de de];have e:i+j-j=i:=om;have he:(fE 2 (i+j) j).2=0:=by show bZ true (i+j-j)=0;rw[e];exact U5 hi
 rw[if_pos he];show (vI (bX true (i+j-j)),(0:Int))=_
 rw[e,PZ hi]
noncomputable def qI (i j:Int):Int:=dq (decide (i<0)) (decide (j<0)) i.natAbs j.natAbs
noncomputable def rI (i j:Int):Int:=dr (decide (i<0)) (decide (j<0)) i.natAbs j.natAbs
theorem div_zero {i j:Int} (hi:i.natAbs<au^30) (hj:j.natAbs<au^30) (h:j=0):vf 5 (vI i) (vI j)=(vZ,6)∧vf 6 (vI i) (vI j)=(vZ,6):=by
 rw[Uo hi hj de de de,Uo hi hj de de de];subst h;exact ⟨rfl,rfl⟩
theorem qgv {i j:Int} (hi:i.natAbs<au^30) (hj:j.natAbs<au^30) (h:j≠0):vf 5 (vI i) (vI j)=(vI (qI i j),0)∧vf 6 (vI i) (vI j)=(vI (rI i j),0):=by
 rw[Uo hi hj de de de,Uo hi hj de de de];have e5:fE 5 i j=(qI i j,0):=by
  unfold fE;rw[if_neg de,if_neg de,if_neg de,if_neg de,if_neg h,if_pos rfl];rfl
 have e6:fE 6 i j=(rI i j,0):=by
  unfold fE;rw[if_neg de,if_neg de,if_neg de,if_neg de,if_neg h,if_neg de];rfl
 rw[e5,e6,if_pos rfl,if_pos rfl];exact ⟨rfl,rfl⟩
theorem Jt (i:Int):dA (decide (i<0)) i.natAbs=i:=by
 unfold dA;by_cases h:i<0
 · rw[decide_eq_true h,if_pos rfl];omega
 · rw[decide_eq_false h,if_neg de];omega
theorem ar7 {n1 n2:Bool} {X Y:Nat} (hY:Y<au^30) (hY0:0<Y):(dr n1 n2 X Y).natAbs<au^30:=by
 have h3:X%Y<Y:=Nat.mod_lt _ hY0;unfold dr;split
 · rw[vw];omega
 · split
   · exact Nat.pow_pos (by unfold au;omega)
   · rw[vw];omega
theorem Ju {i j:Int} (hi:i.natAbs<au^30) (hj:j.natAbs<au^30) (h:j≠0):(qI i j).natAbs<au^30∧(rI i j).natAbs<au^30:=⟨dqI hi om,ar7 hj om⟩
theorem ag5 {i j:Int} (h:j≠0):qI i j*j+rI i j=i:=by
 have e:=ak2 (n1:=decide (i<0)) (n2:=decide (j<0)) (X:=i.natAbs) (Y:=j.natAbs) om;rw[Jt,Jt] at e;exact e
theorem Zf {q j:Int} (hq:q.natAbs<au^30) (hj:j.natAbs<au^30) (h:(vf 3 (vI q) (vI j)).2=0):(q*j).natAbs<au^30∧vf 3 (vI q) (vI j)=(vI (q*j),0):=by
 rw[Uo hq hj de de de] at h ⊢;by_cases he:(fE 3 q j).2=0
 · obtain ⟨h1,h2⟩:=Un (v:=q*j) he;rw[if_pos he];refine ⟨h1,?_⟩;show (vI (bX true (q*j)),(0:Int))=_
   rw[h2]
 · rw[if_neg he] at h;exact absurd h he
theorem Uq {q j:Int} (hq:q.natAbs<au^30) (hj:j.natAbs<au^30) (h:(vf 3 (vI q) (vI j)).2≠0):vf 3 (vI q) (vI j)=(vZ,(vf 3 (vI q) (vI j)).2):=by
 rw[Uo hq hj de de de] at h ⊢;by_cases he:(fE 3 q j).2=0
 · rw[if_pos he] at h;exact absurd rfl h
 · rw[if_neg he]
theorem qk {i:Int}:(vI i).bits<18446744073709551616:=show (0:Nat)<18446744073709551616 from de
theorem Jv (op:Int) (x y:Nat×Int):(flR op x y).1.xs.length≤1048576:=by
 unfold flR;repeat' split
 all_goals exact Nat.zero_le _
theorem Df (a b:PV):(vf 1 a b).1.xs.length≤1048576:=by
 unfold vf;split
 · split
   · exact Nat.zero_le _
   split
   · unfold YC;split
     · split
       · exact Nat.zero_le _
       · exact Jv _ _ _
     split
     · split
       · exact ap4 Ww
       · exact Nat.zero_le _
     split
     · exact Nat.zero_le _
     · exact Jv _ _ _
   split
   · split<;>exact Nat.zero_le _
   split
   · unfold gQ;repeat' split
     all_goals exact Nat.zero_le _
   split
   · unfold gQ;repeat' split
     all_goals exact Nat.zero_le _
   · exact Nat.zero_le _
 · exact Nat.zero_le _
theorem Ur {a b:PV} (hg:a.good=true) (hk:a.k=1):vf 1 a b=vf 1 (vI (qu a)) b:=by
 have hl:=xx hg (Or.inl hk);have hn:qd a.k=true:=by rw[hk];rfl
 have e3:qf a=qf (vI (qu a)):=by
  unfold qf;rw[if_neg om,if_neg (show ¬(vI (qu a)).k=3 from (show (2:Int)≠3 from de)),nH]
 unfold vf;rw[hg,zxz hl,hn,show qd (vI (qu a)).k=true from rfl];have e4:∀c,YC 1 a c=YC 1 (vI (qu a)) c:=fun c=>by
  unfold YC;rw[e3,nH];have h1:(a.k=3∨c.k=3)↔((vI (qu a)).k=3∨c.k=3):=⟨fun h=>Or.inr (h.resolve_left om),fun h=>Or.inr (h.resolve_left (show (2:Int)≠3 from de))⟩;by_cases hc:a.k=3∨c.k=3
  · rw[if_pos hc,if_pos (h1.1 hc)]
  · rw[if_neg hc,if_neg (fun q=>hc (h1.2 q))]
 rw[e4];have n1:¬((1:Int)=1∧a.k=4∧b.k=4):=fun q=>om;have n2:¬((1:Int)=1∧(vI (qu a)).k=4∧b.k=4):=fun q=>absurd q.2.1 (show (2:Int)≠4 from de);have n3:∀P:Prop,¬((1:Int)=3∧P):=fun P q=>absurd q.1 de;rw[if_neg n1,if_neg n2,if_neg (n3 _),if_neg (n3 _),if_neg (n3 _),if_neg (n3 _)]
theorem noF {op i j:Int} (h4:op≠4):((vI i).k=3∨(vI j).k=3∨op=4)→TT op:=fun h=>by
 rcases h with h | h | h
 · exact absurd h (show (2:Int)≠3 from de)
 · exact absurd h (show (2:Int)≠3 from de)
 · exact absurd h h4
theorem Zg {a b:ByteArray} (h:a.data.toList=b.data.toList):a=b:=by
 cases a
 cases b
 congr
 exact Array.toList_inj.1 h
theorem Zh (a b:ByteArray):(a++b).data.toList=a.data.toList++b.data.toList:=by
 rw[ByteArray.data_append,Array.toList_append]
theorem nJ (a:ByteArray):a.data.toList.length=a.size:=by rw[Array.length_toList];rfl
theorem Us {n:Int} {m s:Nat} (h:n=(m:Int)):n*((s:Nat):Int)=((m*s:Nat):Int):=by rw[h,Int.natCast_mul]
theorem Gu {s:ByteArray} {n:Int} {m:Nat} (hn:n=(m:Int)) (h:(gQ s n).2=0):gQ s n=(vT ⟨(Lib.repeatL s.data.toList m).toArray⟩,0)∧(s.size=0∨m*s.size≤20000):=by
 by_cases h0:n≤0∨s.size=0
 · have e:gQ s n=(vT ⟨#[]⟩,0):=by unfold gQ;rw[if_pos h0]
   rw[e];rcases h0 with h0 | h0
   · have hm:m=0:=om;subst hm;exact ⟨rfl,Or.inr om⟩
   · have hl:s.data.toList= []:=List.eq_nil_of_length_eq_zero (by rw[nJ];exact h0);exact ⟨by rw[hl,Lib.repeatL_nil],Or.inl h0⟩
 · by_cases h2:20000<n*s.size
   · have e:gQ s n=(vZ,2):=by unfold gQ;rw[if_neg h0,if_pos h2]
     rw[e] at h;exact absurd h (show (2:Int)≠0 from de)
   · have e:gQ s n=(vT ⟨(Lib.repeatL s.data.toList n.toNat).toArray⟩,0):=by unfold gQ;rw[if_neg h0,if_neg h2]
     rw[e,show n.toNat=m from om];rw[Us hn] at h2;exact ⟨rfl,Or.inr om⟩
theorem sJ (s:ByteArray) (m:Nat):(⟨(Lib.repeatL s.data.toList m).toArray⟩:ByteArray).size=m*s.size:=by
 rw[←nJ,←nJ,List.toList_toArray,Lib.repeatL_length]
theorem Zi {t s:ByteArray} (h1:t.size≤20000) (h2:s.size≤20000) (h:t.size+s.size≤20000):vf 1 (vT t) (vT s)=(vT (t++s),0):=by
 unfold vf;rw[ywq h1,ywq h2,if_pos (show (true&&true)=true from rfl),if_neg (show ¬((1:Int)<1∨7<(1:Int)) from de),if_neg (show ¬(qd (vT t).k&&qd (vT s).k)=true from (show ¬(false&&false)=true from de)),if_pos (show (1:Int)=1∧(vT t).k=4∧(vT s).k=4 from ⟨rfl,rfl,rfl⟩)];rw[if_neg (show ¬20000<(vT t).s.size+(vT s).s.size from Nat.not_lt.2 h)];rfl
theorem Ut {s:ByteArray} {n:Int} (h0:0≤n) (hs:s.size≤20000) (hx:(gQ s n).2=0) (hy:(gQ s (n+1)).2=0):vf 1 (gQ s n).1 (vT s)=gQ s (n+1):=by
 obtain ⟨m,hm⟩:=Int.eq_ofNat_of_zero_le h0;obtain ⟨e1,k1⟩:=Gu hm hx;obtain ⟨e2,k2⟩:=Gu (m:=m+1) om hy;have hz:=sJ s m;have hsum:(⟨(Lib.repeatL s.data.toList m).toArray⟩:ByteArray).size+s.size≤20000:=by
  rw[hz];rcases k2 with k | k
  · rw[k];omega
  · rw[Nat.succ_mul] at k;exact k
 rw[e1,e2];show vf 1 (vT _) (vT s)=_
 rw[Zi om hs hsum];congr 2
 refine Zg ?_;rw[Zh,List.toList_toArray,List.toList_toArray,Lib.repeatL_add,Lib.repeatL_one]
end Go.Proofs.YtmnmebdmpigddaaGreatDoor
namespace Go.Proofs.YtmnmebdmpigddaaGreatDoor
open Go.RowKit Proofs.Tryz
theorem Dh {P Q:Prop} (k:Q) (h:(Unit→Q)→P:=by
 intro zK;refine nK ?_;refine zd 116 (.bool false) rfl (by simp[ka]) (xd ?_);refine zd 143 (.bool false) rfl (by simp[ka]) (zv ?_);exact zK ()):P:=h fun _=>k
theorem nK {P Q:Prop} (k:Q) (h:(Unit→Q)→P:=by
 intro zK;refine zy ?_;refine zd 39 (.bool false) rfl (by simp[ka]) (OI ?_);exact zK ()):P:=h fun _=>k
theorem Di {P Q:Prop} (k:Q) (h:(Unit→Q)→P:=by
 intro zK;refine Ed ?_;refine bV rfl (qvz u4 rfl rfl (zq ?_));refine ze 86 (.bool false) rfl (by rw[beq_eq_false_iff_ne.2 (show (((limbs j).length:Nat):Int)≠0 from om)];rfl) (go ?_);exact zK ()):P:=h fun _=>k
theorem xh {P Q:Prop} (k:Q) (h:(Unit→Q)→P:=by
 intro zK;refine zp (zo jf rfl rfl eZ rfl rfl rfl ?_);exact zK ()):P:=h fun _=>k
theorem Dj {P Q:Prop} (k:Q) (h:(Unit→Q)→P:=by
 intro zK;refine yq ?_;refine za rfl (zb gT rfl ((jt _ (vI i) (vI j) A1 B1 A2 B2 c1 d1 c2 d2 (HF.on E).here.1.1.1.1.1.1.1.1.1.2 (show (limbs i).length≤9223372036854775807 from om) qk (HF.on E).here.1.1.1.1.1.1.1.1.2 (show (limbs j).length≤9223372036854775807 from om) qk (later hD (LW.step E aj).toBelow) (HF.on E).here.1.1.1.1.1.1.1.2 ⟨te,pe,(HF.on E).here.1.1.1.1.1.1.2⟩ 5 (iD 5 de) (noF de) (vI Q,0) p5).mono ?_));exact zK ()):P:=h fun _=>k
theorem Dk {P Q:Prop} (k:Q) (h:(Unit→Q)→P:=by
 intro zK;refine zr ?_;refine za rfl (zb gT rfl ((jt _ (vI i) (vI j) A1 B1 A2 B2 c1 d1 c2 d2 (HF.on E).here.1.1.1.1.1.1.1.1.1.1.1.2 (show (limbs i).length≤9223372036854775807 from om) qk (HF.on E).here.1.1.1.1.1.1.1.1.1.1.2 (show (limbs j).length≤9223372036854775807 from om) qk (later hD (LW.step E aj).toBelow) (HF.on E).here.1.1.1.1.1.1.1.1.1.2 ⟨te,pe,(HF.on E).here.1.1.1.1.1.1.1.1.2⟩ 6 (iD 6 de) (noF de) (vI R,0) p6).mono ?_));exact zK ()):P:=h fun _=>k
theorem nL {P Q:Prop} (k:Q) (h:(Unit→Q)→P:=by
 intro zK;refine yq ?_;refine bV rfl (zb ahx rfl ((wQ (yuz (zxz hi)) (vE _ (vI i) (vI i) A4 none A1 B1 q4 0 c1 d1 ((HF.on E).here.1.2).nums (show (limbs i).length≤9223372036854775807 from om) qk (HF.on E).here.1.1.1.1.1.1.1.1.1.2 (show (limbs i).length≤9223372036854775807 from om) qk)).mono ?_));exact zK ()):P:=h fun _=>k
theorem nM {P Q:Prop} (k:Q) (h:(Unit→Q)→P:=by
 intro zK;refine OJ ?_;refine za rfl (zb gT rfl ((jt _ (vI S) (vI j) A3 none A2 B2 q3 0 c2 d2 ((HF.on E).here.1.2).nums (show (limbs S).length≤9223372036854775807 from om) qk (HF.on E).here.1.1.1.1.1.1.2 (show (limbs j).length≤9223372036854775807 from om) qk (later hD (LW.step E aj).toBelow) (HF.on E).here.1.1.1.1.1.2 ⟨te,pe,(HF.on E).here.1.1.1.1.2⟩ 2 (iD 2 de) (noF de) (vI i,0) p2).mono ?_));exact zK ()):P:=h fun _=>k
theorem UA {P:Prop} (h:P:=by
 refine zd 116 (.bool false) rfl (by simp[ka]) (xd ?_);exact Jy):P:=h
theorem Jy {P:Prop} (h:P:=by
 refine zd 143 (.bool true) rfl (by simp[ka]) (jL ?_);exact vj):P:=h
attribute [local irreducible] OW RS CW EW
section
variable (w:World) (i j:Int) (A1 B1 A2 B2:Option Addr) (c1 d1 c2 d2:Nat) (hi:i.natAbs<au^30) (hj:j.natAbs<au^30) (hx:aA w A1 (limbs i)) (hy:aA w A2 (limbs j))
variable {bp op cp bf of cf bl ol cl:Nat} (hD:∀b,Below w.heap.size w b→fD b) (aG:dK bp op cp bf of cf bl ol cl w) (hE:∃te pe,w.cell? ⟨4,0,none⟩=some (.iface te pe))
include hi hj hx hy hD aG hE
theorem Zj (hs:(i+j).natAbs<au^30) (h:j=0):Calls prog 4 #[.agg #[.int .i64 2,.bool false,.bool (decide (i<0)),.slice A1 (limbs i).length c1,.int .u64 0,.string ⟨#[]⟩,.slice B1 0 d1],.agg #[.int .i64 2,.bool false,.bool (decide (j<0)),.slice A2 (limbs j).length c2,.int .u64 0,.string ⟨#[]⟩,.slice B2 0 d2]] w (aH w (.bool true)):=by
 obtain ⟨te,pe,hE⟩:=hE;have li:=zk hi;have lj:=zk hj;obtain ⟨S,hS⟩:∃S,S=i+j:=⟨_,rfl⟩;have hSb:S.natAbs<au^30:=hS▸hs;have lS:=zk hSb;have p1:(vI S,(0:Int))=vf 1 (vI i) (vI j):=by rw[hS];exact (qiz hi hj hs).symm
 have p2:(vI i,(0:Int))=vf 2 (vI S) (vI j):=by rw[hS];exact (nI hi hj hs).symm
 have hjl:(limbs j).length=0:=by rw[h,qj];rfl
 have p5:(vZ,(6:Int))=vf 5 (vI i) (vI j):=(div_zero hi hj h).1.symm;have p6:(vZ,(6:Int))=vf 6 (vI i) (vI j):=(div_zero hi hj h).2.symm;refine zc func4 rfl ntmps4 rfl ?_;obtain ⟨HF,LW,aj,E⟩:=bg w;replace HF:=HF.and (Per.ay hx);replace HF:=HF.and (Per.ay hy);replace HF:=HF.and (Per.tabs aG (fun _ h=>h.elim));replace HF:=HF.and (Per.aR hE (fun _ h=>h.elim));refine zf ?_;intro aO w2 aD aI aW;obtain ⟨HF,LW,E⟩:=aK HF LW E aj aD aI;refine za rfl (zn rfl ?_);intro bM w4 aJ aM bN;obtain ⟨HF,LW,E⟩:=aK HF LW E aj aJ aM;refine zt ?_;refine zh rfl Ou rfl (xm _) E fun w5 E=>(zy ?_);refine za rfl (zb gT rfl ((jt _ (vI i) (vI j) A1 B1 A2 B2 c1 d1 c2 d2 (HF.on E).here.1.1.1.1.1.2 (show (limbs i).length≤9223372036854775807 from om) qk (HF.on E).here.1.1.1.1.2 (show (limbs j).length≤9223372036854775807 from om) qk (later hD (LW.step E aj).toBelow) (HF.on E).here.1.1.1.2 ⟨te,pe,(HF.on E).here.1.1.2⟩ 1 (iD 1 de) (fun _=>Dy) (vI S,0) p1).mono ?_));rintro e w6 ⟨A3,q3,rfl,o3,hb⟩;refine ⟨_,rfl,?_⟩;have XC:∀q9,(No) q9→q9<w5.heap.size:=ak.none_;replace E:=bQ E hb;obtain ⟨HF,LW,E⟩:=cZ HF LW E aj (Per.bP o3 XC);refine zq ?_;refine zi ?_;intro pF w8 eZ dQ fu;obtain ⟨fu,HF,E,aj⟩:=aZ HF LW E aj dQ fu;refine xh ?_;intro w9 Bx dQ;replace eZ:aB w9 pF 28 #[.int .i64 2,.bool false,.bool (decide (S<0)),.slice A3 (limbs S).length q3,.int .u64 0,.string ⟨#[]⟩,.slice none 0 0]:=Bx;replace E:=E.step1 dQ ak.head;obtain ⟨HF,LW,aj,E⟩:=dz HF LW E aj (Y:=No) (ak.skip ak.aV) (Per.aS eZ ah.nil);refine nM ?_;rintro e dI ⟨A4,q4,rfl,o4,hb⟩;refine ⟨_,rfl,?_⟩;have XC:∀q9,(No) q9→q9<w9.heap.size:=ak.none_;replace E:=bQ E hb;obtain ⟨HF,LW,E⟩:=cZ HF LW E aj (Per.bP o4 XC);refine zq ?_;refine zi ?_;intro gL eB dU dV iw;obtain ⟨iw,HF,E,aj⟩:=aZ HF LW E aj dV iw;refine zp (zo jf rfl rfl dU rfl rfl rfl ?_);intro fK Bx dV;replace dU:aB fK gL 28 #[.int .i64 2,.bool false,.bool (decide (i<0)),.slice A4 (limbs i).length q4,.int .u64 0,.string ⟨#[]⟩,.slice none 0 0]:=Bx;replace E:=E.step1 dV ak.head;obtain ⟨HF,LW,aj,E⟩:=dz HF LW E aj (Y:=No) (ak.skip ak.aV) (Per.aS dU ah.nil);refine nL ?_;rintro e dL ⟨rfl,hb⟩;refine ⟨_,rfl,?_⟩;replace E:=bQ E hb;refine yq ?_;refine za rfl (zb gT rfl ((jt _ (vI i) (vI j) A1 B1 A2 B2 c1 d1 c2 d2 (HF.on E).here.1.1.1.1.1.1.1.1.1.2 (show (limbs i).length≤9223372036854775807 from om) qk (HF.on E).here.1.1.1.1.1.1.1.1.2 (show (limbs j).length≤9223372036854775807 from om) qk (later hD (LW.step E aj).toBelow) (HF.on E).here.1.1.1.1.1.1.1.2 ⟨te,pe,(HF.on E).here.1.1.1.1.1.1.2⟩ 5 (iD 5 de) (noF de) (vZ,6) p5).mono ?_));rintro e fM ⟨A5,q5,rfl,o5,hb⟩;refine ⟨_,rfl,?_⟩;replace E:=bQ E hb;refine zq ?_;refine zi ?_;intro dO nS cB dG dJ;obtain ⟨dJ,HF,E,aj⟩:=aZ HF LW E aj dG dJ;refine yfv ?_;intro fF Bx dG;replace cB:aB fF dO 28 #[.int .i64 0,.bool false,.bool false,.slice A5 0 q5,.int .u64 0,.string ⟨#[]⟩,.slice none 0 0]:=Bx;replace E:=E.step1 dG ak.head;obtain ⟨HF,LW,aj,E⟩:=dz HF LW E aj (Y:=No) (ak.skip ak.aV) (Per.aS cB ah.nil);refine zr ?_;refine za rfl (zb gT rfl ((jt _ (vI i) (vI j) A1 B1 A2 B2 c1 d1 c2 d2 (HF.on E).here.1.1.1.1.1.1.1.1.1.1.2 (show (limbs i).length≤9223372036854775807 from om) qk (HF.on E).here.1.1.1.1.1.1.1.1.1.2 (show (limbs j).length≤9223372036854775807 from om) qk (later hD (LW.step E aj).toBelow) (HF.on E).here.1.1.1.1.1.1.1.1.2 ⟨te,pe,(HF.on E).here.1.1.1.1.1.1.1.2⟩ 6 (iD 6 de) (noF de) (vZ,6) p6).mono ?_));rintro e nT ⟨A6,q6,rfl,o6,hb⟩;refine ⟨_,rfl,?_⟩;replace E:=bQ E hb;refine zq ?_;refine zi ?_;intro oU Aj eG dR fV;obtain ⟨fV,HF,E,aj⟩:=aZ HF LW E aj dR fV;refine zp (zo jf rfl rfl eG rfl rfl rfl ?_);intro Fb Bx dR;replace eG:aB Fb oU 28 #[.int .i64 0,.bool false,.bool false,.slice A6 0 q6,.int .u64 0,.string ⟨#[]⟩,.slice none 0 0]:=Bx;replace E:=E.step1 dR ak.head;obtain ⟨HF,LW,aj,E⟩:=dz HF LW E aj (Y:=No) (ak.skip ak.aV) (Per.aS eG ah.nil);refine Ed ?_;refine bV rfl (qvz u4 rfl rfl (zq ?_));refine ze 86 (.bool false) rfl (by rw[hjl];rfl) (qrz ?_);refine xd ?_;exact vj
theorem Zk (hs:(i+j).natAbs<au^30) (h:j≠0) (hm:(vf 3 (vI (qI i j)) (vI j)).2≠0):Calls prog 4 #[.agg #[.int .i64 2,.bool false,.bool (decide (i<0)),.slice A1 (limbs i).length c1,.int .u64 0,.string ⟨#[]⟩,.slice B1 0 d1],.agg #[.int .i64 2,.bool false,.bool (decide (j<0)),.slice A2 (limbs j).length c2,.int .u64 0,.string ⟨#[]⟩,.slice B2 0 d2]] w (aH w (.bool true)):=by
 obtain ⟨te,pe,hE⟩:=hE;have li:=zk hi;have lj:=zk hj;obtain ⟨S,hS⟩:∃S,S=i+j:=⟨_,rfl⟩;have hSb:S.natAbs<au^30:=hS▸hs;have lS:=zk hSb;have p1:(vI S,(0:Int))=vf 1 (vI i) (vI j):=by rw[hS];exact (qiz hi hj hs).symm
 have p2:(vI i,(0:Int))=vf 2 (vI S) (vI j):=by rw[hS];exact (nI hi hj hs).symm
 have hjl:0<(limbs j).length:=oa h;obtain ⟨Q,hQ⟩:∃Q,Q=qI i j:=⟨_,rfl⟩;obtain ⟨R,hR⟩:∃R,R=rI i j:=⟨_,rfl⟩;have hQb:Q.natAbs<au^30:=hQ▸(Ju hi hj h).1;have hRb:R.natAbs<au^30:=hR▸(Ju hi hj h).2;have lQ:=zk hQb;have lR:=zk hRb;have p5:(vI Q,(0:Int))=vf 5 (vI i) (vI j):=by rw[hQ];exact (qgv hi hj h).1.symm
 have p6:(vI R,(0:Int))=vf 6 (vI i) (vI j):=by rw[hR];exact (qgv hi hj h).2.symm
 have hqr:Q*j+R=i:=by rw[hQ,hR];exact ag5 h
 rw[←hQ] at hm;obtain ⟨e,he⟩:∃e,e=(vf 3 (vI Q) (vI j)).2:=⟨_,rfl⟩;rw[←he] at hm;have p3:(vZ,e)=vf 3 (vI Q) (vI j):=by rw[he];exact (Uq hQb hj (he▸hm)).symm
 obtain ⟨z,hz⟩:∃z,z=vf 1 vZ (vI R):=⟨_,rfl⟩;refine zc func4 rfl ntmps4 rfl ?_;obtain ⟨HF,LW,aj,E⟩:=bg w;replace HF:=HF.and (Per.ay hx);replace HF:=HF.and (Per.ay hy);replace HF:=HF.and (Per.tabs aG (fun _ h=>h.elim));replace HF:=HF.and (Per.aR hE (fun _ h=>h.elim));refine zf ?_;intro aO w2 aD aI aW;obtain ⟨HF,LW,E⟩:=aK HF LW E aj aD aI;refine za rfl (zn rfl ?_);intro bM w4 aJ aM bN;obtain ⟨HF,LW,E⟩:=aK HF LW E aj aJ aM;refine zt ?_;refine zh rfl Ou rfl (xm _) E fun w5 E=>(zy ?_);refine za rfl (zb gT rfl ((jt _ (vI i) (vI j) A1 B1 A2 B2 c1 d1 c2 d2 (HF.on E).here.1.1.1.1.1.2 (show (limbs i).length≤9223372036854775807 from om) qk (HF.on E).here.1.1.1.1.2 (show (limbs j).length≤9223372036854775807 from om) qk (later hD (LW.step E aj).toBelow) (HF.on E).here.1.1.1.2 ⟨te,pe,(HF.on E).here.1.1.2⟩ 1 (iD 1 de) (fun _=>Dy) (vI S,0) p1).mono ?_));rintro e w6 ⟨A3,q3,rfl,o3,hb⟩;refine ⟨_,rfl,?_⟩;have XC:∀q9,(No) q9→q9<w5.heap.size:=ak.none_;replace E:=bQ E hb;obtain ⟨HF,LW,E⟩:=cZ HF LW E aj (Per.bP o3 XC);refine zq ?_;refine zi ?_;intro pF w8 eZ dQ fu;obtain ⟨fu,HF,E,aj⟩:=aZ HF LW E aj dQ fu;refine xh ?_;intro w9 Bx dQ;replace eZ:aB w9 pF 28 #[.int .i64 2,.bool false,.bool (decide (S<0)),.slice A3 (limbs S).length q3,.int .u64 0,.string ⟨#[]⟩,.slice none 0 0]:=Bx;replace E:=E.step1 dQ ak.head;obtain ⟨HF,LW,aj,E⟩:=dz HF LW E aj (Y:=No) (ak.skip ak.aV) (Per.aS eZ ah.nil);refine nM ?_;rintro e dI ⟨A4,q4,rfl,o4,hb⟩;refine ⟨_,rfl,?_⟩;have XC:∀q9,(No) q9→q9<w9.heap.size:=ak.none_;replace E:=bQ E hb;obtain ⟨HF,LW,E⟩:=cZ HF LW E aj (Per.bP o4 XC);refine zq ?_;refine zi ?_;intro gL eB dU dV iw;obtain ⟨iw,HF,E,aj⟩:=aZ HF LW E aj dV iw;refine zp (zo jf rfl rfl dU rfl rfl rfl ?_);intro fK Bx dV;replace dU:aB fK gL 28 #[.int .i64 2,.bool false,.bool (decide (i<0)),.slice A4 (limbs i).length q4,.int .u64 0,.string ⟨#[]⟩,.slice none 0 0]:=Bx;replace E:=E.step1 dV ak.head;obtain ⟨HF,LW,aj,E⟩:=dz HF LW E aj (Y:=No) (ak.skip ak.aV) (Per.aS dU ah.nil);refine nL ?_;rintro e dL ⟨rfl,hb⟩;refine ⟨_,rfl,?_⟩;replace E:=bQ E hb;refine Dj ?_;rintro e fM ⟨A5,q5,rfl,o5,hb⟩;refine ⟨_,rfl,?_⟩;have XC:∀q9,(No) q9→q9<dL.heap.size:=ak.none_;replace E:=bQ E hb;obtain ⟨HF,LW,E⟩:=cZ HF LW E aj (Per.bP o5 XC);refine zq ?_;refine zi ?_;intro dO nS cB dG dJ;obtain ⟨dJ,HF,E,aj⟩:=aZ HF LW E aj dG dJ;refine yfv ?_;intro fF Bx dG;replace cB:aB fF dO 28 #[.int .i64 2,.bool false,.bool (decide (Q<0)),.slice A5 (limbs Q).length q5,.int .u64 0,.string ⟨#[]⟩,.slice none 0 0]:=Bx;replace E:=E.step1 dG ak.head;obtain ⟨HF,LW,aj,E⟩:=dz HF LW E aj (Y:=No) (ak.skip ak.aV) (Per.aS cB ah.nil);refine Dk ?_;rintro e nT ⟨A6,q6,rfl,o6,hb⟩;refine ⟨_,rfl,?_⟩;have XC:∀q9,(No) q9→q9<fF.heap.size:=ak.none_;replace E:=bQ E hb;obtain ⟨HF,LW,E⟩:=cZ HF LW E aj (Per.bP o6 XC);refine zq ?_;refine zi ?_;intro oU Aj eG dR fV;obtain ⟨fV,HF,E,aj⟩:=aZ HF LW E aj dR fV;refine zp (zo jf rfl rfl eG rfl rfl rfl ?_);intro Fb Bx dR;replace eG:aB Fb oU 28 #[.int .i64 2,.bool false,.bool (decide (R<0)),.slice A6 (limbs R).length q6,.int .u64 0,.string ⟨#[]⟩,.slice none 0 0]:=Bx;replace E:=E.step1 dR ak.head;obtain ⟨HF,LW,aj,E⟩:=dz HF LW E aj (Y:=No) (ak.skip ak.aV) (Per.aS eG ah.nil);refine Di ?_;refine za rfl (zb gT rfl ((jt _ (vI Q) (vI j) A5 none A2 B2 q5 0 c2 d2 ((HF.on E).here.1.1.1.2).nums (show (limbs Q).length≤9223372036854775807 from om) qk (HF.on E).here.1.1.1.1.1.1.1.1.1.1.1.1.2 (show (limbs j).length≤9223372036854775807 from om) qk (later hD (LW.step E aj).toBelow) (HF.on E).here.1.1.1.1.1.1.1.1.1.1.1.2 ⟨te,pe,(HF.on E).here.1.1.1.1.1.1.1.1.1.1.2⟩ 3 (iD 3 de) (noF de) (vZ,e) p3).mono ?_));rintro e wU ⟨A7,q7,rfl,o7,hb⟩;refine ⟨_,rfl,?_⟩;replace E:=bQ E hb;refine zq ?_;refine zi ?_;intro ar9 Ve Gw Gy UC;obtain ⟨UC,HF,E,aj⟩:=aZ HF LW E aj Gy UC;refine zp (zo jf rfl rfl Gw rfl rfl rfl ?_);intro w26 Bx Gy;replace Gw:aB w26 ar9 28 #[.int .i64 0,.bool false,.bool false,.slice A7 0 q7,.int .u64 0,.string ⟨#[]⟩,.slice none 0 0]:=Bx;replace E:=E.step1 Gy ak.head;obtain ⟨HF,LW,aj,E⟩:=dz HF LW E aj (Y:=No) (ak.skip ak.aV) (Per.aS Gw ah.nil);refine zr ?_;refine za rfl (zb gT rfl ((jt _ vZ (vI R) A7 none A6 none q7 0 q6 0 xo de de ((HF.on E).here.1.1.2).nums (show (limbs R).length≤9223372036854775807 from om) qk (later hD (LW.step E aj).toBelow) (HF.on E).here.1.1.1.1.1.1.1.1.1.1.1.1.2 ⟨te,pe,(HF.on E).here.1.1.1.1.1.1.1.1.1.1.1.2⟩ 1 (iD 1 de) (fun _=>Dy) z hz).mono ?_));rintro e w27 ⟨A8,q8,rfl,o8,hb⟩;refine ⟨_,rfl,?_⟩;replace E:=bQ E hb;refine zq ?_;refine zi ?_;intro arq w29 Gz GA UD;obtain ⟨UD,HF,E,aj⟩:=aZ HF LW E aj GA UD;refine zp (zo jf rfl rfl Gz rfl rfl rfl ?_);intro Mq Bx GA;replace Gz:aB Mq arq 28 #[.int .i64 z.1.k,.bool z.1.yes,.bool z.1.neg,.slice A8 z.1.xs.length q8,.int .u64 (z.1.bits:Int),.string z.1.s,.slice none 0 0]:=Bx;replace E:=E.step1 GA ak.head;obtain ⟨HF,LW,aj,E⟩:=dz HF LW E aj (Y:=No) (ak.skip ak.aV) (Per.aS Gz ah.nil);refine yu ?_;refine zd 103 (.bool false) rfl (by simp[hm]) (qrz ?_);refine Ed ?_;exact vj
theorem Zl (hs:(i+j).natAbs<au^30) (h:j≠0) (hm:(vf 3 (vI (qI i j)) (vI j)).2=0):Calls prog 4 #[.agg #[.int .i64 2,.bool false,.bool (decide (i<0)),.slice A1 (limbs i).length c1,.int .u64 0,.string ⟨#[]⟩,.slice B1 0 d1],.agg #[.int .i64 2,.bool false,.bool (decide (j<0)),.slice A2 (limbs j).length c2,.int .u64 0,.string ⟨#[]⟩,.slice B2 0 d2]] w (aH w (.bool true)):=by
 obtain ⟨te,pe,hE⟩:=hE;have li:=zk hi;have lj:=zk hj;obtain ⟨S,hS⟩:∃S,S=i+j:=⟨_,rfl⟩;have hSb:S.natAbs<au^30:=hS▸hs;have lS:=zk hSb;have p1:(vI S,(0:Int))=vf 1 (vI i) (vI j):=by rw[hS];exact (qiz hi hj hs).symm
 have p2:(vI i,(0:Int))=vf 2 (vI S) (vI j):=by rw[hS];exact (nI hi hj hs).symm
 have hjl:0<(limbs j).length:=oa h;obtain ⟨Q,hQ⟩:∃Q,Q=qI i j:=⟨_,rfl⟩;obtain ⟨R,hR⟩:∃R,R=rI i j:=⟨_,rfl⟩;have hQb:Q.natAbs<au^30:=hQ▸(Ju hi hj h).1;have hRb:R.natAbs<au^30:=hR▸(Ju hi hj h).2;have lQ:=zk hQb;have lR:=zk hRb;have p5:(vI Q,(0:Int))=vf 5 (vI i) (vI j):=by rw[hQ];exact (qgv hi hj h).1.symm
 have p6:(vI R,(0:Int))=vf 6 (vI i) (vI j):=by rw[hR];exact (qgv hi hj h).2.symm
 have hqr:Q*j+R=i:=by rw[hQ,hR];exact ag5 h
 rw[←hQ] at hm;obtain ⟨arz,hM'⟩:=Zf hQb hj hm;obtain ⟨M,hM⟩:∃M,M=Q*j:=⟨_,rfl⟩;rw[←hM] at arz hM' hqr;have lM:=zk arz;have p3:(vI M,(0:Int))=vf 3 (vI Q) (vI j):=hM'.symm;have p7:(vI i,(0:Int))=vf 1 (vI M) (vI R):=by rw[qiz arz hRb (by rw[hqr];exact hi),hqr]
 refine zc func4 rfl ntmps4 rfl ?_;obtain ⟨HF,LW,aj,E⟩:=bg w;replace HF:=HF.and (Per.ay hx);replace HF:=HF.and (Per.ay hy);replace HF:=HF.and (Per.tabs aG (fun _ h=>h.elim));replace HF:=HF.and (Per.aR hE (fun _ h=>h.elim));refine zf ?_;intro aO w2 aD aI aW;obtain ⟨HF,LW,E⟩:=aK HF LW E aj aD aI;refine za rfl (zn rfl ?_);intro bM w4 aJ aM bN;obtain ⟨HF,LW,E⟩:=aK HF LW E aj aJ aM;refine zt ?_;refine zh rfl Ou rfl (xm _) E fun w5 E=>(zy ?_);refine za rfl (zb gT rfl ((jt _ (vI i) (vI j) A1 B1 A2 B2 c1 d1 c2 d2 (HF.on E).here.1.1.1.1.1.2 (show (limbs i).length≤9223372036854775807 from om) qk (HF.on E).here.1.1.1.1.2 (show (limbs j).length≤9223372036854775807 from om) qk (later hD (LW.step E aj).toBelow) (HF.on E).here.1.1.1.2 ⟨te,pe,(HF.on E).here.1.1.2⟩ 1 (iD 1 de) (fun _=>Dy) (vI S,0) p1).mono ?_));rintro e w6 ⟨A3,q3,rfl,o3,hb⟩;refine ⟨_,rfl,?_⟩;have XC:∀q9,(No) q9→q9<w5.heap.size:=ak.none_;replace E:=bQ E hb;obtain ⟨HF,LW,E⟩:=cZ HF LW E aj (Per.bP o3 XC);refine zq ?_;refine zi ?_;intro pF w8 eZ dQ fu;obtain ⟨fu,HF,E,aj⟩:=aZ HF LW E aj dQ fu;refine xh ?_;intro w9 Bx dQ;replace eZ:aB w9 pF 28 #[.int .i64 2,.bool false,.bool (decide (S<0)),.slice A3 (limbs S).length q3,.int .u64 0,.string ⟨#[]⟩,.slice none 0 0]:=Bx;replace E:=E.step1 dQ ak.head;obtain ⟨HF,LW,aj,E⟩:=dz HF LW E aj (Y:=No) (ak.skip ak.aV) (Per.aS eZ ah.nil);refine nM ?_;rintro e dI ⟨A4,q4,rfl,o4,hb⟩;refine ⟨_,rfl,?_⟩;have XC:∀q9,(No) q9→q9<w9.heap.size:=ak.none_;replace E:=bQ E hb;obtain ⟨HF,LW,E⟩:=cZ HF LW E aj (Per.bP o4 XC);refine zq ?_;refine zi ?_;intro gL eB dU dV iw;obtain ⟨iw,HF,E,aj⟩:=aZ HF LW E aj dV iw;refine zp (zo jf rfl rfl dU rfl rfl rfl ?_);intro fK Bx dV;replace dU:aB fK gL 28 #[.int .i64 2,.bool false,.bool (decide (i<0)),.slice A4 (limbs i).length q4,.int .u64 0,.string ⟨#[]⟩,.slice none 0 0]:=Bx;replace E:=E.step1 dV ak.head;obtain ⟨HF,LW,aj,E⟩:=dz HF LW E aj (Y:=No) (ak.skip ak.aV) (Per.aS dU ah.nil);refine nL ?_;rintro e dL ⟨rfl,hb⟩;refine ⟨_,rfl,?_⟩;replace E:=bQ E hb;refine Dj ?_;rintro e fM ⟨A5,q5,rfl,o5,hb⟩;refine ⟨_,rfl,?_⟩;have XC:∀q9,(No) q9→q9<dL.heap.size:=ak.none_;replace E:=bQ E hb;obtain ⟨HF,LW,E⟩:=cZ HF LW E aj (Per.bP o5 XC);refine zq ?_;refine zi ?_;intro dO nS cB dG dJ;obtain ⟨dJ,HF,E,aj⟩:=aZ HF LW E aj dG dJ;refine yfv ?_;intro fF Bx dG;replace cB:aB fF dO 28 #[.int .i64 2,.bool false,.bool (decide (Q<0)),.slice A5 (limbs Q).length q5,.int .u64 0,.string ⟨#[]⟩,.slice none 0 0]:=Bx;replace E:=E.step1 dG ak.head;obtain ⟨HF,LW,aj,E⟩:=dz HF LW E aj (Y:=No) (ak.skip ak.aV) (Per.aS cB ah.nil);refine Dk ?_;rintro e nT ⟨A6,q6,rfl,o6,hb⟩;refine ⟨_,rfl,?_⟩;have XC:∀q9,(No) q9→q9<fF.heap.size:=ak.none_;replace E:=bQ E hb;obtain ⟨HF,LW,E⟩:=cZ HF LW E aj (Per.bP o6 XC);refine zq ?_;refine zi ?_;intro oU Aj eG dR fV;obtain ⟨fV,HF,E,aj⟩:=aZ HF LW E aj dR fV;refine zp (zo jf rfl rfl eG rfl rfl rfl ?_);intro Fb Bx dR;replace eG:aB Fb oU 28 #[.int .i64 2,.bool false,.bool (decide (R<0)),.slice A6 (limbs R).length q6,.int .u64 0,.string ⟨#[]⟩,.slice none 0 0]:=Bx;replace E:=E.step1 dR ak.head;obtain ⟨HF,LW,aj,E⟩:=dz HF LW E aj (Y:=No) (ak.skip ak.aV) (Per.aS eG ah.nil);refine Di ?_;refine za rfl (zb gT rfl ((jt _ (vI Q) (vI j) A5 none A2 B2 q5 0 c2 d2 ((HF.on E).here.1.1.1.2).nums (show (limbs Q).length≤9223372036854775807 from om) qk (HF.on E).here.1.1.1.1.1.1.1.1.1.1.1.1.2 (show (limbs j).length≤9223372036854775807 from om) qk (later hD (LW.step E aj).toBelow) (HF.on E).here.1.1.1.1.1.1.1.1.1.1.1.2 ⟨te,pe,(HF.on E).here.1.1.1.1.1.1.1.1.1.1.2⟩ 3 (iD 3 de) (noF de) (vI M,0) p3).mono ?_));rintro e wU ⟨A7,q7,rfl,o7,hb⟩;refine ⟨_,rfl,?_⟩;have XC:∀q9,(No) q9→q9<Fb.heap.size:=ak.none_;replace E:=bQ E hb;obtain ⟨HF,LW,E⟩:=cZ HF LW E aj (Per.bP o7 XC);refine zq ?_;refine zi ?_;intro ar9 Ve Gw Gy UC;obtain ⟨UC,HF,E,aj⟩:=aZ HF LW E aj Gy UC;refine zp (zo jf rfl rfl Gw rfl rfl rfl ?_);intro w26 Bx Gy;replace Gw:aB w26 ar9 28 #[.int .i64 2,.bool false,.bool (decide (M<0)),.slice A7 (limbs M).length q7,.int .u64 0,.string ⟨#[]⟩,.slice none 0 0]:=Bx;replace E:=E.step1 Gy ak.head;obtain ⟨HF,LW,aj,E⟩:=dz HF LW E aj (Y:=No) (ak.skip ak.aV) (Per.aS Gw ah.nil);refine zr ?_;refine za rfl (zb gT rfl ((jt _ (vI M) (vI R) A7 none A6 none q7 0 q6 0 ((HF.on E).here.1.2).nums (show (limbs M).length≤9223372036854775807 from om) qk ((HF.on E).here.1.1.1.2).nums (show (limbs R).length≤9223372036854775807 from om) qk (later hD (LW.step E aj).toBelow) (HF.on E).here.1.1.1.1.1.1.1.1.1.1.1.1.1.2 ⟨te,pe,(HF.on E).here.1.1.1.1.1.1.1.1.1.1.1.1.2⟩ 1 (iD 1 de) (fun _=>Dy) (vI i,0) p7).mono ?_));rintro e w27 ⟨A8,q8,rfl,o8,hb⟩;refine ⟨_,rfl,?_⟩;have XC:∀q9,(No) q9→q9<w26.heap.size:=ak.none_;replace E:=bQ E hb;obtain ⟨HF,LW,E⟩:=cZ HF LW E aj (Per.bP o8 XC);refine zq ?_;refine zi ?_;intro arq w29 Gz GA UD;obtain ⟨UD,HF,E,aj⟩:=aZ HF LW E aj GA UD;refine zp (zo jf rfl rfl Gz rfl rfl rfl ?_);intro Mq Bx GA;replace Gz:aB Mq arq 28 #[.int .i64 2,.bool false,.bool (decide (i<0)),.slice A8 (limbs i).length q8,.int .u64 0,.string ⟨#[]⟩,.slice none 0 0]:=Bx;replace E:=E.step1 GA ak.head
 obtain ⟨HF,LW,aj,E⟩:=dz HF LW E aj (Y:=No) (ak.skip ak.aV) (Per.aS Gz ah.nil);refine gf ?_;refine bV rfl (zb ahx rfl ((wQ (yuz (zxz hi)) (vE _ (vI i) (vI i) A8 none A1 B1 q8 0 c1 d1 ((HF.on E).here.1.2).nums (show (limbs i).length≤9223372036854775807 from om) qk (HF.on E).here.1.1.1.1.1.1.1.1.1.1.1.1.1.1.1.1.1.2 (show (limbs i).length≤9223372036854775807 from om) qk)).mono ?_));rintro e w31 ⟨rfl,hb⟩;refine ⟨_,rfl,?_⟩;replace E:=bQ E hb;refine qrz ?_;refine yq ?_;exact vj
end
section
variable (w:World) (ua ub:PV) (A1 B1 A2 B2:Option Addr) (c1 d1 c2 d2:Nat) (hx:aA w A1 ua.xs) (hl:ua.xs.length≤9223372036854775807) (ha:ua.bits<18446744073709551616) (hy:aA w A2 ub.xs) (hl':ub.xs.length≤9223372036854775807) (hb0:ub.bits<18446744073709551616)
variable {bp op cp bf of cf bl ol cl:Nat} (hD:∀b,Below w.heap.size w b→fD b) (aG:dK bp op cp bf of cf bl ol cl w) (hE:∃te pe,w.cell? ⟨4,0,none⟩=some (.iface te pe))
include hx hl ha hy hl' hb0 hD aG hE
theorem aFq (ka:ua.k=2) (kb:ub.k≠2):Calls prog 4 #[aP ua A1 c1 B1 d1,aP ub A2 c2 B2 d2] w (aH w (.bool true)):=by
 have _:=hx;have _:=hl;have _:=ha;have _:=hy;have _:=hl';have _:=hb0;obtain ⟨te,pe,hE⟩:=hE;obtain ⟨p,hp⟩:∃p,p=vf 1 ua ub:=⟨_,rfl⟩;refine zc func4 rfl ntmps4 rfl ?_;obtain ⟨HF,LW,aj,E⟩:=bg w;replace HF:=HF.and (Per.ay hx);replace HF:=HF.and (Per.ay hy);replace HF:=HF.and (Per.tabs aG (fun _ h=>h.elim));replace HF:=HF.and (Per.aR hE (fun _ h=>h.elim));refine zf ?_;intro aO w2 aD aI aW;obtain ⟨HF,LW,E⟩:=aK HF LW E aj aD aI;refine za rfl (zn rfl ?_);intro bM w4 aJ aM bN;obtain ⟨HF,LW,E⟩:=aK HF LW E aj aJ aM;refine zt ?_;refine zh rfl Ou rfl (xm _) E fun w5 E=>(zy ?_);refine za rfl (zb gT rfl ((jt _ ua ub A1 B1 A2 B2 c1 d1 c2 d2 (HF.on E).here.1.1.1.1.1.2 hl ha (HF.on E).here.1.1.1.1.2 hl' hb0 (later hD (LW.step E aj).toBelow) (HF.on E).here.1.1.1.2 ⟨te,pe,(HF.on E).here.1.1.2⟩ 1 (iD 1 de) (fun _=>Dy) p hp).mono ?_));rintro e w6 ⟨A3,q3,rfl,o3,hb⟩;refine ⟨_,rfl,?_⟩;have XC:∀q9,(No) q9→q9<w5.heap.size:=ak.none_;replace E:=bQ E hb;obtain ⟨HF,LW,E⟩:=cZ HF LW E aj (Per.bP o3 XC);refine zq ?_;refine zi ?_;intro pF w8 eZ dQ fu;obtain ⟨fu,HF,E,aj⟩:=aZ HF LW E aj dQ fu;refine xh ?_;intro w9 Bx dQ;replace eZ:aB w9 pF 28 #[.int .i64 p.1.k,.bool p.1.yes,.bool p.1.neg,.slice A3 p.1.xs.length q3,.int .u64 (p.1.bits:Int),.string p.1.s,.slice none 0 0]:=Bx;replace E:=E.step1 dQ ak.head;obtain ⟨HF,LW,aj,E⟩:=dz HF LW E aj (Y:=No) (ak.skip ak.aV) (Per.aS eZ ah.nil);refine zy ?_;refine zd 39 (.bool true) rfl (by simp[ka]) (zv ?_);refine zd 44 (.bool false) rfl (by simp[kb]) (xd ?_);exact UA
theorem aFz (ka:ua.k=2) (kb:ub.k=2) (he:(vf 1 ua ub).2≠0):Calls prog 4 #[aP ua A1 c1 B1 d1,aP ub A2 c2 B2 d2] w (aH w (.bool true)):=by
 have _:=hx;have _:=hl;have _:=ha;have _:=hy;have _:=hl';have _:=hb0;obtain ⟨te,pe,hE⟩:=hE;obtain ⟨p,hp⟩:∃p,p=vf 1 ua ub:=⟨_,rfl⟩;rw[←hp] at he;refine zc func4 rfl ntmps4 rfl ?_;obtain ⟨HF,LW,aj,E⟩:=bg w;replace HF:=HF.and (Per.ay hx);replace HF:=HF.and (Per.ay hy);replace HF:=HF.and (Per.tabs aG (fun _ h=>h.elim));replace HF:=HF.and (Per.aR hE (fun _ h=>h.elim));refine zf ?_;intro aO w2 aD aI aW;obtain ⟨HF,LW,E⟩:=aK HF LW E aj aD aI;refine za rfl (zn rfl ?_);intro bM w4 aJ aM bN;obtain ⟨HF,LW,E⟩:=aK HF LW E aj aJ aM;refine zt ?_;refine zh rfl Ou rfl (xm _) E fun w5 E=>(zy ?_);refine za rfl (zb gT rfl ((jt _ ua ub A1 B1 A2 B2 c1 d1 c2 d2 (HF.on E).here.1.1.1.1.1.2 hl ha (HF.on E).here.1.1.1.1.2 hl' hb0 (later hD (LW.step E aj).toBelow) (HF.on E).here.1.1.1.2 ⟨te,pe,(HF.on E).here.1.1.2⟩ 1 (iD 1 de) (fun _=>Dy) p hp).mono ?_));rintro e w6 ⟨A3,q3,rfl,o3,hb⟩;refine ⟨_,rfl,?_⟩;have XC:∀q9,(No) q9→q9<w5.heap.size:=ak.none_;replace E:=bQ E hb;obtain ⟨HF,LW,E⟩:=cZ HF LW E aj (Per.bP o3 XC);refine zq ?_;refine zi ?_;intro pF w8 eZ dQ fu;obtain ⟨fu,HF,E,aj⟩:=aZ HF LW E aj dQ fu;refine xh ?_;intro w9 Bx dQ;replace eZ:aB w9 pF 28 #[.int .i64 p.1.k,.bool p.1.yes,.bool p.1.neg,.slice A3 p.1.xs.length q3,.int .u64 (p.1.bits:Int),.string p.1.s,.slice none 0 0]:=Bx;replace E:=E.step1 dQ ak.head;obtain ⟨HF,LW,aj,E⟩:=dz HF LW E aj (Y:=No) (ak.skip ak.aV) (Per.aS eZ ah.nil);refine zy ?_;refine zd 39 (.bool true) rfl (by simp[ka]) (zv ?_);refine zd 44 (.bool true) rfl (by simp[kb]) (zv ?_);refine ze 47 (.bool false) rfl (by simp[he]) (zy ?_);exact UA
theorem aFx (k1:ua.k≠1) (k2:ua.k≠2) (ka:ua.k≠4):Calls prog 4 #[aP ua A1 c1 B1 d1,aP ub A2 c2 B2 d2] w (aH w (.bool true)):=by
 have _:=hx;have _:=hl;have _:=ha;have _:=hy;have _:=hl';have _:=hb0;obtain ⟨te,pe,hE⟩:=hE;obtain ⟨p,hp⟩:∃p,p=vf 1 ua ub:=⟨_,rfl⟩;refine zc func4 rfl ntmps4 rfl ?_;obtain ⟨HF,LW,aj,E⟩:=bg w;replace HF:=HF.and (Per.ay hx);replace HF:=HF.and (Per.ay hy);replace HF:=HF.and (Per.tabs aG (fun _ h=>h.elim));replace HF:=HF.and (Per.aR hE (fun _ h=>h.elim));refine zf ?_;intro aO w2 aD aI aW;obtain ⟨HF,LW,E⟩:=aK HF LW E aj aD aI;refine za rfl (zn rfl ?_);intro bM w4 aJ aM bN;obtain ⟨HF,LW,E⟩:=aK HF LW E aj aJ aM;refine zt ?_;refine zh rfl Ou rfl (xm _) E fun w5 E=>(zy ?_);refine za rfl (zb gT rfl ((jt _ ua ub A1 B1 A2 B2 c1 d1 c2 d2 (HF.on E).here.1.1.1.1.1.2 hl ha (HF.on E).here.1.1.1.1.2 hl' hb0 (later hD (LW.step E aj).toBelow) (HF.on E).here.1.1.1.2 ⟨te,pe,(HF.on E).here.1.1.2⟩ 1 (iD 1 de) (fun _=>Dy) p hp).mono ?_));rintro e w6 ⟨A3,q3,rfl,o3,hb⟩;refine ⟨_,rfl,?_⟩;have XC:∀q9,(No) q9→q9<w5.heap.size:=ak.none_;replace E:=bQ E hb;obtain ⟨HF,LW,E⟩:=cZ HF LW E aj (Per.bP o3 XC);refine zq ?_;refine zi ?_;intro pF w8 eZ dQ fu;obtain ⟨fu,HF,E,aj⟩:=aZ HF LW E aj dQ fu;refine xh ?_;intro w9 Bx dQ;replace eZ:aB w9 pF 28 #[.int .i64 p.1.k,.bool p.1.yes,.bool p.1.neg,.slice A3 p.1.xs.length q3,.int .u64 (p.1.bits:Int),.string p.1.s,.slice none 0 0]:=Bx;replace E:=E.step1 dQ ak.head;obtain ⟨HF,LW,aj,E⟩:=dz HF LW E aj (Y:=No) (ak.skip ak.aV) (Per.aS eZ ah.nil);refine zy ?_;refine zd 39 (.bool false) rfl (by simp[k2]) (OI ?_);refine zd 116 (.bool false) rfl (by simp[k1]) (xd ?_);exact Jy
theorem aFj (ka:ua.k=1) (ga:ua.good=false):Calls prog 4 #[aP ua A1 c1 B1 d1,aP ub A2 c2 B2 d2] w (aH w (.bool true)):=by
 have _:=hx;have _:=hl;have _:=ha;have _:=hy;have _:=hl';have _:=hb0;obtain ⟨te,pe,hE⟩:=hE;obtain ⟨p,hp⟩:∃p,p=vf 1 ua ub:=⟨_,rfl⟩;refine zc func4 rfl ntmps4 rfl ?_;obtain ⟨HF,LW,aj,E⟩:=bg w;replace HF:=HF.and (Per.ay hx);replace HF:=HF.and (Per.ay hy);replace HF:=HF.and (Per.tabs aG (fun _ h=>h.elim));replace HF:=HF.and (Per.aR hE (fun _ h=>h.elim));refine zf ?_;intro aO w2 aD aI aW;obtain ⟨HF,LW,E⟩:=aK HF LW E aj aD aI;refine za rfl (zn rfl ?_);intro bM w4 aJ aM bN;obtain ⟨HF,LW,E⟩:=aK HF LW E aj aJ aM;refine zt ?_;refine zh rfl Ou rfl (xm _) E fun w5 E=>(zy ?_);refine za rfl (zb gT rfl ((jt _ ua ub A1 B1 A2 B2 c1 d1 c2 d2 (HF.on E).here.1.1.1.1.1.2 hl ha (HF.on E).here.1.1.1.1.2 hl' hb0 (later hD (LW.step E aj).toBelow) (HF.on E).here.1.1.1.2 ⟨te,pe,(HF.on E).here.1.1.2⟩ 1 (iD 1 de) (fun _=>Dy) p hp).mono ?_));rintro e w6 ⟨A3,q3,rfl,o3,hb⟩;refine ⟨_,rfl,?_⟩;have XC:∀q9,(No) q9→q9<w5.heap.size:=ak.none_;replace E:=bQ E hb;obtain ⟨HF,LW,E⟩:=cZ HF LW E aj (Per.bP o3 XC);refine zq ?_;refine zi ?_;intro pF w8 eZ dQ fu;obtain ⟨fu,HF,E,aj⟩:=aZ HF LW E aj dQ fu;refine xh ?_;intro w9 Bx dQ;replace eZ:aB w9 pF 28 #[.int .i64 p.1.k,.bool p.1.yes,.bool p.1.neg,.slice A3 p.1.xs.length q3,.int .u64 (p.1.bits:Int),.string p.1.s,.slice none 0 0]:=Bx;replace E:=E.step1 dQ ak.head;obtain ⟨HF,LW,aj,E⟩:=dz HF LW E aj (Y:=No) (ak.skip ak.aV) (Per.aS eZ ah.nil);refine nK ?_;refine zd 116 (.bool true) rfl (by simp[ka]) (aQ ?_);refine bV rfl (zb Ov rfl ((yhk _ ua A1 B1 c1 d1 (HF.on E).here.1.1.1.1.1.1.1.2 hl false ga).mono ?_));rintro e dI ⟨rfl,hb⟩;refine ⟨_,rfl,?_⟩;replace E:=bQ E hb;refine gf ?_;exact Jy
theorem aG0 (ka:ua.k=1) (ga:ua.good=true):Calls prog 4 #[aP ua A1 c1 B1 d1,aP ub A2 c2 B2 d2] w (aH w (.bool true)):=by
 have _:=hx;have _:=hl;have _:=ha;have _:=hy;have _:=hl';have _:=hb0;obtain ⟨te,pe,hE⟩:=hE;obtain ⟨p,hp⟩:∃p,p=vf 1 ua ub:=⟨_,rfl⟩;have hpl:p.1.xs.length≤1048576:=hp▸Df ua ub;obtain ⟨K,hK⟩:∃K,K=qu ua:=⟨_,rfl⟩;have hKb:K.natAbs<au^30:=hK▸xx ga (Or.inl ka);have lK:=zk hKb;have hp2:p=vf 1 (vI K) ub:=by rw[hp,hK];exact Ur ga ka
 refine zc func4 rfl ntmps4 rfl ?_;obtain ⟨HF,LW,aj,E⟩:=bg w;replace HF:=HF.and (Per.ay hx);replace HF:=HF.and (Per.ay hy);replace HF:=HF.and (Per.tabs aG (fun _ h=>h.elim));replace HF:=HF.and (Per.aR hE (fun _ h=>h.elim));refine zf ?_;intro aO w2 aD aI aW;obtain ⟨HF,LW,E⟩:=aK HF LW E aj aD aI;refine za rfl (zn rfl ?_);intro bM w4 aJ aM bN;obtain ⟨HF,LW,E⟩:=aK HF LW E aj aJ aM;refine zt ?_;refine zh rfl Ou rfl (xm _) E fun w5 E=>(zy ?_);refine za rfl (zb gT rfl ((jt _ ua ub A1 B1 A2 B2 c1 d1 c2 d2 (HF.on E).here.1.1.1.1.1.2 hl ha (HF.on E).here.1.1.1.1.2 hl' hb0 (later hD (LW.step E aj).toBelow) (HF.on E).here.1.1.1.2 ⟨te,pe,(HF.on E).here.1.1.2⟩ 1 (iD 1 de) (fun _=>Dy) p hp).mono ?_));rintro e w6 ⟨A3,q3,rfl,o3,hb⟩;refine ⟨_,rfl,?_⟩;have XC:∀q9,(No) q9→q9<w5.heap.size:=ak.none_;replace E:=bQ E hb;obtain ⟨HF,LW,E⟩:=cZ HF LW E aj (Per.bP o3 XC);refine zq ?_;refine zi ?_;intro pF w8 eZ dQ fu;obtain ⟨fu,HF,E,aj⟩:=aZ HF LW E aj dQ fu;refine xh ?_;intro w9 Bx dQ;replace eZ:aB w9 pF 28 #[.int .i64 p.1.k,.bool p.1.yes,.bool p.1.neg,.slice A3 p.1.xs.length q3,.int .u64 (p.1.bits:Int),.string p.1.s,.slice none 0 0]:=Bx;replace E:=E.step1 dQ ak.head;obtain ⟨HF,LW,aj,E⟩:=dz HF LW E aj (Y:=No) (ak.skip ak.aV) (Per.aS eZ ah.nil);refine nK ?_;refine zd 116 (.bool true) rfl (by simp[ka]) (aQ ?_);refine bV rfl (zb Ov rfl ((yhk _ ua A1 B1 c1 d1 (HF.on E).here.1.1.1.1.1.1.1.2 hl true ga).mono ?_));rintro e dI ⟨rfl,hb⟩;refine ⟨_,rfl,?_⟩;replace E:=bQ E hb;refine zr ?_;refine za rfl (zb aHz rfl ((hK▸MK _ ua A1 B1 c1 d1 (HF.on E).here.1.1.1.1.1.1.1.2 hl ha ga ka).mono ?_));rintro e dS ⟨A4,q4,rfl,o4,hb⟩;refine ⟨_,rfl,?_⟩;have XC:∀q9,(No) q9→q9<dI.heap.size:=ak.none_;replace E:=bQ E hb;obtain ⟨HF,LW,E⟩:=cZ HF LW E aj (Per.bP o4 XC);refine zq ?_;refine zi ?_;intro lu fK eu dH eD;obtain ⟨eD,HF,E,aj⟩:=aZ HF LW E aj dH eD;refine zp (zo jf rfl rfl eu rfl rfl rfl ?_);intro dL Bx dH;replace eu:aB dL lu 28 #[.int .i64 2,.bool false,.bool (decide (K<0)),.slice A4 (limbs K).length q4,.int .u64 0,.string ⟨#[]⟩,.slice none 0 0]:=Bx;replace E:=E.step1 dH ak.head;obtain ⟨HF,LW,aj,E⟩:=dz HF LW E aj (Y:=No) (ak.skip ak.aV) (Per.aS eu ah.nil);refine zr ?_;refine za rfl (zb gT rfl ((jt _ (vI K) ub A4 none A2 B2 q4 0 c2 d2 ((HF.on E).here.1.2).nums (show (limbs K).length≤9223372036854775807 from om) qk (HF.on E).here.1.1.1.1.1.1.1.1.2 hl' hb0 (later hD (LW.step E aj).toBelow) (HF.on E).here.1.1.1.1.1.1.1.2 ⟨te,pe,(HF.on E).here.1.1.1.1.1.1.2⟩ 1 (iD 1 de) (fun _=>Dy) p hp2).mono ?_));rintro e fM ⟨A5,q5,rfl,o5,hb⟩;refine ⟨_,rfl,?_⟩;have XC:∀q9,(No) q9→q9<dL.heap.size:=ak.none_;replace E:=bQ E hb;obtain ⟨HF,LW,E⟩:=cZ HF LW E aj (Per.bP o5 XC);refine zq ?_;refine zi ?_;intro dO nS cB dG dJ;obtain ⟨dJ,HF,E,aj⟩:=aZ HF LW E aj dG dJ;refine yfv ?_;intro fF Bx dG;replace cB:aB fF dO 28 #[.int .i64 p.1.k,.bool p.1.yes,.bool p.1.neg,.slice A5 p.1.xs.length q5,.int .u64 (p.1.bits:Int),.string p.1.s,.slice none 0 0]:=Bx;replace E:=E.step1 dG ak.head;obtain ⟨HF,LW,aj,E⟩:=dz HF LW E aj (Y:=No) (ak.skip ak.aV) (Per.aS cB ah.nil);refine qo ?_;refine zd 134 (.bool false) rfl (by simp) (zu ?_);refine bV rfl (zb au4 rfl ((ar8 _ p.1 A3 A5 q3 q5 ((HF.on E).here.1.1.1.1.1.2).nums ((HF.on E).here.1.2).nums hpl).mono ?_));rintro e nT ⟨rfl,hb⟩;refine ⟨_,rfl,?_⟩;replace E:=bQ E hb;refine go ?_;exact Jy
theorem aG1 (ka:ua.k=4) (kb:ub.k≠2):Calls prog 4 #[aP ua A1 c1 B1 d1,aP ub A2 c2 B2 d2] w (aH w (.bool true)):=by
 have _:=hx;have _:=hl;have _:=ha;have _:=hy;have _:=hl';have _:=hb0;obtain ⟨te,pe,hE⟩:=hE;obtain ⟨p,hp⟩:∃p,p=vf 1 ua ub:=⟨_,rfl⟩;refine zc func4 rfl ntmps4 rfl ?_;obtain ⟨HF,LW,aj,E⟩:=bg w;replace HF:=HF.and (Per.ay hx);replace HF:=HF.and (Per.ay hy);replace HF:=HF.and (Per.tabs aG (fun _ h=>h.elim));replace HF:=HF.and (Per.aR hE (fun _ h=>h.elim));refine zf ?_;intro aO w2 aD aI aW;obtain ⟨HF,LW,E⟩:=aK HF LW E aj aD aI;refine za rfl (zn rfl ?_);intro bM w4 aJ aM bN;obtain ⟨HF,LW,E⟩:=aK HF LW E aj aJ aM;refine zt ?_;refine zh rfl Ou rfl (xm _) E fun w5 E=>(zy ?_);refine za rfl (zb gT rfl ((jt _ ua ub A1 B1 A2 B2 c1 d1 c2 d2 (HF.on E).here.1.1.1.1.1.2 hl ha (HF.on E).here.1.1.1.1.2 hl' hb0 (later hD (LW.step E aj).toBelow) (HF.on E).here.1.1.1.2 ⟨te,pe,(HF.on E).here.1.1.2⟩ 1 (iD 1 de) (fun _=>Dy) p hp).mono ?_));rintro e w6 ⟨A3,q3,rfl,o3,hb⟩;refine ⟨_,rfl,?_⟩;have XC:∀q9,(No) q9→q9<w5.heap.size:=ak.none_;replace E:=bQ E hb;obtain ⟨HF,LW,E⟩:=cZ HF LW E aj (Per.bP o3 XC);refine zq ?_;refine zi ?_;intro pF w8 eZ dQ fu;obtain ⟨fu,HF,E,aj⟩:=aZ HF LW E aj dQ fu;refine xh ?_;intro w9 Bx dQ;replace eZ:aB w9 pF 28 #[.int .i64 p.1.k,.bool p.1.yes,.bool p.1.neg,.slice A3 p.1.xs.length q3,.int .u64 (p.1.bits:Int),.string p.1.s,.slice none 0 0]:=Bx;replace E:=E.step1 dQ ak.head;obtain ⟨HF,LW,aj,E⟩:=dz HF LW E aj (Y:=No) (ak.skip ak.aV) (Per.aS eZ ah.nil);refine Dh ?_;refine zd 148 (.bool true) rfl (by simp[kb]) (qA ?_);exact vj
theorem aG2 (ka:ua.k=4) (kb:ub.k=2) (hg:(ua.good&&ub.good)=false):Calls prog 4 #[aP ua A1 c1 B1 d1,aP ub A2 c2 B2 d2] w (aH w (.bool true)):=by
 have _:=hx;have _:=hl;have _:=ha;have _:=hy;have _:=hl';have _:=hb0;obtain ⟨te,pe,hE⟩:=hE;obtain ⟨p,hp⟩:∃p,p=vf 1 ua ub:=⟨_,rfl⟩;refine zc func4 rfl ntmps4 rfl ?_;obtain ⟨HF,LW,aj,E⟩:=bg w;replace HF:=HF.and (Per.ay hx);replace HF:=HF.and (Per.ay hy);replace HF:=HF.and (Per.tabs aG (fun _ h=>h.elim));replace HF:=HF.and (Per.aR hE (fun _ h=>h.elim));refine zf ?_;intro aO w2 aD aI aW;obtain ⟨HF,LW,E⟩:=aK HF LW E aj aD aI;refine za rfl (zn rfl ?_);intro bM w4 aJ aM bN;obtain ⟨HF,LW,E⟩:=aK HF LW E aj aJ aM;refine zt ?_;refine zh rfl Ou rfl (xm _) E fun w5 E=>(zy ?_);refine za rfl (zb gT rfl ((jt _ ua ub A1 B1 A2 B2 c1 d1 c2 d2 (HF.on E).here.1.1.1.1.1.2 hl ha (HF.on E).here.1.1.1.1.2 hl' hb0 (later hD (LW.step E aj).toBelow) (HF.on E).here.1.1.1.2 ⟨te,pe,(HF.on E).here.1.1.2⟩ 1 (iD 1 de) (fun _=>Dy) p hp).mono ?_));rintro e w6 ⟨A3,q3,rfl,o3,hb⟩;refine ⟨_,rfl,?_⟩;have XC:∀q9,(No) q9→q9<w5.heap.size:=ak.none_;replace E:=bQ E hb;obtain ⟨HF,LW,E⟩:=cZ HF LW E aj (Per.bP o3 XC);refine zq ?_;refine zi ?_;intro pF w8 eZ dQ fu;obtain ⟨fu,HF,E,aj⟩:=aZ HF LW E aj dQ fu;refine xh ?_;intro w9 Bx dQ;replace eZ:aB w9 pF 28 #[.int .i64 p.1.k,.bool p.1.yes,.bool p.1.neg,.slice A3 p.1.xs.length q3,.int .u64 (p.1.bits:Int),.string p.1.s,.slice none 0 0]:=Bx;replace E:=E.step1 dQ ak.head;obtain ⟨HF,LW,aj,E⟩:=dz HF LW E aj (Y:=No) (ak.skip ak.aV) (Per.aS eZ ah.nil);refine Dh ?_;refine zd 148 (.bool false) rfl (by simp[kb]) (zu ?_);refine bV rfl (zb en8 rfl ((Jw _ ua ub A1 B1 A2 B2 c1 d1 c2 d2 (HF.on E).here.1.1.1.1.1.1.1.2 hl (HF.on E).here.1.1.1.1.1.1.2 hl' false hg).mono ?_));rintro e dI ⟨rfl,hb⟩;refine ⟨_,rfl,?_⟩;replace E:=bQ E hb;refine gf ?_;exact vj
end
end Go.Proofs.YtmnmebdmpigddaaGreatDoor
namespace Go.Proofs.YtmnmebdmpigddaaGreatDoor
open Go.RowKit
def v1:PV:=⟨2,false,false,[1],0,⟨#[]⟩,0⟩
theorem arx:vI 1=v1:=by
 show (⟨2,false,decide ((1:Int)<0),limbs 1,0,⟨#[]⟩,0⟩:PV)=_
 rw[Xq];rfl
theorem qux {s:ByteArray}:(vT s).bits<18446744073709551616:=show (0:Nat)<18446744073709551616 from de
theorem Jz {s:ByteArray} {j:Int} (hs:s.size≤20000) (hj:j.natAbs<au^30):vf 3 (vT s) (vI j)=gQ s j:=by
 unfold vf;rw[ywq hs,zxz hj,if_pos (show (true&&true)=true from rfl),if_neg (show ¬((3:Int)<1∨7<(3:Int)) from de),if_neg (show ¬(qd (vT s).k&&qd (vI j).k)=true from (show ¬(false&&true)=true from de)),if_neg (show ¬((3:Int)=1∧(vT s).k=4∧(vI j).k=4) from fun h=>absurd h.1 de),if_pos (show (3:Int)=3∧(vT s).k=4∧((vI j).k=1∨(vI j).k=2) from ⟨rfl,rfl,Or.inr rfl⟩),nH];rfl
theorem Dl {s:ByteArray} {n:Int} (h0:0≤n) (hs:s.size≤20000) (h:(gQ s n).2=0):∃t:ByteArray,t.size≤20000∧gQ s n=(vT t,0):=by
 obtain ⟨m,hm⟩:=Int.eq_ofNat_of_zero_le h0;obtain ⟨e,hk⟩:=Gu hm h;have _:=hs;refine ⟨_,?_,e⟩;rw[sJ];rcases hk with hk | hk
 · rw[hk];omega
 · exact hk
theorem ML {s:ByteArray} {j:Int} {x y:PV×Int} (hs:s.size≤20000) (hj:j.natAbs<au^30) (hk:(j+1).natAbs<au^30) (hx:x=vf 3 (vT s) (vI j)) (hy:y=vf 3 (vT s) (vI (j+1))) (h0:0≤j) (ex:x.2=0) (ey:y.2=0) :
 y=vf 1 x.1 (vT s)∧y.1.good=true∧x.1.xs.length=0∧x.1.bits=0∧x.1.ni=0∧y.1.xs.length=0∧y.1.bits=0∧y.1.ni=0:=by
 rw[Jz hs hj] at hx;rw[Jz hs hk] at hy;have hn:=Ut h0 hs (by rw[←hx];exact ex) (by rw[←hy];exact ey);obtain ⟨t,ht,e1⟩:=Dl h0 hs (by rw[←hx];exact ex);obtain ⟨u,hu,e2⟩:=Dl (by omega:0≤j+1) hs (by rw[←hy];exact ey);rw[←hx,←hy] at hn;refine ⟨hn.symm,?_⟩;rw[hx,hy,e1,e2];exact ⟨ywq hu,rfl,rfl,rfl,rfl,rfl,rfl⟩
theorem GD {j:Int} {n:PV×Int} (hj:j.natAbs<au^30) (hn:n=vf 1 (vI j) v1):n.1.xs.length≤1048576∧n.1.bits<18446744073709551616∧n.1.ni=0∧(n.2=0→(j+1).natAbs<au^30∧n.1=vI (j+1)):=by
 have h1:(1:Int).natAbs<au^30:=by unfold au;decide
 rw[←arx] at hn;refine ⟨hn▸Df _ _,?_,?_,fun e=>?_⟩
 · rw[hn,Uo hj h1 de de de];split
   · exact qk
   · exact (show (0:Nat)<18446744073709551616 from de)
 · rw[hn,Uo hj h1 de de de];split<;>rfl
 · obtain ⟨h2,h3⟩:=Js hj h1 (by rw[←hn];exact e);exact ⟨h2,by rw[hn,h3]⟩
theorem arj {w:World} {g:Nat} {T:TypeId} (h:aB w g T #[.int .u64 1]):aA w (some ⟨g,0,none⟩) [1]:=by
 refine ⟨xy (by simp),fun _=>⟨g,0,rfl,h.lt,fun k hk=>?_⟩⟩;obtain rfl:k=0:=by simpa using hk
 rw[Nat.zero_add,h.cell];simp[nth]
end Go.Proofs.YtmnmebdmpigddaaGreatDoor
namespace Go.Proofs.YtmnmebdmpigddaaGreatDoor
open Go.RowKit Proofs.Tryz
attribute [local irreducible] OW RS CW EW
section
variable (w:World) (s:ByteArray) (j:Int) (A1 B1 A2 B2:Option Addr) (c1 d1 c2 d2:Nat) (hs:s.size≤20000) (hj:j.natAbs<au^30) (hy:aA w A2 (limbs j))
variable {bp op cp bf of cf bl ol cl:Nat} (hD:∀b,Below w.heap.size w b→fD b) (aG:dK bp op cp bf of cf bl ol cl w) (hE:∃te pe,w.cell? ⟨4,0,none⟩=some (.iface te pe))
include hs hj hy hD aG hE
theorem aG3:Calls prog 4 #[.agg #[.int .i64 4,.bool false,.bool false,.slice A1 0 c1,.int .u64 0,.string s,.slice B1 0 d1],.agg #[.int .i64 2,.bool false,.bool (decide (j<0)),.slice A2 (limbs j).length c2,.int .u64 0,.string ⟨#[]⟩,.slice B2 0 d2]] w (aH w (.bool true)):=by
 obtain ⟨te,pe,hE⟩:=hE;have lj:=zk hj;obtain ⟨p,hp⟩:∃p,p=vf 1 (vT s) (vI j):=⟨_,rfl⟩;obtain ⟨n,hn⟩:∃n,n=vf 1 (vI j) v1:=⟨_,rfl⟩;obtain ⟨x,hx⟩:∃x,x=vf 3 (vT s) (vI j):=⟨_,rfl⟩;obtain ⟨y,hyy⟩:∃y,y=vf 3 (vT s) n.1:=⟨_,rfl⟩;obtain ⟨nl,nb,ni,nx⟩:=GD hj hn;refine zc func4 rfl ntmps4 rfl ?_;obtain ⟨HF,LW,aj,E⟩:=bg w;replace HF:=HF.and (Per.ay hy);replace HF:=HF.and (Per.tabs aG (fun _ h=>h.elim));replace HF:=HF.and (Per.aR hE (fun _ h=>h.elim));refine zf ?_;intro aO w2 aD aI aW;obtain ⟨HF,LW,E⟩:=aK HF LW E aj aD aI;refine za rfl (zn rfl ?_);intro bM w4 aJ aM bN;obtain ⟨HF,LW,E⟩:=aK HF LW E aj aJ aM;refine zt ?_;refine zh rfl Ou rfl (xm _) E fun w5 E=>(zy ?_);refine za rfl (zb gT rfl ((jt _ (vT s) (vI j) A1 B1 A2 B2 c1 d1 c2 d2 xo (show (0:Nat)≤9223372036854775807 from de) qux (HF.on E).here.1.1.1.1.2 (show (limbs j).length≤9223372036854775807 from om) qk (later hD (LW.step E aj).toBelow) (HF.on E).here.1.1.1.2 ⟨te,pe,(HF.on E).here.1.1.2⟩ 1 (iD 1 de) (fun _=>Dy) p hp).mono ?_));rintro e w6 ⟨A3,q3,rfl,o3,hb⟩;refine ⟨_,rfl,?_⟩;have XC:∀q9,(No) q9→q9<w5.heap.size:=ak.none_;replace E:=bQ E hb;obtain ⟨HF,LW,E⟩:=cZ HF LW E aj (Per.bP o3 XC);refine zq ?_;refine zi ?_;intro pF w8 eZ dQ fu;obtain ⟨fu,HF,E,aj⟩:=aZ HF LW E aj dQ fu;refine xh ?_;intro w9 Bx dQ;replace eZ:aB w9 pF 28 #[.int .i64 p.1.k,.bool p.1.yes,.bool p.1.neg,.slice A3 p.1.xs.length q3,.int .u64 (p.1.bits:Int),.string p.1.s,.slice none 0 0]:=Bx;replace E:=E.step1 dQ ak.head;obtain ⟨HF,LW,aj,E⟩:=dz HF LW E aj (Y:=No) (ak.skip ak.aV) (Per.aS eZ ah.nil);refine qrz ?_;refine jm ?_;refine bV rfl (zb en8 rfl ((Jw _ (vT s) (vI j) A1 B1 A2 B2 c1 d1 c2 d2 xo (show (0:Nat)≤9223372036854775807 from de) (HF.on E).here.1.1.1.1.1.1.2 (show (limbs j).length≤9223372036854775807 from om) true (by rw[ywq hs,zxz hj];rfl)).mono ?_));rintro e dI ⟨rfl,hb⟩;refine ⟨_,rfl,?_⟩;replace E:=bQ E hb;refine qo ?_;refine za rfl (ysk (cs:=#[.int .u64 1]) u22 yA aH8 de rfl (by rw[iW];rfl) ?_);intro gL eB dU dV iw;obtain ⟨HF,LW,E⟩:=aK HF LW E aj dU dV;refine za rfl (ja (cs:=#[.bool false,.slice (some ⟨gL,0,none⟩) 1 1]) Ot JN rfl rfl (za rfl (ja (cs:=#[.int .i64 2,.bool false,.bool false,.slice (some ⟨gL,0,none⟩) 1 1,.int .u64 0,.string ⟨#[]⟩,.slice none 0 0]) wS yB rfl rfl (zi ?_))));intro Le dL iy lI Fy;obtain ⟨Fy,HF,E,aj⟩:=aZ HF LW E aj lI Fy;refine zp (zo jf rfl rfl iy rfl rfl rfl ?_);intro fM Bx lI;replace iy:aB fM Le 28 #[.int .i64 2,.bool false,.bool false,.slice (some ⟨gL,0,none⟩) 1 1,.int .u64 0,.string ⟨#[]⟩,.slice none 0 0]:=Bx;replace E:=E.step1 lI ak.head;obtain ⟨HF,LW,aj,E⟩:=dz HF LW E aj (Y:=No) (ak.skip ak.aV) (Per.aS iy ah.nil);refine zt ?_;refine za rfl (zb gT rfl ((jt _ (vI j) v1 A2 B2 (some ⟨gL,0,none⟩) none c2 d2 1 0 (HF.on E).here.1.1.1.1.1.1.1.1.2 (show (limbs j).length≤9223372036854775807 from om) qk (arj (HF.on E).here.1.2) (show (1:Nat)≤9223372036854775807 from de) (show (0:Nat)<18446744073709551616 from de) (later hD (LW.step E aj).toBelow) (HF.on E).here.1.1.1.1.1.1.1.2 ⟨te,pe,(HF.on E).here.1.1.1.1.1.1.2⟩ 1 (iD 1 de) (fun _=>Dy) n hn).mono ?_));rintro e w16 ⟨A4,q4,rfl,o4,hb⟩;refine ⟨_,rfl,?_⟩;have XC:∀q9,(No) q9→q9<fM.heap.size:=ak.none_;replace E:=bQ E hb;obtain ⟨HF,LW,E⟩:=cZ HF LW E aj (Per.bP o4 XC);refine zq ?_;refine zi ?_;intro aN9 fF as0 as1 aG4;obtain ⟨aG4,HF,E,aj⟩:=aZ HF LW E aj as1 aG4;refine zp (zo jf rfl rfl as0 rfl rfl rfl ?_);intro nT Bx as1;replace as0:aB nT aN9 28 #[.int .i64 n.1.k,.bool n.1.yes,.bool n.1.neg,.slice A4 n.1.xs.length q4,.int .u64 (n.1.bits:Int),.string n.1.s,.slice none 0 0]:=Bx;replace E:=E.step1 as1 ak.head;obtain ⟨HF,LW,aj,E⟩:=dz HF LW E aj (Y:=No) (ak.skip ak.aV) (Per.aS as0 ah.nil);refine zr ?_;refine za rfl (zb gT rfl ((jt _ (vT s) (vI j) A1 B1 A2 B2 c1 d1 c2 d2 xo (show (0:Nat)≤9223372036854775807 from de) qux (HF.on E).here.1.1.1.1.1.1.1.1.1.1.2 (show (limbs j).length≤9223372036854775807 from om) qk (later hD (LW.step E aj).toBelow) (HF.on E).here.1.1.1.1.1.1.1.1.1.2 ⟨te,pe,(HF.on E).here.1.1.1.1.1.1.1.1.2⟩ 3 (iD 3 de) (fun _=>aF9) x hx).mono ?_));rintro e Qz ⟨A5,q5,rfl,o5,hb⟩;refine ⟨_,rfl,?_⟩;have XC:∀q9,(No) q9→q9<nT.heap.size:=ak.none_;replace E:=bQ E hb;obtain ⟨HF,LW,E⟩:=cZ HF LW E aj (Per.bP o5 XC);refine zq ?_;refine zi ?_;intro K3 Fb K4 as2 QF;obtain ⟨QF,HF,E,aj⟩:=aZ HF LW E aj as2 QF;refine zp (zo jf rfl rfl K4 rfl rfl rfl ?_);intro wU Bx as2;replace K4:aB wU K3 28 #[.int .i64 x.1.k,.bool x.1.yes,.bool x.1.neg,.slice A5 x.1.xs.length q5,.int .u64 (x.1.bits:Int),.string x.1.s,.slice none 0 0]:=Bx;replace E:=E.step1 as2 ak.head;obtain ⟨HF,LW,aj,E⟩:=dz HF LW E aj (Y:=No) (ak.skip ak.aV) (Per.aS K4 ah.nil);refine zr ?_
 refine zd 171 (.agg #[.int .i64 n.1.k,.bool n.1.yes,.bool n.1.neg,.slice A4 n.1.xs.length q4,.int .u64 (n.1.bits:Int),.string n.1.s,.slice none n.1.ni 0]) rfl (by rw[ni]<;>rfl) (za rfl (zb gT rfl ((jt _ (vT s) n.1 A1 B1 A4 none c1 d1 q4 0 xo (show (0:Nat)≤9223372036854775807 from de) qux ((HF.on E).here.1.1.1.2).nums om nb (later hD (LW.step E aj).toBelow) (HF.on E).here.1.1.1.1.1.1.1.1.1.1.1.2 ⟨te,pe,(HF.on E).here.1.1.1.1.1.1.1.1.1.1.2⟩ 3 (iD 3 de) (fun _=>aF9) y hyy).mono ?_)));rintro e w24 ⟨A6,q6,rfl,o6,hb⟩;refine ⟨_,rfl,?_⟩;have XC:∀q9,(No) q9→q9<wU.heap.size:=ak.none_;replace E:=bQ E hb;obtain ⟨HF,LW,E⟩:=cZ HF LW E aj (Per.bP o6 XC);by_cases h1:n.2=0
 ·
  refine zq ?_;refine zi ?_;intro K6 w26 vB iq Ay;obtain ⟨Ay,HF,E,aj⟩:=aZ HF LW E aj iq Ay;refine zp (zo jf rfl rfl vB rfl rfl rfl ?_);intro w27 Bx iq;replace vB:aB w27 K6 28 #[.int .i64 y.1.k,.bool y.1.yes,.bool y.1.neg,.slice A6 y.1.xs.length q6,.int .u64 (y.1.bits:Int),.string y.1.s,.slice none 0 0]:=Bx;replace E:=E.step1 iq ak.head;obtain ⟨HF,LW,aj,E⟩:=dz HF LW E aj (Y:=No) (ak.skip ak.aV) (Per.aS vB ah.nil);refine qo ?_;refine zd 177 (.bool false) rfl (by simp[h1]) ?_;by_cases h2:x.2=0
  ·
   refine ye ?_;refine zd 181 (.bool false) rfl (by simp[h2]) ?_;by_cases h3:y.2=0
   ·
    refine ye ?_;refine zd 185 (.bool false) rfl (by simp[h3]) ?_;by_cases h4:j<0
    ·
     refine zt ?_;refine ze 189 (.bool true) rfl (by rw[decide_eq_true h4]<;>rfl) (qo ?_);exact vj
    ·
     obtain ⟨hz,gy,xl,xb,xi,yl,yb,yi⟩:=ML hs hj (nx h1).1 hx (by rw[←(nx h1).2];exact hyy) om h2 h3;refine zt ?_;refine ze 189 (.bool false) rfl (by rw[decide_eq_false h4]<;>rfl) (zr ?_);refine zd 191 (.agg #[.int .i64 x.1.k,.bool x.1.yes,.bool x.1.neg,.slice A5 x.1.xs.length q5,.int .u64 (x.1.bits:Int),.string x.1.s,.slice none x.1.ni 0]) rfl (by rw[xi]<;>rfl) (za rfl (zb gT rfl ((jt _ x.1 (vT s) A5 none A1 B1 q5 0 c1 d1 ((HF.on E).here.1.1.1.2).nums om om xo (show (0:Nat)≤9223372036854775807 from de) qux (later hD (LW.step E aj).toBelow) (HF.on E).here.1.1.1.1.1.1.1.1.1.1.1.1.1.2 ⟨te,pe,(HF.on E).here.1.1.1.1.1.1.1.1.1.1.1.1.2⟩ 1 (iD 1 de) (fun _=>Dy) y hz).mono ?_)));rintro e w28 ⟨A7,q7,rfl,o7,hb⟩;refine ⟨_,rfl,?_⟩;have XC:∀q9,(No) q9→q9<w27.heap.size:=ak.none_;replace E:=bQ E hb;obtain ⟨HF,LW,E⟩:=cZ HF LW E aj (Per.bP o7 XC);refine zq ?_;refine zi ?_;intro aNq Mq as3 as4 aG5;obtain ⟨aG5,HF,E,aj⟩:=aZ HF LW E aj as4 aG5;refine zp (zo jf rfl rfl as3 rfl rfl rfl ?_);intro w31 Bx as4;replace as3:aB w31 aNq 28 #[.int .i64 y.1.k,.bool y.1.yes,.bool y.1.neg,.slice A7 y.1.xs.length q7,.int .u64 (y.1.bits:Int),.string y.1.s,.slice none 0 0]:=Bx;replace E:=E.step1 as4 ak.head;obtain ⟨HF,LW,aj,E⟩:=dz HF LW E aj (Y:=No) (ak.skip ak.aV) (Per.aS as3 ah.nil);refine yu ?_;refine zd 198 (.bool true) rfl (by simp[h3]) (zu ?_);refine zd 199 (.agg #[.int .i64 y.1.k,.bool y.1.yes,.bool y.1.neg,.slice A6 y.1.xs.length q6,.int .u64 (y.1.bits:Int),.string y.1.s,.slice none y.1.ni 0]) rfl (by rw[yi]<;>rfl) (zd 200 (.agg #[.int .i64 y.1.k,.bool y.1.yes,.bool y.1.neg,.slice A7 y.1.xs.length q7,.int .u64 (y.1.bits:Int),.string y.1.s,.slice none y.1.ni 0]) rfl (by rw[yi]<;>rfl) (bV rfl (zb ahx rfl ((wQ (yuz gy) (vE _ y.1 y.1 A6 none A7 none q6 0 q7 0 ((HF.on E).here.1.1.1.2).nums om om ((HF.on E).here.1.2).nums om om)).mono ?_))));rintro e w32 ⟨rfl,hb⟩;refine ⟨_,rfl,?_⟩;replace E:=bQ E hb;refine zt ?_;exact vj
   ·
    refine ye ?_;refine zd 185 (.bool true) rfl (by simp[h3]) (xd ?_);exact vj
  ·
   refine ye ?_;refine zd 181 (.bool true) rfl (by simp[h2]) (qrq ?_);exact vj
 ·
  refine zq ?_;refine zi ?_;intro Zm w34 aG6 as5 Zn;have Zn:_≤Zm:=Nat.le_trans E.size Zn;have aNx:=Nat.le_trans LW.size Zn;replace E:=E.trans as5.no;replace E:=E.cons (some Zm);replace aj:=ak.grow aj (fun k e=>Or.inr (Nat.le_trans LW.size ((ZJ Zn) k e)));refine zp (zo jf rfl rfl aG6 rfl rfl rfl ?_);intro w35 Bx as5;replace aG6:aB w35 Zm 28 #[.int .i64 y.1.k,.bool y.1.yes,.bool y.1.neg,.slice A6 y.1.xs.length q6,.int .u64 (y.1.bits:Int),.string y.1.s,.slice none 0 0]:=Bx;replace E:=E.step1 as5 ak.head;replace LW:=LW.step E aj;have SB:∀q9,No q9→ak [(some Zm)] q9:=(ak.skip ak.aV);replace aj:=fun k h=>aj k (SB k h);clear SB;replace E:=aF (No) w35;refine qo ?_;refine zd 177 (.bool true) rfl (by simp[h1]) (VK ?_);exact vj
end
section
variable (w:World) (ua ub:PV) (A1 B1 A2 B2:Option Addr) (c1 d1 c2 d2:Nat) (hx:aA w A1 ua.xs) (hl:ua.xs.length≤9223372036854775807) (ha:ua.bits<18446744073709551616) (hy:aA w A2 ub.xs) (hl':ub.xs.length≤9223372036854775807) (hb0:ub.bits<18446744073709551616)
variable {bp op cp bf of cf bl ol cl:Nat} (hD:∀b,Below w.heap.size w b→fD b) (aG:dK bp op cp bf of cf bl ol cl w) (hE:∃te pe,w.cell? ⟨4,0,none⟩=some (.iface te pe))
include hx hl ha hy hl' hb0 hD aG hE
theorem MN (ka:ua.k=2) (kb:ub.k=2) (he:(vf 1 ua ub).2=0):Calls prog 4 #[aP ua A1 c1 B1 d1,aP ub A2 c2 B2 d2] w (aH w (.bool true)):=by
 have _:=hl;have _:=ha;have _:=hl';have _:=hb0;have hg:(ua.good&&ub.good)=true:=by
  cases h:ua.good&&ub.good
  · unfold vf at he;rw[h,if_neg de] at he;exact absurd he (show (3:Int)≠0 from de)
  · rfl
 obtain ⟨ga,gb⟩:ua.good=true∧ub.good=true:=by simpa using hg
 obtain ⟨i,hi⟩:∃i,i=qu ua:=⟨_,rfl⟩;obtain ⟨j,hj⟩:∃j,j=qu ub:=⟨_,rfl⟩;have Ib:i.natAbs<au^30:=hi▸xx ga (Or.inr ka);have Jb:j.natAbs<au^30:=hj▸xx gb (Or.inr kb);have ea:ua=vI i:=hi▸Gt ga ka;have eb:ub=vI j:=hj▸Gt gb kb;rw[ea,eb] at he;subst ea eb;obtain ⟨hs,_⟩:=Js Ib Jb he;by_cases h0:j=0
 · exact Zj w i j A1 B1 A2 B2 c1 d1 c2 d2 Ib Jb hx hy hD aG hE hs h0
 by_cases hm:(vf 3 (vI (qI i j)) (vI j)).2=0
 · exact Zl w i j A1 B1 A2 B2 c1 d1 c2 d2 Ib Jb hx hy hD aG hE hs h0 hm
 · exact Zk w i j A1 B1 A2 B2 c1 d1 c2 d2 Ib Jb hx hy hD aG hE hs h0 hm
theorem UE (ka:ua.k=4) (kb:ub.k=2) (hg:(ua.good&&ub.good)=true):Calls prog 4 #[aP ua A1 c1 B1 d1,aP ub A2 c2 B2 d2] w (aH w (.bool true)):=by
 have _:=hl;have _:=ha;have _:=hl';have _:=hb0;have _:=hx;obtain ⟨ga,gb⟩:ua.good=true∧ub.good=true:=by simpa using hg
 obtain ⟨s,hs⟩:∃s,s=ua.s:=⟨_,rfl⟩;obtain ⟨j,hj⟩:∃j,j=qu ub:=⟨_,rfl⟩;have Sb:s.size≤20000:=hs▸PV.fq ga ka;have Jb:j.natAbs<au^30:=hj▸xx gb (Or.inr kb);have ea:ua=vT s:=hs▸ar6 ga ka;have eb:ub=vI j:=hj▸Gt gb kb;subst ea eb;exact aG3 w s j A1 B1 A2 B2 c1 d1 c2 d2 Sb Jb hy hD aG hE
theorem UF:Calls prog 4 #[aP ua A1 c1 B1 d1,aP ub A2 c2 B2 d2] w (aH w (.bool true)):=by
 by_cases k2:ua.k=2
 · by_cases kb:ub.k=2
   · by_cases he:(vf 1 ua ub).2=0
     · exact MN w ua ub A1 B1 A2 B2 c1 d1 c2 d2 hx hl ha hy hl' hb0 hD aG hE k2 kb he
     · exact aFz w ua ub A1 B1 A2 B2 c1 d1 c2 d2 hx hl ha hy hl' hb0 hD aG hE k2 kb he
   · exact aFq w ua ub A1 B1 A2 B2 c1 d1 c2 d2 hx hl ha hy hl' hb0 hD aG hE k2 kb
 by_cases k1:ua.k=1
 · cases ga:ua.good
   · exact aFj w ua ub A1 B1 A2 B2 c1 d1 c2 d2 hx hl ha hy hl' hb0 hD aG hE k1 ga
   · exact aG0 w ua ub A1 B1 A2 B2 c1 d1 c2 d2 hx hl ha hy hl' hb0 hD aG hE k1 ga
 by_cases k4:ua.k=4
 · by_cases kb:ub.k=2
   · cases hg:ua.good&&ub.good
     · exact aG2 w ua ub A1 B1 A2 B2 c1 d1 c2 d2 hx hl ha hy hl' hb0 hD aG hE k4 kb hg
     · exact UE w ua ub A1 B1 A2 B2 c1 d1 c2 d2 hx hl ha hy hl' hb0 hD aG hE k4 kb hg
   · exact aG1 w ua ub A1 B1 A2 B2 c1 d1 c2 d2 hx hl ha hy hl' hb0 hD aG hE k4 kb
 · exact aFx w ua ub A1 B1 A2 B2 c1 d1 c2 d2 hx hl ha hy hl' hb0 hD aG hE k1 k2 k4
end
end Go.Proofs.YtmnmebdmpigddaaGreatDoor

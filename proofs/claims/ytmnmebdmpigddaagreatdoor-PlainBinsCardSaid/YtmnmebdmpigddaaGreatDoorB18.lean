/- Texts of this claim. -/
import Derived.Test.YtmnmebdmpigddaaGreatDoorB17
set_option maxRecDepth 100000
set_option maxHeartbeats 20000000
namespace Go.Proofs.YtmnmebdmpigddaaGreatDoor
open Go.RowKit Proofs.Tryz
section
attribute [local irreducible] OW RS CW EW
theorem DR {P Q:Prop} (k:Q) (h:(Unit→Q)→P:=by
 intro zK;refine ye ?_;refine mK ?_;refine za rfl (vt (j:=x.w-1) fH gF rfl rfl om om ?_);exact zK ()):P:=h fun _=>k
theorem mM {P Q:Prop} (k:Q) (h:(Unit→Q)→P:=by
 intro zK;refine zp ?_;refine qf 6 (.int .i64 ((x.w-1:Nat):Int)) rfl ((by congr 1;omega:(.int .i64 ((x.w:Int)-1):Value)=_)) ?_;exact zK ()):P:=h fun _=>k
theorem quz {P Q:Prop} (k:Q) (h:(Unit→Q)→P:=by
 intro zK;refine ye ?_;refine yj (ve sz4 rfl rfl Ba rfl rfl (yV hlx (by decide:803<804)) (IB hlx true) ?_);exact zK ()):P:=h fun _=>k
theorem mO {P Q:Prop} (k:Q) (h:(Unit→Q)→P:=by
 intro zK;refine zv ?_;refine yp ?_;refine zi ?_;refine qf 6 (.int .i64 ((x.w-1:Nat):Int)) rfl ((by congr 1;omega:(.int .i64 ((x.w:Int)-1):Value)=_)) (qf 5 (.int .i64 (((x.r-1:Nat):Int)-1)) rfl ((by congr 1;omega:(.int .i64 (((x.r:Int)-1)-1):Value)=_)) ?_);exact zK ()):P:=h fun _=>k
theorem WE {P:Prop} (h:P:=by
 exact yn () ⟨rfl,rfl,trivial⟩ ⟨M19.step E aZx,(by exact Ba),trivial⟩):P:=h
theorem WG {P:Prop} (h:P:=by
 exact yn () ⟨rfl,rfl,rfl,trivial⟩ ⟨M4.step E XM4,(by exact Ba),trivial⟩):P:=h
theorem WH {P:Prop} (h:P:=by
 rcases Nat.decEq R 0 with h | h
 · rw[bne_iff_ne.2 om] at h3;cases h3
 · exact h):P:=h
theorem DT {k:Nat} (h:yS k):(lcB k).size=(sO k).length:=by
 rw[←(xM h).2.1,List.length_map];show (Go.Pinned.cheatRows.getD k (0,[])).2.toArray.size=_
 rw[List.size_toArray]
theorem aC2 {k:Nat} (h:yS k) (i:Nat) (hi:i<(sO k).length):(sO k)[i]? =some (aL (lcB k) i):=by
 rw[←DT h] at hi;rw[←vr hi,←(xM h).2.1,List.getElem?_map];show _=((Go.Pinned.cheatRows.getD k (0,[])).2.toArray[i]?).map _
 rw[List.getElem?_toArray]
theorem aR4 {c k C:Nat} (hc:c≤9) (hk:k≤60) (hC:C=c*2^k):IntKind.u64.wrap (((c:Nat):Int)*2^(min ((k:Nat):Int).toNat IntKind.u64.bits))=((C:Nat):Int):=by
 rw[hC,Zl c k om];have h1:2^k≤2^60:=Nat.pow_le_pow_right de hk;have h2:(2:Nat)^60=1152921504606846976:=de;have h3:c*2^k≤9*2^k:=Nat.mul_le_mul_right _ hc;rw[Nat.mod_eq_of_lt om]
theorem arq (n D:Nat) (h:n<18446744073709551616) (hD:D=n/10):IntKind.u64.wrap (((n:Nat):Int).tdiv 10)=((D:Nat):Int):=by
 rw[hD,Int.tdiv_eq_ediv_of_nonneg om];exact wrap_u64 om
theorem WI {d:List Nat} {w x:Nat} (h:w<800):sP d w x=d.set w (x+48):=by unfold sP;rw[if_pos h]
theorem vtx {d:List Nat} {w x:Nat} (h:¬w<800):sP d w x=d:=by unfold sP;rw[if_neg h]
theorem arz {b:Bool} {w x:Nat} (h:w<800):pQ b w x=b:=by unfold pQ;rw[if_pos h]
theorem WJ {b:Bool} {w x:Nat} (h:¬w<800) (hx:x≠0):pQ b w x=true:=by unfold pQ;rw[if_neg h,if_pos hx]
theorem WK {b:Bool} {w x:Nat} (hx:x=0):pQ b w x=b:=by
 unfold pQ;split
 · rfl
 · rw[if_neg (fun h=>h hx)]
section
variable (w:World) {bp op cp bf of cf bl ol cl:Nat}
theorem WL (ga k:Nat) (t:Dec) (hk:yS k) (ht:aY t) (h0:0<t.nd) (hdp:-20000000≤t.dp∧t.dp≤20000000) (hB:aB w ga 229 (yo t)) (hT:bV bp op cp bf of cf bl ol cl w) (hg:gT bp bf bl ga) :
 Calls prog 270 #[.pointer (some ⟨ga,0,none⟩),.int .u64 ((k:Nat):Int)] w fun e w'=>e= .returned (.tuple #[])∧aB w' ga 229 (yo (jf t k))∧Ext (aj [some ga]) w w':=by
 have hl:=ht.len;have hnd:=ht.hn;have hS:=xK hk;have ai0:=hS.k1;have aR5:=(xM hk).2.2;have aQ8:=hS.d1;obtain ⟨hdl,_⟩:=vck ht h0 hk;obtain ⟨L,hL⟩:∃L,L=qn t k:=⟨_,rfl⟩;rw[←hL] at hdl;refine zd func270 rfl ntmps270 rfl ?_;have Ba:=hB;have HF:Per (aj [(some ga)]) w (fun _=>True):=Per.yZ;have LW:=aC (aj [(some ga)]) w;have ak:=aN (aj [(some ga)]) w;have E:=aC (aj [(some ga)]) w;obtain ⟨HF,LW,E⟩:=dG HF LW E ak (Per.KO hT hg (fun q h=>h.elim (fun e=>Nat.le_of_eq (Option.some.inj e).symm) (fun e=>e.elim)));refine zi ?_;refine za rfl (jo FU rfl rfl (HF.on E).here.2.fT.head (aK ?_));refine za rfl (gy (j:=k) FU amx rfl rfl rfl aR5 (aK ?_));refine za rfl (jo underlying3 rfl rfl ((HF.on E).here.2.fT.delta k hk) (zn ?_));replace HF:=HF.on E;replace LW:=LW.step E ak;replace E:=aC (aj [(some ga)]) w;refine yy (ι:=Unit) (fun _=>[(0,.pointer (some ⟨ga,0,none⟩)),(1,.int .u64 ((k:Nat):Int)),(4,.int .i64 ((oC k:Nat):Int)),(30,.bool (ju (t.d.take t.nd) (sO k)))]) (fun _ w'=>Ext (aj [(some ga)]) w w'∧aB w' ga 229 (yo t)∧(True)) ?_ ?_
 ·
  have M1:=aC (aj [(some ga)]) w;have dn:=aN (aj [(some ga)]) w;have OY:∀q9,(aj (kf [])) q9→q9<(World.drew w).heap.size→(aj [(some ga)]) q9:=fun k h _=>(aj.none_) k h;refine yq (aj [(some ga)]) (aj.grow aj.none_ (zc Ba.lt)) [] [] (xc [Fx.of (.pointer (some ⟨ga,0,none⟩)),
   Fx.of (.pointer (some ⟨ga,0,none⟩)),
   Fx.of (.pointer (some ⟨ga,0,none⟩)),
   Fx.of (.pointer (some ⟨ga,0,none⟩)),
   Fx.of (.pointer (some ⟨ga,0,none⟩)),
   Fx.of (.pointer (some ⟨ga,800,none⟩)),
   Fx.of (.int .i64 (t.nd:Int)),
   Fx.of (.slice (some ⟨ga,0,none⟩) t.nd 800),
   Fx.of (.slice (some ⟨bl,ol,none⟩) 61 cl),
   Fx.of (.int .u64 ((k:Nat):Int)),
   Fx.of (.pointer (some ⟨bl,ol+k*2,none⟩)),
   Fx.of (.pointer (some ⟨bl,ol+k*2+1,none⟩)),
   Fx.of (.string (lcB k)),
   Fx.of (.bool (ju (t.d.take t.nd) (sO k)))]) mixed rfl trivial (fun _ h=>by cases h) ?_ ?_
  · refine ⟨arm,arm,arm,arm,arm,arm,?_,?_,?_,arm,?_,arm,?_,?_,trivial⟩
    · refine yx ?_;intro vs X wq K;have LE:=K.1;exact yd underlying3 rfl rfl (Ba.drew.aG LE au.nil) (yU hl t.nd rfl) ⟨Below.refl _ _,Left.of rfl⟩
    · refine yx ?_;intro vs X wq K;exact FP (h:=t.nd) fH gF rfl rfl rfl rfl hnd ⟨Below.refl _ _,Left.of rfl⟩
    · intro vs X wq K;have LE:=K.1;exact jo FU rfl rfl (HF.on (E.drew.trans (LE.mono OY))).here.2.fT.head ⟨Below.refl _ _,Left.of rfl⟩
    · refine yx ?_;intro vs X wq K;exact gy (j:=k) FU amx rfl rfl rfl aR5 ⟨Below.refl _ _,Left.of rfl⟩
    · refine yx ?_;intro vs X wq K;have LE:=K.1;exact jo u9 rfl rfl ((HF.on (E.drew.trans (LE.mono OY))).here.2.fT.cut k hk) ⟨Below.refl _ _,Left.of rfl⟩
    · refine yx ?_;intro vs X wq K;have LE:=K.1;refine ze aKz rfl ((IX _ ga t t.nd (lcB k) (sO k) hl hnd (DT hk) (aC2 hk) (Ba.drew.aG LE au.nil)).mono ?_);exact N8
  intro vs w3 LE AO AL AF AA;have fu:=Ba;replace Ba:=Ba.drew.aG LE au.nil;replace E:=E.drew.trans (LE.mono OY);obtain ⟨_,e13,k13⟩:=AL.2.2.2.2.2.2.2.2.2.2.2.2.2.1;refine vi (τ:=[(0,_),(1,_),(4,_),(30,.bool (ju (t.d.take t.nd) (sO k)))]) ⟨rfl,rfl,rfl,congrArg some e13,trivial⟩ ?_;clear AL AF AA LE AO OY e13 k13 fu;exact yn () ⟨rfl,rfl,rfl,rfl,trivial⟩ ⟨M1.step E dn,(by exact Ba),trivial⟩
 ·
  have dP:=(zc Ba.lt);clear Ba;rintro _ w2 ⟨M1,Ba,_⟩;replace E:=E.trans M1;replace LW:=LW.step E ak;replace E:=aC (aj [(some ga)]) w2;replace LW:=LW.step E ak;replace E:=aC (aj [(some ga)]) w2;refine yy (ι:=Unit) (fun _=>[(0,.pointer (some ⟨ga,0,none⟩)),(1,.int .u64 ((k:Nat):Int)),(4,.int .i64 ((L:Nat):Int))]) (fun _ w'=>Ext (aj [(some ga)]) w2 w'∧aB w' ga 229 (yo t)∧(True)) ?_ ?_
  ·
   have M4:=aC (aj [(some ga)]) w2;have XM4:=aN (aj [(some ga)]) w2;refine zf rfl (fun hb=>?_) (fun hb=>?_)
   ·
    have e:L=oC k-1:=by rw[hL];unfold qn;rw[if_pos hb]
    refine zi ?_;refine yp ?_;refine zi ?_;refine qf 4 (.int .i64 ((L:Nat):Int)) rfl ((by congr 1;omega:(.int .i64 (((oC k:Nat):Int)-1):Value)=_)) ?_;exact WG
   ·
    have e:L=oC k:=by rw[hL];unfold qn;rw[if_neg (by rw[hb];decide)]
    refine aK ?_;refine qf 4 (.int .i64 ((L:Nat):Int)) rfl ((by rw[e]:(.int .i64 ((oC k:Nat):Int):Value)=_)) ?_;exact WG
  ·
   have dP:=(zc Ba.lt);clear Ba;rintro _ w5 ⟨M4,Ba,_⟩;replace E:=E.trans M4;replace LW:=LW.step E ak;replace E:=aC (aj [(some ga)]) w5;refine zn ?_;refine mH ?_;refine yk ?_;refine mH ?_;refine aK ?_;refine yw ?_;refine vp ?_;refine yp ?_;refine zr ?_;replace LW:=LW.step E ak;replace E:=aC (aj [(some ga)]) w5;refine yy (ι:=Dl) (fun x=>[(0,.pointer (some ⟨ga,0,none⟩)),(4,.int .i64 ((L:Nat):Int)),(6,.int .i64 (x.w:Int)),(7,.int .u64 (x.n:Int))]) (fun x w'=>Ext (aj [(some ga)]) w5 w'∧aB w' ga 229 (yo { t with d:=x.d,tr:=x.tr })∧(x=lsA t k)) ?_ ?_
   ·
    have M6:=aC (aj [(some ga)]) w5;have iw:=aN (aj [(some ga)]) w5;refine aK ?_;replace M6:=M6.step E iw;replace E:=aC (aj [(some ga)]) w5;refine qw (ι:=Dl) (fun x=>[(0,.pointer (some ⟨ga,0,none⟩)),(1,.int .u64 ((k:Nat):Int)),(4,.int .i64 ((L:Nat):Int)),(5,.int .i64 ((x.r:Int)-1)),(6,.int .i64 (x.w:Int)),(7,.int .u64 (x.n:Int))]) (fun x w'=>Ext (aj [(some ga)]) w5 w'∧aB w' ga 229 (yo { t with d:=x.d,tr:=x.tr })∧(OG t k x∧va qiq (vuv k) x=lsA t k)) (fun x=>x.r) (⟨t.d,t.nd,t.nd+L,0,t.tr⟩) ⟨rfl,rfl,rfl,rfl,rfl,rfl,trivial⟩ ⟨Ext.refl _ _,(by exact Ba),by rw[hL];exact sS ht,by rw[hL];rfl⟩ ?_;have dP:=(zc Ba.lt);clear Ba;rintro x w9 ⟨M8,Ba,⟨hI,hu⟩⟩;have xU:oK (aj [(some ga)]) (aj [(some ga)]) w5:=(aj.grow aj.none_ (fun k e=>Or.inl (aj.head k e)));replace E:=E.trans M8;replace M6:=M6.step E iw;replace E:=aC (aj [(some ga)]) w9;have hlx:({ t with d:=x.d,tr:=x.tr }:Dec).d.length=800:=hI.len;have hxw:=hI.hw;rw[←hL] at hxw;have Qf:=hI.hr;refine zp ?_;refine zf rfl (fun h1=>?_) (fun h1=>?_)
    ·
     have h1:0<x.r:=by have h1:=of_decide_eq_true h1;omega
     have hdone:qiq x=false:=decide_eq_false om;obtain ⟨hkeep,_,hN⟩:=sQ ht hI hdone;have aZj:=tJ hN ai0.2;have hdg:=ht.bN (x.r-1) om;rw[←hI.old (x.r-1) om] at hdg;obtain ⟨C,hC⟩:∃C,C=(dg x.d (x.r-1)-48)*2^k:=⟨_,rfl⟩;obtain ⟨V,hV⟩:∃V,V=Qm k x:=⟨_,rfl⟩;have hVC:V=x.n+C:=by rw[hV,hC];rfl
     rw[←hV] at aZj;obtain ⟨D,hD⟩:∃D,D=V/10:=⟨_,rfl⟩;obtain ⟨R,hR⟩:∃R,R=V%10:=⟨_,rfl⟩;have hst:vuv k x= ⟨sP x.d (x.w-1) R,x.r-1,x.w-1,D,pQ x.tr (x.w-1) R⟩:=by rw[hR,hD,hV];rfl
     rw[vo hdone] at hu;rw[hst] at hkeep hu;refine yv ?_;refine za rfl (vt (j:=x.r-1) fH gF rfl rfl om om (za rfl (yd u5 rfl rfl Ba (dAt hlx (dg x.d (x.r-1)) (x.r-1) rfl om) (mI ?_))));refine zsq ?_;refine aK ?_;refine zk 57 (.int .u64 ((dg x.d (x.r-1)-48:Nat):Int)) rfl (by congr 1;omega) (za rfl (ki rfl rfl om (aR4 om ai0.2 hC) (TW ?_)));refine zo ?_;refine zk 61 (.int .u64 ((V:Nat):Int)) rfl (by congr 1;omega) (za rfl (qpz rfl rfl de (arq V D om hD) (zp ?_)));refine zkv ?_;refine zsq ?_;refine zo ?_;refine yp ?_;refine zv ?_;refine yr 9 (.int .u64 ((R:Nat):Int)) rfl (by congr 1;omega) (zf rfl (fun h2=>?_) (fun h2=>?_))
     ·
      have h2:x.w-1<800:=by have h2:=of_decide_eq_true h2;omega
      rw[WI h2,arz h2] at hu hkeep;refine DR ?_;refine zk 75 (.int .u8 ((R+48:Nat):Int)) rfl (rfl) (yxv ?_);intro dI Bx Ea;replace Ba:aB dI ga 229 (yo { t with d:=x.d.set (x.w-1) (R+48),tr:=x.tr }):=Bx;replace E:=E.step1 Ea aj.head;refine mO ?_;exact zx (⟨x.d.set (x.w-1) (R+48),x.r-1,x.w-1,D,x.tr⟩) (by show x.r-1<x.r;omega) ⟨rfl,rfl,rfl,rfl,rfl,rfl,trivial⟩ ⟨M8.step E xU,(by exact Ba),hkeep,hu⟩
     ·
      have h2:¬x.w-1<800:=by have h2:=of_decide_eq_false h2;omega
      refine zo ?_;refine zf rfl (fun h3=>?_) (fun h3=>?_)
      ·
       have h3:R≠0:=fun e=>absurd h3 (by rw[e];decide);rw[vtx h2,WJ h2 h3] at hu hkeep;refine quz ?_;intro dV Bx Ea;replace Ba:aB dV ga 229 (yo { t with d:=x.d,tr:=true }):=Bx;replace E:=E.step1 Ea aj.head;refine mO ?_;exact zx (⟨x.d,x.r-1,x.w-1,D,true⟩) (by show x.r-1<x.r;omega) ⟨rfl,rfl,rfl,rfl,rfl,rfl,trivial⟩ ⟨M8.step E xU,(by exact Ba),hkeep,hu⟩
      ·
       have h3:R=0:=by
        exact WH
       rw[vtx h2,WK h3] at hu hkeep;refine mO ?_;exact zx (⟨x.d,x.r-1,x.w-1,D,x.tr⟩) (by show x.r-1<x.r;omega) ⟨rfl,rfl,rfl,rfl,rfl,rfl,trivial⟩ ⟨M8.step E xU,(by exact Ba),hkeep,hu⟩
    ·
     have h1:x.r=0:=by have h1:=of_decide_eq_false h1;omega
     have hdone:qiq x=true:=decide_eq_true h1;rw[qe hdone] at hu;refine ye ?_;exact yn x ⟨rfl,rfl,rfl,rfl,trivial⟩ ⟨M6.step E iw,(by exact Ba),hu⟩
   ·
    have dP:=(zc Ba.lt);clear Ba;rintro x w7 ⟨M6,Ba,hx⟩;replace E:=E.trans M6;replace LW:=LW.step E ak;replace E:=aC (aj [(some ga)]) w7;refine aK ?_;replace LW:=LW.step E ak;replace E:=aC (aj [(some ga)]) w7;refine yy (ι:=Dl) (fun x=>[(0,.pointer (some ⟨ga,0,none⟩)),(4,.int .i64 ((L:Nat):Int))]) (fun x w'=>Ext (aj [(some ga)]) w7 w'∧aB w' ga 229 (yo { t with d:=x.d,tr:=x.tr })∧(x=lsB t k)) ?_ ?_
    ·
     have KF:=aC (aj [(some ga)]) w7;have WM:=aN (aj [(some ga)]) w7;have hS2:=sU ht h0 hk;refine aK ?_;replace KF:=KF.step E WM;replace E:=aC (aj [(some ga)]) w7;refine qw (ι:=Dl) (fun x=>[(0,.pointer (some ⟨ga,0,none⟩)),(4,.int .i64 ((L:Nat):Int)),(6,.int .i64 (x.w:Int)),(7,.int .u64 (x.n:Int))]) (fun x w'=>Ext (aj [(some ga)]) w7 w'∧aB w' ga 229 (yo { t with d:=x.d,tr:=x.tr })∧(OH t k x∧va qiz vuk x=lsB t k)) (fun x=>x.w) x ⟨rfl,rfl,rfl,rfl,trivial⟩ ⟨Ext.refl _ _,(by exact Ba),by rw[hx];exact hS2,by rw[hx];rfl⟩ ?_;have dP:=(zc Ba.lt);clear Ba;rintro x dQ ⟨M14,Ba,⟨hI,hu⟩⟩;have aC3:oK (aj [(some ga)]) (aj [(some ga)]) w7:=(aj.grow aj.none_ (fun k e=>Or.inl (aj.head k e)));replace E:=E.trans M14;replace KF:=KF.step E WM;replace E:=aC (aj [(some ga)]) dQ;have hlx:({ t with d:=x.d,tr:=x.tr }:Dec).d.length=800:=hI.len;have bg6:=tH hI.small ai0.2;refine zp ?_;refine zf rfl (fun h1=>?_) (fun h1=>?_)
     ·
      have h1:0<x.n:=by have h1:=of_decide_eq_true h1;omega
      have hdone:qiz x=false:=decide_eq_false om;obtain ⟨hkeep,hw1,hw2⟩:=sV ht hk h0 hI hdone;obtain ⟨D,hD⟩:∃D,D=x.n/10:=⟨_,rfl⟩;obtain ⟨R,hR⟩:∃R,R=x.n%10:=⟨_,rfl⟩;have hst:vuk x= ⟨sP x.d (x.w-1) R,x.r,x.w-1,D,pQ x.tr (x.w-1) R⟩:=by rw[hR,hD];rfl
      rw[vo hdone] at hu;rw[hst] at hkeep hu;refine zo ?_;refine za rfl (qpz rfl rfl de (arq x.n D om hD) (zp ?_));refine zkv ?_;refine zsq ?_;refine zo ?_;refine yp ?_;refine zv ?_;refine yr 11 (.int .u64 ((R:Nat):Int)) rfl (by congr 1;omega) (zf rfl (fun h2=>?_) (fun h2=>?_))
      ·
       have h2:x.w-1<800:=by have h2:=of_decide_eq_true h2;omega
       rw[WI h2,arz h2] at hu hkeep;refine DR ?_;refine zk 101 (.int .u8 ((R+48:Nat):Int)) rfl (rfl) (yxv ?_);intro w16 Bx Ea;replace Ba:aB w16 ga 229 (yo { t with d:=x.d.set (x.w-1) (R+48),tr:=x.tr }):=Bx;replace E:=E.step1 Ea aj.head;refine mM ?_;exact zx (⟨x.d.set (x.w-1) (R+48),x.r,x.w-1,D,x.tr⟩) (by show x.w-1<x.w;omega) ⟨rfl,rfl,rfl,rfl,trivial⟩ ⟨M14.step E aC3,(by exact Ba),hkeep,hu⟩
      ·
       have h2:¬x.w-1<800:=by have h2:=of_decide_eq_false h2;omega
       refine zo ?_;refine zf rfl (fun h3=>?_) (fun h3=>?_)
       ·
        have h3:R≠0:=fun e=>absurd h3 (by rw[e];decide);rw[vtx h2,WJ h2 h3] at hu hkeep;refine quz ?_;intro fI Bx Ea;replace Ba:aB fI ga 229 (yo { t with d:=x.d,tr:=true }):=Bx;replace E:=E.step1 Ea aj.head;refine mM ?_;exact zx (⟨x.d,x.r,x.w-1,D,true⟩) (by show x.w-1<x.w;omega) ⟨rfl,rfl,rfl,rfl,trivial⟩ ⟨M14.step E aC3,(by exact Ba),hkeep,hu⟩
       ·
        have h3:R=0:=by
         exact WH
        rw[vtx h2,WK h3] at hu hkeep;refine mM ?_;exact zx (⟨x.d,x.r,x.w-1,D,x.tr⟩) (by show x.w-1<x.w;omega) ⟨rfl,rfl,rfl,rfl,trivial⟩ ⟨M14.step E aC3,(by exact Ba),hkeep,hu⟩
     ·
      have h1:x.n=0:=by have h1:=of_decide_eq_false h1;omega
      have hdone:qiz x=true:=decide_eq_true h1;rw[qe hdone] at hu;refine ye ?_;exact yn x ⟨rfl,rfl,trivial⟩ ⟨KF.step E WM,(by exact Ba),hu⟩
    ·
     have dP:=(zc Ba.lt);clear Ba;rintro x dS ⟨KF,Ba,hx⟩;replace E:=E.trans KF;replace LW:=LW.step E ak;replace E:=aC (aj [(some ga)]) dS;obtain ⟨hE,_⟩:=Dm ht h0 hk;rw[←hx] at hE;have hlx:({ t with d:=x.d,tr:=x.tr }:Dec).d.length=800:=hE.len;refine zn ?_;refine za rfl (yd underlying3 rfl rfl Ba (yU hlx (t.nd) rfl) (aK ?_));refine yw ?_;refine zi ?_;refine zk 116 (.int .i64 ((t.nd+L:Nat):Int)) rfl (rfl) (yj (ve JI rfl rfl Ba rfl rfl (yV hlx (by decide:800<804)) (lV hlx (t.nd+L)) ?_));intro rT Bx Ea;replace Ba:aB rT ga 229 (yo { t with d:=x.d,nd:=t.nd+L,tr:=x.tr }):=Bx;replace E:=E.step1 Ea aj.head;have pq:({ t with d:=x.d,nd:=t.nd+L,tr:=x.tr }:Dec).d.length=800:=hE.len;refine yk ?_;refine za rfl (yd underlying3 rfl rfl Ba (yU pq (t.nd+L) rfl) (zr ?_));replace LW:=LW.step E ak;replace E:=aC (aj [(some ga)]) rT;refine yy (ι:=Unit) (fun _=>[(0,.pointer (some ⟨ga,0,none⟩)),(4,.int .i64 ((L:Nat):Int))]) (fun _ w'=>Ext (aj [(some ga)]) rT w'∧aB w' ga 229 (yo { t with d:=x.d,nd:=if 800≤t.nd+L then 800 else t.nd+L,tr:=x.tr })∧(True)) ?_ ?_
     ·
      have M19:=aC (aj [(some ga)]) rT;have aZx:=aN (aj [(some ga)]) rT;refine zf rfl (fun h1=>?_) (fun h1=>?_)
      ·
       have h1:800≤t.nd+L:=by have h1:=of_decide_eq_true h1;omega
       refine ye ?_;refine yj (ve JI rfl rfl Ba rfl rfl (yV pq (by decide:800<804)) (lV pq 800) ?_);intro wW Bx Ea;replace Ba:aB wW ga 229 (yo { t with d:=x.d,nd:=800,tr:=x.tr }):=Bx;replace E:=E.step1 Ea aj.head;refine aK ?_;replace Ba:aB wW ga 229 (yo { t with d:=x.d,nd:=if 800≤t.nd+L then 800 else t.nd+L,tr:=x.tr }):=by rw[if_pos h1];exact Ba
       exact WE
      ·
       have h1:¬800≤t.nd+L:=by have h1:=of_decide_eq_false h1;omega
       refine aK ?_;replace Ba:aB rT ga 229 (yo { t with d:=x.d,nd:=if 800≤t.nd+L then 800 else t.nd+L,tr:=x.tr }):=by rw[if_neg h1];exact Ba
       exact WE
     ·
      have dP:=(zc Ba.lt);clear Ba;rintro _ wL ⟨M19,Ba,_⟩;replace E:=E.trans M19;replace LW:=LW.step E ak;replace E:=aC (aj [(some ga)]) wL;have hlz:({ t with d:=x.d,nd:=if 800≤t.nd+L then 800 else t.nd+L,tr:=x.tr }:Dec).d.length=800:=hE.len;have ba0:({ t with d:=x.d,nd:=if 800≤t.nd+L then 800 else t.nd+L,dp:=t.dp+((L:Nat):Int),tr:=x.tr }:Dec).d.length=800:=hE.len;refine zn ?_;refine za rfl (yd underlying3 rfl rfl Ba (xV hlz t.dp rfl) (aK ?_));refine yw ?_;refine zi ?_;refine yj (ve JI rfl rfl Ba rfl rfl (yV hlz (by decide:801<804)) (vgv hlz (t.dp+((L:Nat):Int))) ?_);intro NP Bx Ea;replace Ba:aB NP ga 229 (yo { t with d:=x.d,nd:=if 800≤t.nd+L then 800 else t.nd+L,dp:=t.dp+((L:Nat):Int),tr:=x.tr }):=Bx;replace E:=E.step1 Ea aj.head;refine ye ?_;refine za rfl (ze ao5 rfl ((DN _ ga _ ba0 (by show (if 800≤t.nd+L then 800 else t.nd+L)≤800;split<;>omega) Ba).mono ?_));rintro e wN ⟨rfl,hB,hE⟩;refine ⟨_,rfl,?_⟩;replace Ba:=hB;clear hB;replace E:=E.step1 hE aj.head;clear hE;refine aK ?_;refine ZJ rfl ?_;exact ⟨rfl,by unfold jf;rw[←hx,←hL];exact Ba,(LW.step E ak)⟩
end
theorem DU {P Q:Prop} (k:Q) (h:(Unit→Q)→P:=by
 intro zK;refine zo ?_;refine za rfl (yd underlying3 rfl rfl Ba (yU hl t.nd rfl) (ye ?_));refine zw 4 rfl (by rw[gq om]<;>rfl) (yk ?_);exact zK ()):P:=h fun _=>k
theorem mP {P Q:Prop} (k:Q) (h:(Unit→Q)→P:=by
 intro zK;refine bZ rfl (yd underlying3 rfl rfl (HF.on E).here.2 (yU hl t.nd rfl) (ye ?_));exact zK ()):P:=h fun _=>k
theorem qtz {P Q:Prop} (k:Q) (h:(Unit→Q)→P:=by
 intro zK;refine za rfl (yd underlying3 rfl rfl (HF.on E).here.2 (xV hl t.dp rfl) ?_);exact zK ()):P:=h fun _=>k
theorem arx {P:Prop} (h:P:=by
 refine za rfl (vt (j:=p.toNat) fH gF rfl rfl om om (za rfl (yd u5 rfl rfl (HF.on E).here.2 (dAt hl (dg t.d (p.toNat)) (p.toNat) rfl om) (zn ?_))));refine qf 4 (.bool (decide (53≤dg t.d p.toNat))) rfl (gr om) (aK ?_);exact ⟨by rw[e];rfl,aP LW E ak⟩):P:=h
theorem WO {t:Dec} {k:Nat} (h:k≤60):fU t k=go t k:=by
 unfold fU Qo;rw[qe (done:=yyz) (step:=qnv) (s:=⟨t,k⟩) (decide_eq_true h)]
theorem WQ (n:Nat):IntKind.u64.wrap (((n:Nat):Int)*10)=((n*10%18446744073709551616:Nat):Int):=by
 have e:((n:Nat):Int)*10=((n*10:Nat):Int):=om;rw[e];exact ywx _
theorem aR6 (n m:Nat):IntKind.u64.wrap (((n:Nat):Int)+((m:Nat):Int))=(((n+m)%18446744073709551616:Nat):Int):=by
 have e:((n:Nat):Int)+((m:Nat):Int)=((n+m:Nat):Int):=om;rw[e];exact ywx _
theorem aC4 (c:Nat):((.bool (((c:Nat):Int)%2 !=0)):Value)= .bool (decide (c%2≠0)):=by
 congr 1
 by_cases h:c%2=0
 · rw[decide_eq_false (fun e=>e h),show ((c:Nat):Int)%2=0 from om];rfl
 · rw[decide_eq_true h];exact bne_iff_ne.2 om
section
variable (w:World) {bp op cp bf of cf bl ol cl:Nat}
theorem mQ (ga k:Nat) (t:Dec) (hk:yS k) (ht:aY t) (h0:0<t.nd) (hdp:-20000000≤t.dp∧t.dp≤20000000) (hB:aB w ga 229 (yo t)) (hT:bV bp op cp bf of cf bl ol cl w) (hg:gT bp bf bl ga) :
 Calls prog 241 #[.pointer (some ⟨ga,0,none⟩),.int .i64 ((k:Nat):Int)] w fun e w'=>e= .returned (.tuple #[])∧aB w' ga 229 (yo (jf t k))∧Ext (aj [some ga]) w w':=by
 have hl:=ht.len;have ai0:=(xK hk).k1;refine zd func241 rfl ntmps241 rfl ?_;have Ba:=hB;have HF:Per (aj [(some ga)]) w (fun _=>True):=Per.yZ;have LW:=aC (aj [(some ga)]) w;have ak:=aN (aj [(some ga)]) w;have E:=aC (aj [(some ga)]) w;obtain ⟨HF,LW,E⟩:=dG HF LW E ak (Per.KO hT hg (fun q h=>h.elim (fun e=>Nat.le_of_eq (Option.some.inj e).symm) (fun e=>e.elim)));refine DU ?_;refine qm 10 rfl (by rw[decide_eq_true om]<;>rfl) (zr ?_);refine ZN (zp ?_);refine zw 14 rfl (by rw[decide_eq_false om]<;>rfl) (qc ?_);refine kR ?_;refine za rfl (ze aK9 rfl ((WL _ ga k t hk ht h0 hdp Ba (HF.on E).here.2 hg).mono ?_));rintro e w1 ⟨rfl,hB,hE⟩;refine ⟨_,rfl,?_⟩;replace Ba:=hB;clear hB;replace E:=E.step1 hE aj.head;clear hE;refine zi ?_;refine ZJ rfl ?_;exact ⟨rfl,Ba,(LW.step E ak)⟩
theorem mR (ga k:Nat) (t:Dec) (h:Qp ⟨t,k⟩) (hB:aB w ga 229 (yo t)) :
 Calls prog 241 #[.pointer (some ⟨ga,0,none⟩),.int .i64 (-((k:Nat):Int))] w fun e w'=>e= .returned (.tuple #[])∧aB w' ga 229 (yo (fU t k))∧Ext (aj [some ga]) w w':=by
 have hl:t.d.length=800:=h.dec.len;have h0:0<t.nd:=h.pos;have hk1:1≤k∧k≤300000:=h.k1;refine zd func241 rfl ntmps241 rfl ?_;have Ba:=hB;have LW:=aC (aj [(some ga)]) w;have ak:=aN (aj [(some ga)]) w;have E:=aC (aj [(some ga)]) w;refine DU ?_;refine zw 10 rfl (by rw[decide_eq_false om]<;>rfl) (yk ?_);refine qm 23 rfl (by rw[decide_eq_true om]<;>rfl) (zi ?_);replace LW:=LW.step E ak;replace E:=aC (aj [(some ga)]) w;refine yy (ι:=ShS) (fun s=>[(0,.pointer (some ⟨ga,0,none⟩)),(1,.int .i64 (-(s.k:Int)))]) (fun s w'=>Ext (aj [(some ga)]) w w'∧aB w' ga 229 (yo s.t)∧(s=Qo t k)) ?_ ?_
 ·
  have M1:=aC (aj [(some ga)]) w;have dn:=aN (aj [(some ga)]) w;refine aK ?_;replace M1:=M1.step E dn;replace E:=aC (aj [(some ga)]) w;refine qw (ι:=ShS) (fun s=>[(0,.pointer (some ⟨ga,0,none⟩)),(1,.int .i64 (-(s.k:Int)))]) (fun s w'=>Ext (aj [(some ga)]) w w'∧aB w' ga 229 (yo s.t)∧(Qp s∧va yyz qnv s=Qo t k)) (fun s=>s.k) (⟨t,k⟩) ⟨rfl,rfl,trivial⟩ ⟨Ext.refl _ _,(by exact Ba),h,rfl⟩ ?_;have dP:=(zc Ba.lt);clear Ba;rintro s w4 ⟨M3,Ba,⟨hI,hu⟩⟩;have dD:oK (aj [(some ga)]) (aj [(some ga)]) w:=(aj.grow aj.none_ (fun k e=>Or.inl (aj.head k e)));replace E:=E.trans M3;replace M1:=M1.step E dn;replace E:=aC (aj [(some ga)]) w4;have hk2:=hI.k1;have ba1:=hI.dp;refine zp ?_;refine zf rfl (fun h1=>?_) (fun h1=>?_)
  ·
   have h1:60<s.k:=by have h1:=of_decide_eq_true h1;omega
   have hdone:yyz s=false:=decide_eq_false om;obtain ⟨hkeep,hlt⟩:=mo hI hdone;have hst:qnv s= ⟨go s.t 60,s.k-60⟩:=rfl;rw[vo hdone] at hu;rw[hst] at hu hkeep;refine zo ?_;refine za rfl (ze ao6 rfl ((tK _ ga 60 s.t de hI.dec hI.pos om Ba).mono ?_));rintro e w5 ⟨rfl,hB,hE⟩;refine ⟨_,rfl,?_⟩;replace Ba:=hB;clear hB;replace E:=E.step1 hE aj.head;clear hE;refine ye ?_;refine yw ?_;refine zr ?_;refine qf 1 (.int .i64 (-((s.k-60:Nat):Int))) rfl ((by congr 1;omega:(.int .i64 ((-(s.k:Int))+60):Value)=_)) ?_;exact zx (⟨go s.t 60,s.k-60⟩) (by show s.k-60<s.k;omega) ⟨rfl,rfl,trivial⟩ ⟨M3.step E dD,(by exact Ba),hkeep,hu⟩
  ·
   have h1:s.k≤60:=by have h1:=of_decide_eq_false h1;omega
   have hdone:yyz s=true:=decide_eq_true h1;rw[qe hdone] at hu;refine ye ?_;exact yn s ⟨rfl,rfl,trivial⟩ ⟨M1.step E dn,(by exact Ba),hu⟩
 ·
  have dP:=(zc Ba.lt);clear Ba;rintro s w2 ⟨M1,Ba,hs⟩;replace E:=E.trans M1;replace LW:=LW.step E ak;replace E:=aC (aj [(some ga)]) w2;obtain ⟨hE0,hd0⟩:=KT h;rw[←hs] at hE0 hd0;have hd0:s.k≤60:=of_decide_eq_true hd0;have hk2:=hE0.k1;have ba1:=hE0.dp;refine zr ?_;refine zsz ?_;refine kR ?_;refine zk 35 (.int .u64 (s.k:Int)) rfl (by congr 1;omega) (za rfl (ze ao6 rfl ((tK _ ga s.k s.t om hE0.dec hE0.pos om Ba).mono ?_)));rintro e w6 ⟨rfl,hB,hE⟩;refine ⟨_,rfl,?_⟩;replace Ba:=hB;clear hB;replace E:=E.step1 hE aj.head;clear hE;refine zi ?_;refine ZJ rfl ?_;exact ⟨rfl,by unfold fU;rw[←hs];exact Ba,(LW.step E ak)⟩
theorem ai1 (ga:Nat) (t:Dec) (p:Int) (ht:aY t) (hp:-20000000≤p∧p≤20000000) (hB:aB w ga 229 (yo t)) :
 Calls prog 272 #[.pointer (some ⟨ga,0,none⟩),.int .i64 p] w (aF w (.bool (rup t p))):=by
 have hl:=ht.len;have hnd:=ht.hn;refine zj func272 ntmps272 fun HF LW ak E=>?_;replace HF:=HF.and (Per.blk hB (fun h=>h.elim));refine yv ?_;refine zy 7 rfl (fun h1=>?_) (fun h1=>?_)
 ·
  have h1:=of_decide_eq_true h1;have e:rup t p=false:=by unfold rup;rw[if_pos (.inl h1)]
  refine yN ?_;exact vrz
 ·
  have h1:=of_decide_eq_false h1;refine ye ?_;refine mP ?_;refine zf rfl (fun h2=>?_) (fun h2=>?_)
  ·
   have h2:=of_decide_eq_true h2;have e:rup t p=false:=by unfold rup;rw[if_pos (.inr h2)]
   refine yk ?_;exact vrz
  ·
   have h2:=of_decide_eq_false h2;have hno:¬(p<0∨(t.nd:Int)≤p):=om;have hg:=ht.bN p.toNat om;refine qc ?_;refine za rfl (vt (j:=p.toNat) fH gF rfl rfl om om (za rfl (yd u5 rfl rfl (HF.on E).here.2 (dAt hl (dg t.d (p.toNat)) (p.toNat) rfl om) (zi ?_))));refine zy 22 rfl (fun h3=>?_) (fun h3=>?_)
   ·
    have h3:dg t.d p.toNat=53:=by have h3:=eq_of_beq h3;omega
    refine aK ?_;refine bZ rfl (je rfl rfl (yt om) (zr ?_));refine mP ?_;refine zf rfl (fun h4=>?_) (fun h4=>?_)
    ·
     have h4:p+1=(t.nd:Int):=eq_of_beq h4;have e0:rup t p=(if t.tr then true else if 0<p then decide ((dg t.d (p.toNat-1)-48)%2≠0) else false):=by unfold rup;rw[if_neg hno,if_pos ⟨h3,h4⟩]
     refine zo ?_;refine za rfl (yd u4 rfl rfl (HF.on E).here.2 (aZ9 hl t.tr rfl) (zi ?_));refine zf rfl (fun h5=>?_) (fun h5=>?_)
     ·
      have e:rup t p=true:=by rw[e0,if_pos h5]
      refine qc ?_;exact vrz
     ·
      refine zp ?_;refine zy 37 rfl (fun h6=>?_) (fun h6=>?_)
      ·
       have h6:=of_decide_eq_true h6;have hg2:=ht.bN (p.toNat-1) om;have e:rup t p=decide ((dg t.d (p.toNat-1)-48)%2≠0):=by rw[e0,if_neg (by rw[h5];decide),if_pos h6]
       refine zi ?_;refine bZ rfl (jn rfl rfl (yt om) (zi ?_));refine bZ rfl (vt (j:=p.toNat-1) fH gF rfl rfl om om (bZ rfl (yd u5 rfl rfl (HF.on E).here.2 (dAt hl (dg t.d (p.toNat-1)) (p.toNat-1) rfl om) (bZ rfl (jn rfl rfl (qex om) (zk 45 (.int .u8 ((dg t.d (p.toNat-1)-48:Nat):Int)) rfl (by congr 1;omega) (bZ rfl (E8 rfl rfl de (Int.tmod_eq_emod_of_nonneg om) (zp ?_)))))))));refine qf 4 (.bool (decide ((dg t.d (p.toNat-1)-48)%2≠0))) rfl (aC4 _) (aK ?_);exact vrz
      ·
       have h6:=of_decide_eq_false h6;have e:rup t p=false:=by rw[e0,if_neg (by rw[h5];decide),if_neg h6]
       refine ou ?_;exact vrz
    ·
     have h4:¬p+1=(t.nd:Int):=fun e=>absurd h4 (by rw[e];simp);have e:rup t p=decide (53≤dg t.d p.toNat):=by unfold rup;rw[if_neg hno,if_neg (fun h=>h4 h.2)]
     refine yk ?_;exact arx
   ·
    have h3:¬dg t.d p.toNat=53:=fun e=>absurd h3 (by rw[e];decide);have e:rup t p=decide (53≤dg t.d p.toNat):=by unfold rup;rw[if_neg hno,if_neg (fun h=>h3 h.1)]
    refine jI ?_;exact arx
theorem xW (ga:Nat) (t:Dec) (ht:aY t) (hp:-20000000≤t.dp∧t.dp≤20000000) (hB:aB w ga 229 (yo t)) :
 Calls prog 258 #[.pointer (some ⟨ga,0,none⟩)] w (aF w (.int .u64 ((KU t:Nat):Int))):=by
 have hl:=ht.len;have hnd:=ht.hn;refine zj func258 ntmps258 fun HF LW ak E=>?_;replace HF:=HF.and (Per.blk hB (fun h=>h.elim));refine yv ?_;refine qtz ?_;refine zr ?_;refine zf rfl (fun h1=>?_) (fun h1=>?_)
 ·
  have h1:=of_decide_eq_true h1;have e:KU t=18446744073709551615:=by unfold KU;rw[if_pos h1]
  refine yk ?_;exact vrz
 ·
  have h1:=of_decide_eq_false h1;have ai2:t.dp≤20:=om;refine yN ?_;replace HF:=HF.on E;replace LW:=LW.step E ak;replace E:=aC (No) w;refine yy (ι:=eu) (fun s=>[(0,.pointer (some ⟨ga,0,none⟩)),(3,.int .i64 (s.r:Int)),(4,.int .u64 (s.n:Int))]) (fun s w'=>Ext (No) w w'∧(s=riA t)) ?_ ?_
  ·
   have M1:=aC (No) w;have dn:=aN (No) w;refine aK ?_;replace HF:=HF.on E;replace M1:=M1.step E dn;replace E:=aC (No) w;refine qw (ι:=eu) (fun s=>[(0,.pointer (some ⟨ga,0,none⟩)),(3,.int .i64 (s.r:Int)),(4,.int .u64 (s.n:Int))]) (fun s w'=>Ext (No) w w'∧(Zt s∧va (qfk t) (qwk t) s=riA t)) (fun s=>20-s.r) (⟨0,0⟩) ⟨rfl,rfl,rfl,trivial⟩ ⟨Ext.refl _ _,⟨Nat.zero_le _,de⟩,rfl⟩ ?_;rintro s w4 ⟨M3,⟨hI,hu⟩⟩;have dD:=aN (No) w;replace E:=E.trans M3;replace HF:=HF.on E;replace M1:=M1.step E dn;replace E:=aC (No) w4;have hr:=hI.hr;have hn:=hI.hn;refine zp ?_;refine qtz ?_;refine zi ?_;refine zy 16 rfl (fun h2=>?_) (fun h2=>?_)
   ·
    have h2:=of_decide_eq_true h2;refine ye ?_;refine mP ?_;refine zf rfl (fun h3=>?_) (fun h3=>?_)
    ·
     have h3:=of_decide_eq_true h3;have hdone:qfk t s=false:=decide_eq_false (fun h=>h ⟨h2,om⟩);have hkeep:=vhq ai2 hI hdone;have hst:qwk t s= ⟨s.r+1,(s.n*10%18446744073709551616+(dg t.d s.r-48))%18446744073709551616⟩:=rfl;have hg:=ht.bN s.r om;rw[vo hdone] at hu;rw[hst] at hu hkeep;have hk1:=hkeep.hr;have hk1:s.r+1≤20:=hk1;refine zo ?_;refine za rfl (xw rfl rfl (WQ s.n) (ye ?_));refine za rfl (vt (j:=s.r) fH gF rfl rfl om om (za rfl (yd u5 rfl rfl (HF.on E).here.2 (dAt hl (dg t.d (s.r)) (s.r) rfl om) (za rfl (jn rfl rfl (qex om) (za rfl (gf u25 u5 rfl (wrap_u64 om) (zk 35 (.int .u64 ((dg t.d s.r-48:Nat):Int)) rfl (by congr 1;omega) (za rfl (je rfl rfl (aR6 _ _) (zxv ?_)))))))))));exact zx (⟨s.r+1,(s.n*10%18446744073709551616+(dg t.d s.r-48))%18446744073709551616⟩) (by show 20-(s.r+1)<20-s.r;omega) ⟨rfl,rfl,rfl,trivial⟩ ⟨M3.step E dD,hkeep,hu⟩
    ·
     have h3:=of_decide_eq_false h3;have hdone:qfk t s=true:=decide_eq_true om;rw[qe hdone] at hu;refine ye ?_;exact yn s ⟨rfl,rfl,rfl,trivial⟩ ⟨M1.step E dn,hu⟩
   ·
    have h2:=of_decide_eq_false h2;have hdone:qfk t s=true:=decide_eq_true om;rw[qe hdone] at hu;refine kh ?_;exact yn s ⟨rfl,rfl,rfl,trivial⟩ ⟨M1.step E dn,hu⟩
  ·
   rintro s w2 ⟨M1,hs⟩;replace E:=E.trans M1;replace HF:=HF.on E;replace LW:=LW.step E ak;replace E:=aC (No) w2;have hA:=Dw ai2;refine aK ?_;replace HF:=HF.on E;replace LW:=LW.step E ak;replace E:=aC (No) w2;refine yy (ι:=eu) (fun x=>[(0,.pointer (some ⟨ga,0,none⟩)),(4,.int .u64 (x.n:Int))]) (fun x w'=>Ext (No) w2 w'∧(x=riB t)) ?_ ?_
   ·
    have M5:=aC (No) w2;have Kh:=aN (No) w2;refine aK ?_;replace HF:=HF.on E;replace M5:=M5.step E Kh;replace E:=aC (No) w2;refine qw (ι:=eu) (fun x=>[(0,.pointer (some ⟨ga,0,none⟩)),(3,.int .i64 (x.r:Int)),(4,.int .u64 (x.n:Int))]) (fun x w'=>Ext (No) w2 w'∧(Zt x∧va (qwv t) qwq x=riB t)) (fun x=>20-x.r) s ⟨rfl,rfl,rfl,trivial⟩ ⟨Ext.refl _ _,by rw[hs];exact hA,by rw[hs];rfl⟩ ?_;rintro x w8 ⟨M7,⟨hI,hu⟩⟩;have G5:=aN (No) w2;replace E:=E.trans M7;replace HF:=HF.on E;replace M5:=M5.step E Kh;replace E:=aC (No) w8;have hr:=hI.hr;have hn:=hI.hn;refine zp ?_;refine qtz ?_;refine zr ?_;refine zf rfl (fun h2=>?_) (fun h2=>?_)
    ·
     have h2:=of_decide_eq_true h2;have hdone:qwv t x=false:=decide_eq_false (fun h=>h h2);have hkeep:=vhz ai2 hI hdone;have hst:qwq x= ⟨x.r+1,x.n*10%18446744073709551616⟩:=rfl;rw[vo hdone] at hu;rw[hst] at hu hkeep;have hk1:x.r+1≤20:=hkeep.hr;refine zo ?_;refine za rfl (xw rfl rfl (WQ x.n) (zxv ?_));exact zx (⟨x.r+1,x.n*10%18446744073709551616⟩) (by show 20-(x.r+1)<20-x.r;omega) ⟨rfl,rfl,rfl,trivial⟩ ⟨M7.step E G5,hkeep,hu⟩
    ·
     have h2:=of_decide_eq_false h2;have hdone:qwv t x=true:=decide_eq_true h2;rw[qe hdone] at hu;refine ye ?_;exact yn x ⟨rfl,rfl,trivial⟩ ⟨M5.step E Kh,hu⟩
   ·
    rintro x w6 ⟨M5,hx⟩;replace E:=E.trans M5;replace HF:=HF.on E;replace LW:=LW.step E ak;replace E:=aC (No) w6;have hB2:=(Dx ai2).hn;refine zp ?_;refine qtz ?_;refine zb aKq (ai1 _ ga t t.dp ht hp (HF.on E).here.2) E fun w9 E=>(zi ?_);refine zf rfl (fun h3=>?_) (fun h3=>?_)
    ·
     have e:KU t=((riB t).n+1)%18446744073709551616:=by unfold KU;rw[if_neg h1,if_pos h3]
     refine zi ?_;refine za rfl (je rfl rfl (aR6 x.n 1) (yv ?_));exact ⟨by rw[e,←hx];rfl,aP LW E ak⟩
    ·
     have e:KU t=(riB t).n:=by unfold KU;rw[if_neg h1,if_neg (by rw[h3];decide)]
     refine zv ?_;exact ⟨by rw[e,←hx];rfl,aP LW E ak⟩
end
theorem qtx {P Q:Prop} (k:Q) (h:(Unit→Q)→P:=by
 intro zK;refine za rfl (ki (z:=4503599627370496) rfl rfl de kr ?_);exact zK ()):P:=h fun _=>k
theorem WR {P:Prop} (h:P:=by
 refine yx ?_;intro vs X wq K;exact uD rfl (yt om) ⟨Below.refl _ _,Left.of rfl⟩):P:=h
theorem WS {P:Prop} (h:P:=by
 exact yn () ⟨rfl,rfl,rfl,rfl,rfl,rfl,rfl,trivial⟩ ⟨M25.step E ba2,(by exact Ba),trivial⟩):P:=h
theorem WT {P:Prop} (h:P:=by
 exact yn () ⟨rfl,rfl,rfl,rfl,rfl,rfl,rfl,trivial⟩ ⟨KF.step E WM,(by exact Ba),trivial⟩):P:=h
theorem WU {P:Prop} (h:P:=by
 refine yx ?_;intro vs X wq K;exact ki (z:=4503599627370496) rfl rfl de kr ⟨Below.refl _ _,Left.of rfl⟩):P:=h
theorem WV {P:Prop} (h:P:=by
 refine yx ?_;intro vs X wq K;exact ki (z:=9223372036854775808) rfl rfl de kr ⟨Below.refl _ _,Left.of rfl⟩):P:=h
theorem WW {P:Prop} (h:P:=by
 exact qjq rfl aC5 (M,Kx,false,jf t3 53) ⟨rfl,rfl,rfl,rfl,rfl,trivial⟩ ⟨M1.step E dn,(by exact Ba),fV,aR7,om,hl5,Zu⟩):P:=h
theorem WX {P:Prop} (h:P:=by
 refine nW ?_;exact qjq rfl aC5 (0,0,false,t) ⟨rfl,rfl,rfl,rfl,rfl,trivial⟩ ⟨M1.step E dn,(by exact Ba),fV,de,de,hl,rfl⟩):P:=h
theorem K3 {P:Prop} (h:P:=by
 refine aK ?_;exact ⟨by rw[e,fV];rfl,⟨_,Ba⟩,(LW.step E ak)⟩):P:=h
theorem arj {P:Prop} (h:P:=by
 intro vs X wq K;have LE:=K.1;exact jo underlying3 rfl rfl (by rw[Nat.mul_one];exact (HF.on (E.drew.trans (LE.mono OY))).here.1.1.1.2.powtab.cells _ _ (OZ om)) ⟨Below.refl _ _,Left.of rfl⟩):P:=h
theorem WY {P:Prop} (h:P:=by
 refine yx ?_;intro vs X wq K;exact ki (z:=2048) rfl rfl de kr ⟨Below.refl _ _,Left.of rfl⟩):P:=h
theorem K4 {P:Prop} (h:P:=by
 refine yx ?_;intro vs X wq K;exact jn (z:=2047) rfl rfl kr ⟨Below.refl _ _,Left.of rfl⟩):P:=h
theorem K5 {P:Prop} (h:P:=by
 have LE:=K.1;exact jo FR rfl rfl (HF.on (E.drew.trans (LE.mono OY))).here.1.1.1.2.powtab.head ⟨Below.refl _ _,Left.of rfl⟩):P:=h
theorem K6 {P:Prop} (h:P:=by
 refine yx ?_;intro vs X wq K;have LE:=K.1;exact yd underlying3 rfl rfl (Ba.drew.aG LE au.nil) (xV hls s.t.dp rfl) ⟨Below.refl _ _,Left.of rfl⟩):P:=h
theorem as0 {P:Prop} (h:P:=by
 refine ⟨arm,arm,arm,arm,arm,?_,arm,arm,arm,arm,?_,?_,?_,trivial⟩
 · refine yx ?_;intro vs X wq K;exact jn rfl rfl (yt om) ⟨Below.refl _ _,Left.of rfl⟩
 · refine yx ?_;intro vs X wq K;exact ki (z:=2048) rfl rfl de kr ⟨Below.refl _ _,Left.of rfl⟩
 · refine yx ?_;intro vs X wq K;exact jn (z:=2047) rfl rfl kr ⟨Below.refl _ _,Left.of rfl⟩
 · refine yx ?_;intro vs X wq K;exact QM rfl rfl ⟨Below.refl _ _,Left.of (gr om)⟩):P:=h
theorem OZ {j:Nat} (h:j<9):(VL.map (fun z=>Value.int .i64 z))[j]? =some (.int .i64 ((pt j:Nat):Int)):=by
 have key:∀i:Fin 9,VL[i.val]? =some ((pt i.val:Nat):Int):=by decide +kernel
 rw[List.getElem?_map,key ⟨j,h⟩];rfl
theorem WZ {j:Nat} (h:9≤j):pt j=27:=by unfold pt;rw[if_pos h]
theorem O1 {k:Nat} (h:k≤2047):IntKind.i64.wrap (BitVec.ofInt IntKind.i64.bits ((k:Nat):Int) &&& BitVec.ofInt IntKind.i64.bits 2047).toNat=((k:Nat):Int):=by
 have key:∀v:Fin 2048,IntKind.i64.wrap (BitVec.ofInt IntKind.i64.bits (v.val:Int) &&& BitVec.ofInt IntKind.i64.bits 2047).toNat=(v.val:Int):=by decide +kernel
 exact key ⟨k,om⟩
theorem aC6 {k:Nat} (h:k≤2047):IntKind.u64.wrap (((k:Nat):Int)*2^(min ((52:Int)).toNat IntKind.u64.bits))=((k*4503599627370496:Nat):Int):=by
 have e:=Zl k 52 de;have e2:k*2^52%18446744073709551616=k*4503599627370496:=Nat.mod_eq_of_lt (by show k*4503599627370496<18446744073709551616;omega);rw[e2] at e;exact e
theorem aC7 {m:Nat} (h:m<18446744073709551616):IntKind.u64.wrap (BitVec.ofInt IntKind.u64.bits ((m:Nat):Int) &&& BitVec.ofInt IntKind.u64.bits 4503599627370495).toNat=((m &&& 4503599627370495:Nat):Int):=xp (n:=4503599627370495) h de
theorem W9 {m:Nat} (h:m<18446744073709551616):IntKind.u64.wrap (BitVec.ofInt IntKind.u64.bits ((m:Nat):Int) &&& BitVec.ofInt IntKind.u64.bits 4503599627370496).toNat=((m &&& 4503599627370496:Nat):Int):=xp (n:=4503599627370496) h de
theorem ai3 {t:Dec} (ht:aY t) (h0:0<t.nd) (hd:-330≤t.dp∧t.dp≤310):(fbR t).t.neg=t.neg:=by
 have h:=jh (done:=yfk) (step:=yfz) (fun s=>Dv s∧s.t.neg=t.neg) (fun s=>VY s.t) (fun s h hd=>?_) ⟨vlq ht h0 hd,rfl⟩
 · exact h.1.2
 · obtain ⟨h1,h2⟩:=vlk h.1 hd;obtain ⟨_,_,_,_,h5⟩:=zcv (k:=pt s.t.dp.toNat) h.1.dec (Du _).1 h.1.pos;exact ⟨⟨h1,h5.trans h.2⟩,h2⟩
theorem ai4 {t:Dec} (ht:aY t) (h0:0<t.nd) (hd:-330≤t.dp∧t.dp≤310):(fbL t).t.neg=t.neg:=by
 obtain ⟨h1,h2⟩:=mh ht h0 hd;have h:=jh (done:=ysq) (step:=yfq) (fun s=>IK s∧s.t.neg=t.neg) (fun s=>VZ s.t) (fun s h hd=>?_) ⟨vlv h1 h2,ai3 ht h0 hd⟩
 · exact h.1.2
 · obtain ⟨h3,h4⟩:=vmx h.1 hd;obtain ⟨_,_,_,_,_,h5⟩:=yrq (k:=pt (-s.t.dp).toNat) h.1.dec h.1.pos (IJ _);exact ⟨⟨h3,h5.trans h.2⟩,h4⟩
theorem Xa {t:Dec} {k:Nat} (h:Qp ⟨t,k⟩):(fU t k).neg=t.neg:=by
 have h1:=jh (done:=yyz) (step:=qnv) (fun s=>Qp s∧s.t.neg=t.neg) (fun s=>s.k) (fun s h hd=>?_) ⟨h,rfl⟩
 · have h2:Qp (Qo t k)∧(Qo t k).t.neg=t.neg:=h1.1;obtain ⟨_,_,_,_,h5⟩:=zcv (k:=(Qo t k).k) h2.1.dec h2.1.k1.1 h2.1.pos;exact h5.trans h2.2
 · obtain ⟨h3,h4⟩:=mo h.1 hd;obtain ⟨_,_,_,_,h5⟩:=zcv (k:=60) h.1.dec de h.1.pos;exact ⟨⟨h3,h5.trans h.2⟩,h4⟩
def I4 (m k:Nat):Nat:=(m &&& 4503599627370495) ||| k*4503599627370496
theorem Xb {m k:Nat} (hk:k≤2047):IntKind.u64.wrap (BitVec.ofInt IntKind.u64.bits ((m &&& 4503599627370495:Nat):Int) ||| BitVec.ofInt IntKind.u64.bits ((k*4503599627370496:Nat):Int)).toNat=((I4 m k:Nat):Int):=
 xb (Nat.lt_of_le_of_lt Nat.and_le_right de) om
theorem Xc {m k:Nat} (hk:k≤2047):I4 m k<18446744073709551616:=
 rZ (k:=64) (Nat.lt_of_le_of_lt Nat.and_le_right de) (by show k*4503599627370496<18446744073709551616;omega)
theorem O4 {m k:Nat} (hk:k≤2047):IntKind.u64.wrap (BitVec.ofInt IntKind.u64.bits ((I4 m k:Nat):Int) ||| BitVec.ofInt IntKind.u64.bits 9223372036854775808).toNat=((I4 m k ||| 9223372036854775808:Nat):Int):=
 xb (n:=9223372036854775808) (Xc hk) de
section
variable (w:World) {bp op cp bf of cf bl ol cl:Nat}
theorem Xd (ga:Nat) (t:Dec) (ht:aY t) (bg7:-20000000≤t.dp∧t.dp≤20000000) (hB:aB w ga 229 (yo t)) (hT:bV bp op cp bf of cf bl ol cl w) (hg:gT bp bf bl ga) :
 Calls prog 223 #[.pointer (some ⟨ga,0,none⟩),.pointer (some ⟨8,0,none⟩)] w fun e w'=>e= .returned (.tuple #[.int .u64 ((KV t:Nat):Int),.bool (xP t).2.2])∧(∃t',aB w' ga 229 (yo t'))∧Ext (aj [some ga]) w w':=by
 have hl:=ht.len;have hnd:=ht.hn;refine zd func223 rfl ntmps223 rfl ?_;have Ba:=hB;have HF:Per (aj [(some ga)]) w (fun _=>True):=Per.yZ;have LW:=aC (aj [(some ga)]) w;have ak:=aN (aj [(some ga)]) w;have E:=aC (aj [(some ga)]) w;obtain ⟨HF,LW,E⟩:=dG HF LW E ak (Per.KO hT hg (fun q h=>h.elim (fun e=>Nat.le_of_eq (Option.some.inj e).symm) (fun e=>e.elim)));obtain ⟨HF,LW,E⟩:=dG HF LW E ak (Per.dA (HF.on E).here.2.man hg.info (fun q h=>h.elim (fun e=>Nat.le_of_eq (Option.some.inj e).symm) (fun e=>e.elim)));obtain ⟨HF,LW,E⟩:=dG HF LW E ak (Per.dA (HF.on E).here.1.2.exp hg.info (fun q h=>h.elim (fun e=>Nat.le_of_eq (Option.some.inj e).symm) (fun e=>e.elim)));obtain ⟨HF,LW,E⟩:=dG HF LW E ak (Per.dA (HF.on E).here.1.1.2.bias hg.info (fun q h=>h.elim (fun e=>Nat.le_of_eq (Option.some.inj e).symm) (fun e=>e.elim)));refine zo ?_;refine zM 4 ?_;replace HF:=HF.on E;replace LW:=LW.step E ak;replace E:=aC (aj [(some ga)]) w;refine KZ (l:=0) (ι:=Nat×Nat×Bool×Dec) (fun (m,k,ov,u)=>[(0,.pointer (some ⟨ga,0,none⟩)),(1,.pointer (some ⟨8,0,none⟩)),(5,.bool ov),(6,.int .i64 (((k:Nat):Int)-1023)),(7,.int .u64 ((m:Nat):Int))]) (fun (m,k,ov,u) w'=>Ext (aj [(some ga)]) w w'∧aB w' ga 229 (yo u)∧(xP t=(m,k,ov)∧m<18446744073709551616∧k≤2047∧u.d.length=800∧u.neg=t.neg)) rfl ?_ ?_
 ·
  intro aC5;have M1:=aC (aj [(some ga)]) w;have dn:=aN (aj [(some ga)]) w;replace HF:=HF.on E;replace LW:=LW.step E ak;replace M1:=M1.step E dn;replace E:=aC (aj [(some ga)]) w;refine KZ (l:=1) (ι:=Dec) (fun u=>[(0,.pointer (some ⟨ga,0,none⟩)),(1,.pointer (some ⟨8,0,none⟩))]) (fun u w'=>Ext (aj [(some ga)]) w w'∧aB w' ga 229 (yo u)∧(xP t=(0,2047,true)∧u.d.length=800∧u.neg=t.neg)) rfl ?_ ?_
  ·
   intro aC8;have M3:=aC (aj [(some ga)]) w;have dD:=aN (aj [(some ga)]) w;refine nW ?_;refine za rfl (yd underlying3 rfl rfl Ba (yU hl t.nd rfl) (zr ?_));refine zf rfl (fun h1=>?_) (fun h1=>?_)
   ·
    have h1:t.nd=0:=by have h1:=eq_of_beq h1;omega
    have fV:xP t=(0,0,false):=by unfold xP;rw[if_pos h1]
    exact WX
   ·
    have h1:t.nd≠0:=fun e=>absurd h1 (by rw[e];decide);refine yk ?_;refine mG ?_;refine zr ?_;refine zf rfl (fun h2=>?_) (fun h2=>?_)
    ·
     have h2:=of_decide_eq_true h2;have fV:xP t=(0,2047,true):=by unfold xP;rw[if_neg h1,if_pos h2]
     refine zi ?_;exact qjq rfl aC8 t ⟨rfl,rfl,trivial⟩ ⟨M3.step E dD,(by exact Ba),fV,hl,rfl⟩
    ·
     have h2:=of_decide_eq_false h2;refine yk ?_;refine mG ?_;refine zr ?_;refine zf rfl (fun h3=>?_) (fun h3=>?_)
     ·
      have h3:=of_decide_eq_true h3;have fV:xP t=(0,0,false):=by unfold xP;rw[if_neg h1,if_neg h2,if_pos h3]
      exact WX
     ·
      have h3:=of_decide_eq_false h3;have hpos:0<t.nd:=om;have aC9:xP t=tu (fbL t).t ((fbL t).e-1):=by unfold xP;rw[if_neg h1,if_neg h2,if_neg h3]
      refine yk ?_;replace HF:=HF.on E;replace M1:=M1.step E dn;replace M3:=M3.step E dD;replace E:=aC (aj [(some ga)]) w;refine yy (ι:=yT) (fun s=>[(0,.pointer (some ⟨ga,0,none⟩)),(1,.pointer (some ⟨8,0,none⟩)),(4,.int .u64 0),(5,.bool false),(6,.int .i64 s.e),(7,.int .u64 0)]) (fun s w'=>Ext (aj [(some ga)]) w w'∧aB w' ga 229 (yo s.t)∧(s=fbR t)) ?_ ?_
      ·
       have M5:=aC (aj [(some ga)]) w;have Kh:=aN (aj [(some ga)]) w;refine aK ?_;replace HF:=HF.on E;replace M5:=M5.step E Kh;replace E:=aC (aj [(some ga)]) w;refine qw (ι:=yT) (fun s=>[(0,.pointer (some ⟨ga,0,none⟩)),(1,.pointer (some ⟨8,0,none⟩)),(4,.int .u64 0),(5,.bool false),(6,.int .i64 s.e),(7,.int .u64 0)]) (fun s w'=>Ext (aj [(some ga)]) w w'∧aB w' ga 229 (yo s.t)∧(Dv s∧va yfk yfz s=fbR t)) (fun s=>VY s.t) (⟨t,0⟩) ⟨rfl,rfl,rfl,rfl,rfl,rfl,trivial⟩ ⟨Ext.refl _ _,(by exact Ba),vlq ht hpos om,rfl⟩ ?_;have dP:=(zc Ba.lt);clear Ba;rintro s w8 ⟨M7,Ba,⟨hI,hu⟩⟩;have G5:oK (aj [(some ga)]) (aj [(some ga)]) w:=(aj.grow aj.none_ (fun k e=>Or.inl (aj.head k e)));replace E:=E.trans M7;replace HF:=HF.on E;replace M5:=M5.step E Kh;replace E:=aC (aj [(some ga)]) w8;have hls:=hI.dec.len;have hsd:=hI.dp;have hse:=hI.e;have hsp:=hI.pos;refine zo ?_;refine za rfl (yd underlying3 rfl rfl Ba (xV hls s.t.dp rfl) (zr ?_));refine zf rfl (fun h4=>?_) (fun h4=>?_)
       ·
        have h4:=of_decide_eq_true h4;have hdone:yfk s=false:=decide_eq_false om;obtain ⟨hkeep,hms⟩:=vlk hI hdone;obtain ⟨P,hP⟩:∃P,P=pt s.t.dp.toNat:=⟨_,rfl⟩;have hP1:=Du s.t.dp.toNat;have hst:yfz s= ⟨go s.t P,s.e+((P:Nat):Int)⟩:=by rw[hP];rfl
        rw[←hP] at hP1;rw[vo hdone] at hu;rw[hst] at hu hkeep hms;refine zv ?_;replace HF:=HF.on E;replace M7:=M7.step E G5;replace E:=aC (aj [(some ga)]) w8;refine yy (ι:=Bool) (fun g=>[(0,.pointer (some ⟨ga,0,none⟩)),(1,.pointer (some ⟨8,0,none⟩)),(4,.int .u64 0),(5,.bool false),(6,.int .i64 s.e),(7,.int .u64 0),(8,.int .i64 0),(46,.bool g)]) (fun g w'=>Ext (aj [(some ga)]) w8 w'∧aB w' ga 229 (yo s.t)∧(g=decide (9≤s.t.dp))) ?_ ?_
        ·
         have M9:=aC (aj [(some ga)]) w8;have XM9:=aN (aj [(some ga)]) w8;have OY:∀q9,(aj (kf [])) q9→q9<(World.drew w8).heap.size→(aj [(some ga)]) q9:=fun k h _=>(aj.none_) k h;refine yq (aj [(some ga)]) (aj.grow aj.none_ (zc Ba.lt)) [] [] (xc [Fx.of (.pointer (some ⟨ga,0,none⟩)),
          Fx.of (.pointer (some ⟨ga,0,none⟩)),
          Fx.of (.pointer (some ⟨ga,801,none⟩)),
          Fx.of (.int .i64 s.t.dp),
          Fx.of (.slice (some ⟨bp,op,none⟩) 9 cp),
          Fx.of (.int .i64 9),
          Fx.of (.bool (decide (9≤s.t.dp)))]) mixed rfl trivial (fun _ h=>by cases h) ?_ ?_
         · refine ⟨arm,arm,arm,?_,?_,arm,arm,trivial⟩
           · exact K6
           · intro vs X wq K;exact K5
         intro vs dV LE AO AL AF AA;have fu:=Ba;replace Ba:=Ba.drew.aG LE au.nil;replace E:=E.drew.trans (LE.mono OY);obtain ⟨_,e6,k6⟩:=AL.2.2.2.2.2.2.1;refine vi (τ:=[(0,_),(1,_),(4,_),(5,_),(6,_),(7,_),(8,_),(46,.bool (decide (9≤s.t.dp)))]) ⟨rfl,rfl,rfl,rfl,rfl,rfl,rfl,congrArg some e6,trivial⟩ ?_;clear AL AF AA LE AO OY e6 k6 fu;exact yn (decide (9≤s.t.dp)) ⟨rfl,rfl,rfl,rfl,rfl,rfl,rfl,rfl,trivial⟩ ⟨M9.step E XM9,(by exact Ba),rfl⟩
        ·
         have dP:=(zc Ba.lt);clear Ba;rintro g dI ⟨M9,Ba,hgg⟩;replace E:=E.trans M9;replace HF:=HF.on E;replace M7:=M7.step E G5;replace E:=aC (aj [(some ga)]) dI;replace HF:=HF.on E;replace M7:=M7.step E G5;replace E:=aC (aj [(some ga)]) dI;refine yy (ι:=Unit) (fun _=>[(0,.pointer (some ⟨ga,0,none⟩)),(1,.pointer (some ⟨8,0,none⟩)),(4,.int .u64 0),(5,.bool false),(6,.int .i64 s.e),(7,.int .u64 0),(8,.int .i64 ((P:Nat):Int))]) (fun _ w'=>Ext (aj [(some ga)]) dI w'∧aB w' ga 229 (yo s.t)∧(True)) ?_ ?_
         ·
          have KF:=aC (aj [(some ga)]) dI;have WM:=aN (aj [(some ga)]) dI;refine zf rfl (fun h5=>?_) (fun h5=>?_)
          ·
           rw[hgg] at h5;have h5:=of_decide_eq_true h5;have e:P=27:=by rw[hP];exact WZ om
           refine zr ?_;refine qf 8 (.int .i64 ((P:Nat):Int)) rfl ((by rw[e];rfl:(.int .i64 27:Value)=_)) ?_;exact WT
          ·
           rw[hgg] at h5;have h5:=of_decide_eq_false h5;have OY:∀q9,(aj (kf [])) q9→q9<(World.drew dI).heap.size→(aj [(some ga)]) q9:=fun k h _=>(aj.none_) k h;refine yq (aj [(some ga)]) (aj.grow aj.none_ (zc Ba.lt)) [] [] (xc [Fx.of (.slice (some ⟨bp,op,none⟩) 9 cp),
            Fx.of (.pointer (some ⟨ga,0,none⟩)),
            Fx.of (.pointer (some ⟨ga,0,none⟩)),
            Fx.of (.pointer (some ⟨ga,801,none⟩)),
            Fx.of (.int .i64 s.t.dp),
            Fx.of (.pointer (some ⟨bp,op+s.t.dp.toNat*1,none⟩)),
            Fx.of (.int .i64 ((pt s.t.dp.toNat:Nat):Int)),
            Fx.of (.int .i64 ((pt s.t.dp.toNat:Nat):Int))]) mixed rfl trivial (fun _ h=>by cases h) ?_ ?_
           · refine ⟨?_,arm,arm,arm,?_,?_,?_,arm,trivial⟩
             · intro vs X wq K;exact K5
             · exact K6
             · refine yx ?_;intro vs X wq K;exact gy (j:=s.t.dp.toNat) FR JI rfl rfl om om ⟨Below.refl _ _,Left.of rfl⟩
             · refine yx ?_;exact arj
           intro vs cZ LE AO AL AF AA;have fu:=Ba;replace Ba:=Ba.drew.aG LE au.nil;replace E:=E.drew.trans (LE.mono OY);obtain ⟨_,e7,k7⟩:=AL.2.2.2.2.2.2.2.1;refine vi (τ:=[(0,_),(1,_),(4,_),(5,_),(6,_),(7,_),(8,.int .i64 ((pt s.t.dp.toNat:Nat):Int))]) ⟨rfl,rfl,rfl,rfl,rfl,rfl,congrArg some e7,trivial⟩ ?_;clear AL AF AA LE AO OY e7 k7 fu;refine qf 8 (.int .i64 ((P:Nat):Int)) rfl ((by rw[hP]:(.int .i64 ((pt s.t.dp.toNat:Nat):Int):Value)=_)) ?_;exact WT
         ·
          have dP:=(zc Ba.lt);clear Ba;rintro _ dS ⟨KF,Ba,_⟩;replace E:=E.trans KF;replace M7:=M7.step E G5;replace E:=aC (aj [(some ga)]) dS;refine ye ?_;refine zsz ?_;refine zk 56 (.int .i64 (-((P:Nat):Int))) rfl (by congr 1;omega) (za rfl (ze JL rfl ((mR _ ga P s.t ⟨hI.dec,hsp,by show 1≤P∧P≤300000;omega,by show -10000000+15*((P:Nat):Int)≤s.t.dp∧s.t.dp≤1000000;omega⟩ Ba).mono ?_)));rintro e dQ ⟨rfl,hB,hE⟩;refine ⟨_,rfl,?_⟩;replace Ba:=hB;clear hB;replace E:=E.step1 hE aj.head;clear hE;replace Ba:aB dQ ga 229 (yo (go s.t P)):=by rw[←WO om];exact Ba
          refine zn ?_;refine yw ?_;refine zr ?_;exact zx (⟨go s.t P,s.e+((P:Nat):Int)⟩) (hms) ⟨rfl,rfl,rfl,rfl,rfl,rfl,trivial⟩ ⟨M7.step E G5,(by exact Ba),hkeep,hu⟩
       ·
        have h4:=of_decide_eq_false h4;have hdone:yfk s=true:=decide_eq_true om;rw[qe hdone] at hu;refine ye ?_;exact yn s ⟨rfl,rfl,rfl,rfl,rfl,rfl,trivial⟩ ⟨M5.step E Kh,(by exact Ba),hu⟩
      ·
       have dP:=(zc Ba.lt);clear Ba;rintro s w6 ⟨M5,Ba,hs⟩;replace E:=E.trans M5;replace HF:=HF.on E;replace M1:=M1.step E dn;replace M3:=M3.step E dD;replace E:=aC (aj [(some ga)]) w6;obtain ⟨hR1,hR2⟩:=mh ht hpos om;have hLs:=vlv hR1 hR2;refine aK ?_;replace HF:=HF.on E;replace M1:=M1.step E dn;replace M3:=M3.step E dD;replace E:=aC (aj [(some ga)]) w6;refine yy (ι:=yT) (fun s=>[(0,.pointer (some ⟨ga,0,none⟩)),(1,.pointer (some ⟨8,0,none⟩)),(4,.int .u64 0),(5,.bool false),(6,.int .i64 s.e),(7,.int .u64 0)]) (fun s w'=>Ext (aj [(some ga)]) w6 w'∧aB w' ga 229 (yo s.t)∧(s=fbL t)) ?_ ?_
       ·
        have Xe:=aC (aj [(some ga)]) w6;have Xf:=aN (aj [(some ga)]) w6;refine aK ?_;replace HF:=HF.on E;replace Xe:=Xe.step E Xf;replace E:=aC (aj [(some ga)]) w6;refine qw (ι:=yT) (fun s=>[(0,.pointer (some ⟨ga,0,none⟩)),(1,.pointer (some ⟨8,0,none⟩)),(4,.int .u64 0),(5,.bool false),(6,.int .i64 s.e),(7,.int .u64 0)]) (fun s w'=>Ext (aj [(some ga)]) w6 w'∧aB w' ga 229 (yo s.t)∧(IK s∧va ysq yfq s=fbL t)) (fun s=>VZ s.t) s ⟨rfl,rfl,rfl,rfl,rfl,rfl,trivial⟩ ⟨Ext.refl _ _,(by exact Ba),by rw[hs];exact hLs,by rw[hs];rfl⟩ ?_;have dP:=(zc Ba.lt);clear Ba;rintro s fC ⟨eP,Ba,⟨hI,hu⟩⟩;have dK:oK (aj [(some ga)]) (aj [(some ga)]) w6:=(aj.grow aj.none_ (fun k e=>Or.inl (aj.head k e)));replace E:=E.trans eP;replace HF:=HF.on E;replace Xe:=Xe.step E Xf;replace E:=aC (aj [(some ga)]) fC;have hls:=hI.dec.len;have hsd:=hI.dp;have hse:=hI.e;have hsp:=hI.pos;have hsg:=hI.dec.bN 0 hsp;refine zi ?_;replace HF:=HF.on E;replace Xe:=Xe.step E Xf;replace eP:=eP.step E dK;replace E:=aC (aj [(some ga)]) fC;refine yy (ι:=Bool) (fun g=>[(0,.pointer (some ⟨ga,0,none⟩)),(1,.pointer (some ⟨8,0,none⟩)),(4,.int .u64 0),(5,.bool false),(6,.int .i64 s.e),(7,.int .u64 0),(80,.bool g)]) (fun g w'=>Ext (aj [(some ga)]) fC w'∧aB w' ga 229 (yo s.t)∧(g=decide (s.t.dp<0∨(s.t.dp=0∧dg s.t.d 0<53)))) ?_ ?_
        ·
         have Zv:=aC (aj [(some ga)]) fC;have O5:=aN (aj [(some ga)]) fC;refine ye ?_;refine za rfl (yd underlying3 rfl rfl Ba (xV hls s.t.dp rfl) (zi ?_));refine zy 66 rfl (fun h4=>?_) (fun h4=>?_)
         ·
          have h4:=of_decide_eq_true h4;refine xf ?_;exact yn true ⟨rfl,rfl,rfl,rfl,rfl,rfl,rfl,trivial⟩ ⟨Zv.step E O5,(by exact Ba),(decide_eq_true (.inl h4)).symm⟩
         ·
          have h4:=of_decide_eq_false h4;refine zr ?_;refine bZ rfl (yd underlying3 rfl rfl Ba (xV hls s.t.dp rfl) (zi ?_));refine zy 72 rfl (fun h5=>?_) (fun h5=>?_)
          ·
           have h5:=eq_of_beq h5;refine zr ?_;refine bZ rfl (zqk (j:=0) fH gF rfl rfl rfl de (bZ rfl (yd u5 rfl rfl Ba (dAt hls (dg s.t.d 0) 0 rfl de) (ye ?_))));refine qf 80 (.bool (decide (s.t.dp<0∨(s.t.dp=0∧dg s.t.d 0<53)))) rfl (gr om) ?_;exact yn (decide (s.t.dp<0∨(s.t.dp=0∧dg s.t.d 0<53))) ⟨rfl,rfl,rfl,rfl,rfl,rfl,rfl,trivial⟩ ⟨Zv.step E O5,(by exact Ba),rfl⟩
          ·
           have h5:¬s.t.dp=0:=fun e=>absurd h5 (by rw[e];decide);refine qc ?_;exact yn false ⟨rfl,rfl,rfl,rfl,rfl,rfl,rfl,trivial⟩ ⟨Zv.step E O5,(by exact Ba),(decide_eq_false om).symm⟩
        ·
         have dP:=(zc Ba.lt);clear Ba;rintro g wW ⟨Zv,Ba,hgg⟩;replace E:=E.trans Zv;replace HF:=HF.on E;replace Xe:=Xe.step E Xf;replace eP:=eP.step E dK;replace E:=aC (aj [(some ga)]) wW;refine zf rfl (fun h4=>?_) (fun h4=>?_)
         ·
          rw[hgg] at h4;have h4:=of_decide_eq_true h4;have hdone:ysq s=false:=decide_eq_false (fun h=>h h4);obtain ⟨hkeep,hms⟩:=vmx hI hdone;obtain ⟨P,hP⟩:∃P,P=pt (-s.t.dp).toNat:=⟨_,rfl⟩;have hP1:=Du (-s.t.dp).toNat;have hP2:=IJ (-s.t.dp).toNat;have hst:yfq s= ⟨jf s.t P,s.e-((P:Nat):Int)⟩:=by rw[hP];rfl
          rw[←hP] at hP1 hP2;rw[vo hdone] at hu;rw[hst] at hu hkeep hms;refine zv ?_;replace HF:=HF.on E;replace eP:=eP.step E dK;replace E:=aC (aj [(some ga)]) wW;refine yy (ι:=Bool) (fun g=>[(0,.pointer (some ⟨ga,0,none⟩)),(1,.pointer (some ⟨8,0,none⟩)),(4,.int .u64 0),(5,.bool false),(6,.int .i64 s.e),(7,.int .u64 0),(9,.int .i64 0),(88,.bool g)]) (fun g w'=>Ext (aj [(some ga)]) wW w'∧aB w' ga 229 (yo s.t)∧(g=decide (9≤0-s.t.dp))) ?_ ?_
          ·
           have M22:=aC (aj [(some ga)]) wW;have ba3:=aN (aj [(some ga)]) wW;have OY:∀q9,(aj (kf [])) q9→q9<(World.drew wW).heap.size→(aj [(some ga)]) q9:=fun k h _=>(aj.none_) k h;refine yq (aj [(some ga)]) (aj.grow aj.none_ (zc Ba.lt)) [] [] (xc [Fx.of (.pointer (some ⟨ga,0,none⟩)),
            Fx.of (.pointer (some ⟨ga,0,none⟩)),
            Fx.of (.pointer (some ⟨ga,801,none⟩)),
            Fx.of (.int .i64 s.t.dp),
            Fx.of (.int .i64 (0-s.t.dp)),
            Fx.of (.slice (some ⟨bp,op,none⟩) 9 cp),
            Fx.of (.int .i64 9),
            Fx.of (.bool (decide (9≤(0-s.t.dp))))]) mixed rfl trivial (fun _ h=>by cases h) ?_ ?_
           · refine ⟨arm,arm,arm,?_,?_,?_,arm,arm,trivial⟩
             · exact K6
             · exact WR
             · intro vs X wq K;exact K5
           intro vs w24 LE AO AL AF AA;have fu:=Ba;replace Ba:=Ba.drew.aG LE au.nil;replace E:=E.drew.trans (LE.mono OY);obtain ⟨_,e7,k7⟩:=AL.2.2.2.2.2.2.2.1;refine vi (τ:=[(0,_),(1,_),(4,_),(5,_),(6,_),(7,_),(9,_),(88,.bool (decide (9≤(0-s.t.dp))))]) ⟨rfl,rfl,rfl,rfl,rfl,rfl,rfl,congrArg some e7,trivial⟩ ?_;clear AL AF AA LE AO OY e7 k7 fu;exact yn (decide (9≤0-s.t.dp)) ⟨rfl,rfl,rfl,rfl,rfl,rfl,rfl,rfl,trivial⟩ ⟨M22.step E ba3,(by exact Ba),rfl⟩
          ·
           have dP:=(zc Ba.lt);clear Ba;rintro g wN ⟨M22,Ba,hg2⟩;replace E:=E.trans M22;replace HF:=HF.on E;replace eP:=eP.step E dK;replace E:=aC (aj [(some ga)]) wN;replace HF:=HF.on E;replace eP:=eP.step E dK;replace E:=aC (aj [(some ga)]) wN;refine yy (ι:=Unit) (fun _=>[(0,.pointer (some ⟨ga,0,none⟩)),(1,.pointer (some ⟨8,0,none⟩)),(4,.int .u64 0),(5,.bool false),(6,.int .i64 s.e),(7,.int .u64 0),(9,.int .i64 ((P:Nat):Int))]) (fun _ w'=>Ext (aj [(some ga)]) wN w'∧aB w' ga 229 (yo s.t)∧(True)) ?_ ?_
           ·
            have M25:=aC (aj [(some ga)]) wN;have ba2:=aN (aj [(some ga)]) wN;refine zf rfl (fun h5=>?_) (fun h5=>?_)
            ·
             rw[hg2] at h5;have h5:=of_decide_eq_true h5;have e:P=27:=by rw[hP];exact WZ om
             refine zr ?_;refine qf 9 (.int .i64 ((P:Nat):Int)) rfl ((by rw[e];rfl:(.int .i64 27:Value)=_)) ?_;exact WS
            ·
             rw[hg2] at h5;have h5:=of_decide_eq_false h5;have OY:∀q9,(aj (kf [])) q9→q9<(World.drew wN).heap.size→(aj [(some ga)]) q9:=fun k h _=>(aj.none_) k h;refine yq (aj [(some ga)]) (aj.grow aj.none_ (zc Ba.lt)) [] [] (xc [Fx.of (.slice (some ⟨bp,op,none⟩) 9 cp),
              Fx.of (.pointer (some ⟨ga,0,none⟩)),
              Fx.of (.pointer (some ⟨ga,0,none⟩)),
              Fx.of (.pointer (some ⟨ga,801,none⟩)),
              Fx.of (.int .i64 s.t.dp),
              Fx.of (.int .i64 (0-s.t.dp)),
              Fx.of (.pointer (some ⟨bp,op+(-s.t.dp).toNat*1,none⟩)),
              Fx.of (.int .i64 ((pt (-s.t.dp).toNat:Nat):Int)),
              Fx.of (.int .i64 ((pt (-s.t.dp).toNat:Nat):Int))]) mixed rfl trivial (fun _ h=>by cases h) ?_ ?_
             · refine ⟨?_,arm,arm,arm,?_,?_,?_,?_,arm,trivial⟩
               · intro vs X wq K;exact K5
               · exact K6
               · exact WR
               · refine yx ?_;intro vs X wq K;exact gy (j:=(-s.t.dp).toNat) FR JI rfl rfl om om ⟨Below.refl _ _,Left.of rfl⟩
               · refine yx ?_;exact arj
             intro vs w27 LE AO AL AF AA;have fu:=Ba;replace Ba:=Ba.drew.aG LE au.nil;replace E:=E.drew.trans (LE.mono OY);obtain ⟨_,e8,k8⟩:=AL.2.2.2.2.2.2.2.2.1;refine vi (τ:=[(0,_),(1,_),(4,_),(5,_),(6,_),(7,_),(9,.int .i64 ((pt (-s.t.dp).toNat:Nat):Int))]) ⟨rfl,rfl,rfl,rfl,rfl,rfl,congrArg some e8,trivial⟩ ?_;clear AL AF AA LE AO OY e8 k8 fu;refine qf 9 (.int .i64 ((P:Nat):Int)) rfl ((by rw[hP]:(.int .i64 ((pt (-s.t.dp).toNat:Nat):Int):Value)=_)) ?_;exact WS
           ·
            have dP:=(zc Ba.lt);clear Ba;rintro _ w26 ⟨M25,Ba,_⟩;replace E:=E.trans M25;replace HF:=HF.on E;replace eP:=eP.step E dK;replace E:=aC (aj [(some ga)]) w26;refine ye ?_;refine za rfl (ze JL rfl ((mQ _ ga P s.t hP2 hI.dec hsp om Ba (HF.on E).here.1.1.1.2 hg).mono ?_));rintro e w28 ⟨rfl,hB,hE⟩;refine ⟨_,rfl,?_⟩;replace Ba:=hB;clear hB;replace E:=E.step1 hE aj.head;clear hE;refine zn ?_;refine yp ?_;refine zr ?_;exact zx (⟨jf s.t P,s.e-((P:Nat):Int)⟩) (hms) ⟨rfl,rfl,rfl,rfl,rfl,rfl,trivial⟩ ⟨eP.step E dK,(by exact Ba),hkeep,hu⟩
         ·
          rw[hgg] at h4;have h4:=of_decide_eq_false h4;have hdone:ysq s=true:=decide_eq_true h4;rw[qe hdone] at hu;refine ye ?_;exact yn s ⟨rfl,rfl,rfl,rfl,rfl,rfl,trivial⟩ ⟨Xe.step E Xf,(by exact Ba),hu⟩
       ·
        have dP:=(zc Ba.lt);clear Ba;rintro s fI ⟨Xe,Ba,hs2⟩;replace E:=E.trans Xe;replace HF:=HF.on E;replace M1:=M1.step E dn;replace M3:=M3.step E dD;replace E:=aC (aj [(some ga)]) fI;clear hs;obtain ⟨hL1,_⟩:=V3 ht hpos om;rw[←hs2] at hL1 aC9;have hls:=hL1.dec.len;have hsd:=hL1.dp;have hse:=hL1.e;have hsp:=hL1.pos;have hms:0≤((VZ s.t:Nat):Int):=om;have aR8:s.t.neg=t.neg:=by rw[hs2];exact ai4 ht hpos om
        refine zr ?_;refine yp ?_;refine yv ?_;refine za rfl (je (z:=(-1022)) rfl rfl kr (zr ?_));replace HF:=HF.on E;replace M1:=M1.step E dn;replace M3:=M3.step E dD;replace E:=aC (aj [(some ga)]) fI;refine yy (ι:=Dec×Int) (fun (t3,e3)=>[(0,.pointer (some ⟨ga,0,none⟩)),(1,.pointer (some ⟨8,0,none⟩)),(4,.int .u64 0),(5,.bool false),(6,.int .i64 e3),(7,.int .u64 0)]) (fun (t3,e3) w'=>Ext (aj [(some ga)]) fI w'∧aB w' ga 229 (yo t3)∧(xP t=(if 1024≤e3 then (0,2047,true) else vqq (jf t3 53) e3)∧aY t3∧0<t3.nd∧(-11000000≤t3.dp∧t3.dp≤1000000)∧(-1022≤e3∧e3≤90000)∧t3.neg=t.neg)) ?_ ?_
        ·
         have M29:=aC (aj [(some ga)]) fI;have aR9:=aN (aj [(some ga)]) fI;refine zf rfl (fun h4=>?_) (fun h4=>?_)
         ·
          have h4:=of_decide_eq_true h4;have hSh:Qp ⟨s.t,(-1022-(s.e-1)).toNat⟩:=⟨hL1.dec,hsp,by show 1≤(-1022-(s.e-1)).toNat∧(-1022-(s.e-1)).toNat≤300000;omega,by show -10000000+15*(((-1022-(s.e-1)).toNat:Nat):Int)≤s.t.dp∧s.t.dp≤1000000;omega⟩;obtain ⟨hq1,hq2,hq3,hq4⟩:=IL hSh;have hq5:(fU s.t (-1022-(s.e-1)).toNat).neg=t.neg:=by rw[Xa hSh];exact aR8
          have hfe:xP t=vqq (jf (fU s.t (-1022-(s.e-1)).toNat) 53) (-1022):=by rw[aC9];unfold tu;rw[if_pos om]
          refine zo ?_;refine za rfl (je (z:=(-1022)) rfl rfl kr (aK ?_));refine yp ?_;refine zp ?_;refine zsz ?_;refine zk 121 (.int .i64 (-(((-1022-(s.e-1)).toNat:Nat):Int))) rfl (by congr 1;omega) (za rfl (ze JL rfl ((mR _ ga (-1022-(s.e-1)).toNat s.t hSh Ba).mono ?_)));rintro e w31 ⟨rfl,hB,hE⟩;refine ⟨_,rfl,?_⟩;replace Ba:=hB;clear hB;replace E:=E.step1 hE aj.head;clear hE;refine jl ?_;refine qf 6 (.int .i64 (-1022)) rfl ((by congr 1;omega:(.int .i64 ((s.e-1)+((-1022)-(s.e-1))):Value)=_)) ?_;exact yn (fU s.t (-1022-(s.e-1)).toNat,-1022) ⟨rfl,rfl,rfl,rfl,rfl,rfl,trivial⟩ ⟨M29.step E aR9,(by exact Ba),by rw[if_neg de];exact hfe,hq1,hq2,⟨hq3,hq4⟩,de,hq5⟩
         ·
          have h4:=of_decide_eq_false h4;have hfe:xP t=(if 1024≤s.e-1 then (0,2047,true) else vqq (jf s.t 53) (s.e-1)):=by rw[aC9];unfold tu;rw[if_neg om]
          refine aK ?_;exact yn (s.t,s.e-1) ⟨rfl,rfl,rfl,rfl,rfl,rfl,trivial⟩ ⟨M29.step E aR9,(by exact Ba),hfe,hL1.dec,hsp,om,om,aR8⟩
        ·
         have dP:=(zc Ba.lt);clear Ba;rintro ⟨t3,e3⟩ Qs ⟨M29,Ba,⟨fV,ht3,hp3,hd3,he3,hn3⟩⟩;replace E:=E.trans M29;replace HF:=HF.on E;replace M1:=M1.step E dn;replace M3:=M3.step E dD;replace E:=aC (aj [(some ga)]) Qs;have hl3:=ht3.len;refine zi ?_;replace HF:=HF.on E;replace M1:=M1.step E dn;replace M3:=M3.step E dD;replace E:=aC (aj [(some ga)]) Qs;refine yy (ι:=Bool) (fun g=>[(0,.pointer (some ⟨ga,0,none⟩)),(1,.pointer (some ⟨8,0,none⟩)),(4,.int .u64 0),(5,.bool false),(6,.int .i64 e3),(7,.int .u64 0),(138,.bool g)]) (fun g w'=>Ext (aj [(some ga)]) Qs w'∧aB w' ga 229 (yo t3)∧(g=decide (1024≤e3))) ?_ ?_
         ·
          have M32:=aC (aj [(some ga)]) Qs;have ba4:=aN (aj [(some ga)]) Qs;have OY:∀q9,(aj (kf [])) q9→q9<(World.drew Qs).heap.size→(aj [(some ga)]) q9:=fun k h _=>(aj.none_) k h;refine yq (aj [(some ga)]) (aj.grow aj.none_ (zc Ba.lt)) [] [] (xc [Fx.of (.int .i64 e3),
           Fx.of (.pointer (some ⟨8,0,none⟩)),
           Fx.of (.pointer (some ⟨8,0,none⟩)),
           Fx.of (.pointer (some ⟨8,2,none⟩)),
           Fx.of (.int .i64 (-1023)),
           Fx.of (.int .i64 (e3-(-1023))),
           Fx.of (.pointer (some ⟨8,0,none⟩)),
           Fx.of (.pointer (some ⟨8,0,none⟩)),
           Fx.of (.pointer (some ⟨8,1,none⟩)),
           Fx.of (.int .u64 11),
           Fx.of (.int .i64 2048),
           Fx.of (.int .i64 2047),
           Fx.of (.bool (decide (1024≤e3)))]) mixed rfl trivial (fun _ h=>by cases h) ?_ ?_
          · exact as0
          intro vs w34 LE AO AL AF AA;have fu:=Ba;replace Ba:=Ba.drew.aG LE au.nil;replace E:=E.drew.trans (LE.mono OY);obtain ⟨_,e12,k12⟩:=AL.2.2.2.2.2.2.2.2.2.2.2.2.1;refine vi (τ:=[(0,_),(1,_),(4,_),(5,_),(6,_),(7,_),(138,.bool (decide (1024≤e3)))]) ⟨rfl,rfl,rfl,rfl,rfl,rfl,congrArg some e12,trivial⟩ ?_;clear AL AF AA LE AO OY e12 k12 fu;exact yn (decide (1024≤e3)) ⟨rfl,rfl,rfl,rfl,rfl,rfl,rfl,trivial⟩ ⟨M32.step E ba4,(by exact Ba),rfl⟩
         ·
          have dP:=(zc Ba.lt);clear Ba;rintro g w33 ⟨M32,Ba,hgg⟩;replace E:=E.trans M32;replace HF:=HF.on E;replace M1:=M1.step E dn;replace M3:=M3.step E dD;replace E:=aC (aj [(some ga)]) w33;refine zf rfl (fun h4=>?_) (fun h4=>?_)
          ·
           rw[hgg] at h4;have h4:=of_decide_eq_true h4;rw[if_pos h4] at fV;refine zi ?_;exact qjq rfl aC8 t3 ⟨rfl,rfl,trivial⟩ ⟨M3.step E dD,(by exact Ba),fV,hl3,hn3⟩
          ·
           rw[hgg] at h4;have h4:=of_decide_eq_false h4;rw[if_neg h4] at fV;obtain ⟨hq1,hq2,hq3,hq4,_,hq5⟩:=yrq ht3 hp3 (.inr (.inr (.inr (.inr (.inr (.inr (.inr (.inr (.inr (.inr rfl))))))))):yS 53);have hl5:=hq1.len;have Zu:(jf t3 53).neg=t.neg:=hq5.trans hn3;obtain ⟨M,hM⟩:∃M,M=KU (jf t3 53):=⟨_,rfl⟩;have aR7:M<18446744073709551616:=by rw[hM];exact OM _
           unfold vqq at fV;rw[←hM] at fV;refine qc ?_;refine za rfl (je (z:=53) rfl rfl kr (za rfl (gf (z:=53) underlying3 Rk rfl kr (za rfl (ze JL rfl ((mQ _ ga 53 t3 (.inr (.inr (.inr (.inr (.inr (.inr (.inr (.inr (.inr (.inr rfl)))))))))) ht3 hp3 om Ba (HF.on E).here.1.1.1.2 hg).mono ?_))))));rintro e w35 ⟨rfl,hB,hE⟩;refine ⟨_,rfl,?_⟩;replace Ba:=hB;clear hB;replace E:=E.step1 hE aj.head;clear hE;refine zn ?_;refine zh aK7 (xW _ ga (jf t3 53) hq1 om Ba) E Ba fun w36 E Ba=>(zk 148 (.int .u64 ((M:Nat):Int)) rfl (by rw[hM]<;>rfl) (yv ?_));refine za rfl (ki (z:=9007199254740992) rfl rfl de kr (zr ?_));refine zf rfl (fun h5=>?_) (fun h5=>?_)
           ·
            have h5:M=9007199254740992:=by have h5:=eq_of_beq h5;omega
            rw[if_pos h5] at fV;refine yr 7 (.int .u64 9007199254740992) rfl (by rw[h5];rfl) (zr ?_);refine za rfl (js (z:=4503599627370496) rfl rfl de kr (zo ?_));refine yw ?_;refine ye ?_;replace HF:=HF.on E;replace M1:=M1.step E dn;replace M3:=M3.step E dD;replace E:=aC (aj [(some ga)]) w36;refine yy (ι:=Bool) (fun g=>[(0,.pointer (some ⟨ga,0,none⟩)),(1,.pointer (some ⟨8,0,none⟩)),(4,.int .u64 0),(5,.bool false),(6,.int .i64 (e3+1)),(7,.int .u64 4503599627370496),(172,.bool g)]) (fun g w'=>Ext (aj [(some ga)]) w36 w'∧aB w' ga 229 (yo (jf t3 53))∧(g=decide (1023≤e3))) ?_ ?_
            ·
             have M37:=aC (aj [(some ga)]) w36;have ba5:=aN (aj [(some ga)]) w36;have OY:∀q9,(aj (kf [])) q9→q9<(World.drew w36).heap.size→(aj [(some ga)]) q9:=fun k h _=>(aj.none_) k h;refine yq (aj [(some ga)]) (aj.grow aj.none_ (zc Ba.lt)) [] [] (xc [Fx.of (.int .i64 (e3+1)),
              Fx.of (.pointer (some ⟨8,0,none⟩)),
              Fx.of (.pointer (some ⟨8,0,none⟩)),
              Fx.of (.pointer (some ⟨8,2,none⟩)),
              Fx.of (.int .i64 (-1023)),
              Fx.of (.int .i64 ((e3+1)-(-1023))),
              Fx.of (.pointer (some ⟨8,0,none⟩)),
              Fx.of (.pointer (some ⟨8,0,none⟩)),
              Fx.of (.pointer (some ⟨8,1,none⟩)),
              Fx.of (.int .u64 11),
              Fx.of (.int .i64 2048),
              Fx.of (.int .i64 2047),
              Fx.of (.bool (decide (1023≤e3)))]) mixed rfl trivial (fun _ h=>by cases h) ?_ ?_
             · exact as0
             intro vs w39 LE AO AL AF AA;have fu:=Ba;replace Ba:=Ba.drew.aG LE au.nil;replace E:=E.drew.trans (LE.mono OY);obtain ⟨_,e12,k12⟩:=AL.2.2.2.2.2.2.2.2.2.2.2.2.1;refine vi (τ:=[(0,_),(1,_),(4,_),(5,_),(6,_),(7,_),(172,.bool (decide (1023≤e3)))]) ⟨rfl,rfl,rfl,rfl,rfl,rfl,congrArg some e12,trivial⟩ ?_;clear AL AF AA LE AO OY e12 k12 fu;exact yn (decide (1023≤e3)) ⟨rfl,rfl,rfl,rfl,rfl,rfl,rfl,trivial⟩ ⟨M37.step E ba5,(by exact Ba),rfl⟩
            ·
             have dP:=(zc Ba.lt);clear Ba;rintro g w38 ⟨M37,Ba,hg3⟩;replace E:=E.trans M37;replace HF:=HF.on E;replace M1:=M1.step E dn;replace M3:=M3.step E dD;replace E:=aC (aj [(some ga)]) w38;refine zf rfl (fun h6=>?_) (fun h6=>?_)
             ·
              rw[hg3] at h6;have h6:=of_decide_eq_true h6;rw[if_pos h6] at fV;refine zi ?_;exact qjq rfl aC8 (jf t3 53) ⟨rfl,rfl,trivial⟩ ⟨M3.step E dD,(by exact Ba),fV,hl5,Zu⟩
             ·
              rw[hg3] at h6;have h6:=of_decide_eq_false h6;rw[if_neg h6] at fV;obtain ⟨Kx,hK⟩:∃Kx,Kx=(e3+1+1023).toNat:=⟨_,rfl⟩;rw[←hK] at fV;refine ye ?_;refine yr 7 (.int .u64 ((4503599627370496:Nat):Int)) rfl (rfl) (zo ?_);refine qtx ?_;refine za rfl (gh rfl rfl (W9 (m:=4503599627370496) de) (zr ?_));refine zw 180 rfl (by rw[gq (by decide +kernel)]<;>rfl) (zo ?_);refine qf 6 (.int .i64 (((Kx:Nat):Int)-1023)) rfl ((by congr 1;omega:(.int .i64 (e3+1):Value)=_)) ?_;exact qjq rfl aC5 (4503599627370496,Kx,false,jf t3 53) ⟨rfl,rfl,rfl,rfl,rfl,trivial⟩ ⟨M1.step E dn,(by exact Ba),fV,de,om,hl5,Zu⟩
           ·
            have h5:¬M=9007199254740992:=fun e=>absurd h5 (by rw[e];decide);rw[if_neg h5] at fV;refine zv ?_;refine qtx ?_;refine za rfl (gh rfl rfl (W9 aR7) (zr ?_));refine zf rfl (fun h6=>?_) (fun h6=>?_)
            ·
             have h6:M &&& 4503599627370496=0:=by have h6:=eq_of_beq h6;omega
             rw[if_pos h6] at fV;obtain ⟨Kx,hK⟩:∃Kx:Nat,Kx=0:=⟨_,rfl⟩;rw[←hK] at fV;refine yv ?_;refine qf 6 (.int .i64 (((Kx:Nat):Int)-1023)) rfl ((by rw[hK];rfl:(.int .i64 (-1023):Value)=_)) ?_;exact WW
            ·
             have h6:¬M &&& 4503599627370496=0:=fun e=>absurd h6 (by rw[e];decide);rw[if_neg h6] at fV;obtain ⟨Kx,hK⟩:∃Kx,Kx=(e3+1023).toNat:=⟨_,rfl⟩;rw[←hK] at fV;refine zn ?_;refine qf 6 (.int .i64 (((Kx:Nat):Int)-1023)) rfl ((by congr 1;omega:(.int .i64 e3:Value)=_)) ?_;exact WW
  ·
   have dP:=(zc Ba.lt);clear Ba;rintro u w4 ⟨M3,Ba,⟨fV,hl5,Zu⟩⟩;replace E:=E.trans M3;replace HF:=HF.on E;replace LW:=LW.step E ak;replace E:=aC (aj [(some ga)]) w4;refine qc ?_;have OY:∀q9,(aj (kf [])) q9→q9<(World.drew w4).heap.size→(aj [(some ga)]) q9:=fun k h _=>(aj.none_) k h;refine yq (aj [(some ga)]) (aj.grow aj.none_ (zc Ba.lt)) [] [] (xc [Fx.of (.pointer (some ⟨8,0,none⟩)),
    Fx.of (.pointer (some ⟨8,0,none⟩)),
    Fx.of (.pointer (some ⟨8,1,none⟩)),
    Fx.of (.int .u64 11),
    Fx.of (.int .i64 2048),
    Fx.of (.int .i64 2047),
    Fx.of (.pointer (some ⟨8,0,none⟩)),
    Fx.of (.pointer (some ⟨8,0,none⟩)),
    Fx.of (.pointer (some ⟨8,2,none⟩)),
    Fx.of (.int .i64 (-1023)),
    Fx.of (.int .i64 1024),
    Fx.of (.int .i64 1024)]) mixed rfl trivial (fun _ h=>by cases h) ?_ ?_
   · refine ⟨arm,arm,arm,arm,?_,?_,arm,arm,arm,arm,?_,arm,trivial⟩
     · exact WY
     · exact K4
     · refine yx ?_;intro vs X wq K;exact je (z:=1024) rfl rfl kr ⟨Below.refl _ _,Left.of rfl⟩
   intro vs w40 LE AO AL AF AA;have fu:=Ba;replace Ba:=Ba.drew.aG LE au.nil;replace E:=E.drew.trans (LE.mono OY);obtain ⟨_,e11,k11⟩:=AL.2.2.2.2.2.2.2.2.2.2.2.1;refine vi (τ:=[(0,_),(1,_),(6,.int .i64 1024),(7,_)]) ⟨rfl,rfl,congrArg some e11,rfl,trivial⟩ ?_;clear AL AF AA LE AO OY e11 k11 fu;refine zp ?_;refine zN (yk ?_);refine qtx ?_;refine za rfl (jn (z:=4503599627370495) rfl rfl kr (qsq ?_));refine ye ?_;have OY:∀q9,(aj (kf [])) q9→q9<(World.drew w40).heap.size→(aj [(some ga)]) q9:=fun k h _=>(aj.none_) k h;refine yq (aj [(some ga)]) (aj.grow aj.none_ (zc Ba.lt)) [] [] (xc [Fx.of (.int .u64 0),
    Fx.of (.int .i64 1024),
    Fx.of (.pointer (some ⟨8,0,none⟩)),
    Fx.of (.pointer (some ⟨8,0,none⟩)),
    Fx.of (.pointer (some ⟨8,2,none⟩)),
    Fx.of (.int .i64 (-1023)),
    Fx.of (.int .i64 2047),
    Fx.of (.pointer (some ⟨8,0,none⟩)),
    Fx.of (.pointer (some ⟨8,0,none⟩)),
    Fx.of (.pointer (some ⟨8,1,none⟩)),
    Fx.of (.int .u64 11),
    Fx.of (.int .i64 2048),
    Fx.of (.int .i64 2047),
    Fx.of (.int .i64 2047),
    Fx.of (.int .u64 2047),
    Fx.of (.pointer (some ⟨8,0,none⟩)),
    Fx.of (.pointer (some ⟨8,0,none⟩)),
    Fx.of (.pointer (some ⟨8,0,none⟩)),
    Fx.of (.int .u64 52),
    Fx.of (.int .u64 9218868437227405312),
    Fx.of (.int .u64 9218868437227405312),
    Fx.of (.int .u64 9218868437227405312)]) mixed rfl trivial (fun _ h=>by cases h) ?_ ?_
   · refine ⟨arm,arm,arm,arm,arm,arm,?_,arm,arm,arm,arm,?_,?_,?_,?_,arm,arm,arm,arm,?_,?_,arm,trivial⟩
     · exact K4
     · exact WY
     · exact K4
     · refine yx ?_;intro vs X wq K;exact gh (z:=2047) rfl rfl kr ⟨Below.refl _ _,Left.of rfl⟩
     · refine yx ?_;intro vs X wq K;exact gf (z:=2047) u25 underlying3 rfl kr ⟨Below.refl _ _,Left.of rfl⟩
     · refine yx ?_;intro vs X wq K;exact ki (z:=9218868437227405312) rfl rfl de kr ⟨Below.refl _ _,Left.of rfl⟩
     · refine yx ?_;intro vs X wq K;exact oJ (z:=9218868437227405312) rfl rfl kr ⟨Below.refl _ _,Left.of rfl⟩
   intro vs w41 LE AO AL AF AA;have fu:=Ba;replace Ba:=Ba.drew.aG LE au.nil;replace E:=E.drew.trans (LE.mono OY);obtain ⟨_,e21,k21⟩:=AL.2.2.2.2.2.2.2.2.2.2.2.2.2.2.2.2.2.2.2.2.2.1;refine vi (τ:=[(0,_),(1,_),(5,_),(11,.int .u64 9218868437227405312)]) ⟨rfl,rfl,rfl,congrArg some e21,trivial⟩ ?_;clear AL AF AA LE AO OY e21 k21 fu;refine zp ?_;refine za rfl (yd u4 rfl rfl Ba (aR3 hl5 t.neg Zu) (zi ?_));refine zf rfl (fun hng=>?_) (fun hng=>?_)
   ·
    have OY:∀q9,(aj (kf [])) q9→q9<(World.drew w41).heap.size→(aj [(some ga)]) q9:=fun k h _=>(aj.none_) k h;refine yq (aj [(some ga)]) (aj.grow aj.none_ (zc Ba.lt)) [] [] (xc [Fx.of (.int .u64 9218868437227405312),
     Fx.of (.pointer (some ⟨8,0,none⟩)),
     Fx.of (.pointer (some ⟨8,0,none⟩)),
     Fx.of (.pointer (some ⟨8,0,none⟩)),
     Fx.of (.int .u64 52),
     Fx.of (.int .u64 4503599627370496),
     Fx.of (.pointer (some ⟨8,0,none⟩)),
     Fx.of (.pointer (some ⟨8,0,none⟩)),
     Fx.of (.pointer (some ⟨8,1,none⟩)),
     Fx.of (.int .u64 11),
     Fx.of (.int .u64 9223372036854775808),
     Fx.of (.int .u64 18442240474082181120),
     Fx.of (.int .u64 18442240474082181120)]) mixed rfl trivial (fun _ h=>by cases h) ?_ ?_
    · refine ⟨arm,arm,arm,arm,arm,?_,arm,arm,arm,arm,?_,?_,arm,trivial⟩
      · exact WU
      · exact WV
      · refine yx ?_;intro vs X wq K;exact oJ (z:=18442240474082181120) rfl rfl kr ⟨Below.refl _ _,Left.of rfl⟩
    intro vs w42 LE AO AL AF AA;have fu:=Ba;replace Ba:=Ba.drew.aG LE au.nil;replace E:=E.drew.trans (LE.mono OY);obtain ⟨_,e12,k12⟩:=AL.2.2.2.2.2.2.2.2.2.2.2.2.1;refine vi (τ:=[(5,_),(11,.int .u64 18442240474082181120)]) ⟨rfl,congrArg some e12,trivial⟩ ?_;clear AL AF AA LE AO OY e12 k12 fu;refine zv ?_;refine zez ?_;have e:KV t=18442240474082181120:=by unfold KV;rw[fV,hng];decide +kernel
    exact K3
   ·
    refine yv ?_;refine zez ?_;have e:KV t=9218868437227405312:=by unfold KV;rw[fV,hng];decide +kernel
    exact K3
 ·
  have dP:=(zc Ba.lt);clear Ba;rintro ⟨m,k,ov,u⟩ w2 ⟨M1,Ba,⟨fV,hmm,hee,hl5,Zu⟩⟩;replace E:=E.trans M1;replace HF:=HF.on E;replace LW:=LW.step E ak;replace E:=aC (aj [(some ga)]) w2;refine zv ?_;refine qtx ?_;refine za rfl (jn (z:=4503599627370495) rfl rfl kr (za rfl (gh rfl rfl (aC7 hmm) (ye ?_))));have OY:∀q9,(aj (kf [])) q9→q9<(World.drew w2).heap.size→(aj [(some ga)]) q9:=fun k h _=>(aj.none_) k h;refine yq (aj [(some ga)]) (aj.grow aj.none_ (zc Ba.lt)) [] [] (xc [Fx.of (.int .u64 ((m &&& 4503599627370495:Nat):Int)),
   Fx.of (.int .i64 (((k:Nat):Int)-1023)),
   Fx.of (.pointer (some ⟨8,0,none⟩)),
   Fx.of (.pointer (some ⟨8,0,none⟩)),
   Fx.of (.pointer (some ⟨8,2,none⟩)),
   Fx.of (.int .i64 (-1023)),
   Fx.of (.int .i64 ((k:Nat):Int)),
   Fx.of (.pointer (some ⟨8,0,none⟩)),
   Fx.of (.pointer (some ⟨8,0,none⟩)),
   Fx.of (.pointer (some ⟨8,1,none⟩)),
   Fx.of (.int .u64 11),
   Fx.of (.int .i64 2048),
   Fx.of (.int .i64 2047),
   Fx.of (.int .i64 ((k:Nat):Int)),
   Fx.of (.int .u64 ((k:Nat):Int)),
   Fx.of (.pointer (some ⟨8,0,none⟩)),
   Fx.of (.pointer (some ⟨8,0,none⟩)),
   Fx.of (.pointer (some ⟨8,0,none⟩)),
   Fx.of (.int .u64 52),
   Fx.of (.int .u64 ((k*4503599627370496:Nat):Int)),
   Fx.of (.int .u64 ((I4 m k:Nat):Int)),
   Fx.of (.int .u64 ((I4 m k:Nat):Int))]) mixed rfl trivial (fun _ h=>by cases h) ?_ ?_
  · refine ⟨arm,arm,arm,arm,arm,arm,?_,arm,arm,arm,arm,?_,?_,?_,?_,arm,arm,arm,arm,?_,?_,arm,trivial⟩
    · refine yx ?_;intro vs X wq K;exact jn rfl rfl (yt om) ⟨Below.refl _ _,Left.of ((by congr 1;omega:(.int .i64 ((((k:Nat):Int)-1023)-(-1023)):Value)=_))⟩
    · exact WY
    · exact K4
    · refine yx ?_;intro vs X wq K;exact gh rfl rfl (O1 hee) ⟨Below.refl _ _,Left.of rfl⟩
    · refine yx ?_;intro vs X wq K;exact gf u25 underlying3 rfl (wrap_u64 om) ⟨Below.refl _ _,Left.of rfl⟩
    · refine yx ?_;intro vs X wq K;exact ki rfl rfl de (aC6 hee) ⟨Below.refl _ _,Left.of rfl⟩
    · refine yx ?_;intro vs X wq K;exact oJ rfl rfl (Xb hee) ⟨Below.refl _ _,Left.of rfl⟩
  intro vs w43 LE AO AL AF AA;have fu:=Ba;replace Ba:=Ba.drew.aG LE au.nil;replace E:=E.drew.trans (LE.mono OY);obtain ⟨_,e21,k21⟩:=AL.2.2.2.2.2.2.2.2.2.2.2.2.2.2.2.2.2.2.2.2.2.1;refine vi (τ:=[(0,_),(1,_),(5,_),(11,.int .u64 ((I4 m k:Nat):Int))]) ⟨rfl,rfl,rfl,congrArg some e21,trivial⟩ ?_;clear AL AF AA LE AO OY e21 k21 fu;refine zp ?_;refine za rfl (yd u4 rfl rfl Ba (aR3 hl5 t.neg Zu) (zi ?_));refine zf rfl (fun hng=>?_) (fun hng=>?_)
  ·
   have OY:∀q9,(aj (kf [])) q9→q9<(World.drew w43).heap.size→(aj [(some ga)]) q9:=fun k h _=>(aj.none_) k h;refine yq (aj [(some ga)]) (aj.grow aj.none_ (zc Ba.lt)) [] [] (xc [Fx.of (.int .u64 ((I4 m k:Nat):Int)),
    Fx.of (.pointer (some ⟨8,0,none⟩)),
    Fx.of (.pointer (some ⟨8,0,none⟩)),
    Fx.of (.pointer (some ⟨8,0,none⟩)),
    Fx.of (.int .u64 52),
    Fx.of (.int .u64 4503599627370496),
    Fx.of (.pointer (some ⟨8,0,none⟩)),
    Fx.of (.pointer (some ⟨8,0,none⟩)),
    Fx.of (.pointer (some ⟨8,1,none⟩)),
    Fx.of (.int .u64 11),
    Fx.of (.int .u64 9223372036854775808),
    Fx.of (.int .u64 ((I4 m k ||| 9223372036854775808:Nat):Int)),
    Fx.of (.int .u64 ((I4 m k ||| 9223372036854775808:Nat):Int))]) mixed rfl trivial (fun _ h=>by cases h) ?_ ?_
   · refine ⟨arm,arm,arm,arm,arm,?_,arm,arm,arm,arm,?_,?_,arm,trivial⟩
     · exact WU
     · exact WV
     · refine yx ?_;intro vs X wq K;exact oJ rfl rfl (O4 hee) ⟨Below.refl _ _,Left.of rfl⟩
   intro vs w44 LE AO AL AF AA;have fu:=Ba;replace Ba:=Ba.drew.aG LE au.nil;replace E:=E.drew.trans (LE.mono OY);obtain ⟨_,e12,k12⟩:=AL.2.2.2.2.2.2.2.2.2.2.2.2.1;refine vi (τ:=[(5,_),(11,.int .u64 ((I4 m k ||| 9223372036854775808:Nat):Int))]) ⟨rfl,congrArg some e12,trivial⟩ ?_;clear AL AF AA LE AO OY e12 k12 fu;refine zv ?_;refine zez ?_;have e:KV t=I4 m k ||| 9223372036854775808:=by unfold KV sZ I4;rw[fV,if_pos hng]
   exact K3
  ·
   refine yv ?_;refine zez ?_;have e:KV t=I4 m k:=by unfold KV sZ I4;rw[fV,if_neg (by rw[hng];decide)]
   exact K3
end
theorem DV {P Q:Prop} (k:Q) (h:(Unit→Q)→P:=by
 intro zK;refine zi ?_;refine bZ rfl (qd (j:=k) (b:=aL s (k)) u9 rfl rfl rfl (vr om) ?_);exact zK ()):P:=h fun _=>k
theorem DW {P Q:Prop} (k:Q) (h:(Unit→Q)→P:=by
 intro zK;refine zi ?_;refine bZ rfl (qd (j:=y.i) (b:=aL s (y.i)) u9 rfl rfl rfl (vr om) ?_);exact zK ()):P:=h fun _=>k
theorem DX {P Q:Prop} (k:Q) (h:(Unit→Q)→P:=by
 intro zK;refine za rfl (yd underlying3 rfl rfl Ba (yU hlx (x.t.nd) rfl) (zi ?_));refine yj (ve JI rfl rfl Ba rfl rfl (yV hlx (by decide:801<804)) (vgv hlx (x.t.nd:Int)) ?_);exact zK ()):P:=h fun _=>k
theorem DY {P Q:Prop} (k:Q) (h:(Unit→Q)→P:=by
 intro zK;refine vi (τ:=[(0,_),(1,_),(4,_),(5,_),(6,_),(7,_),(99,.int .u8 ((aL s x.i:Nat):Int)),(102,.pointer (some ⟨ga,x.t.nd,none⟩))]) ⟨rfl,rfl,rfl,rfl,rfl,rfl,congrArg some e7,congrArg some e10,trivial⟩ ?_;exact zK ()):P:=h fun _=>k
theorem mU {P Q:Prop} (k:Q) (h:(Unit→Q)→P:=by
 intro zK;refine zi ?_;refine bZ rfl (qd (j:=x.i) (b:=aL s (x.i)) u9 rfl rfl rfl (vr om) ?_);exact zK ()):P:=h fun _=>k
theorem DZ {P Q:Prop} (k:Q) (h:(Unit→Q)→P:=by
 intro zK;refine zo ?_;refine za rfl (yd underlying3 rfl rfl Ba (yU pq (x.t.nd) rfl) (yw ?_));refine zi ?_;refine zk 107 (.int .i64 ((x.t.nd+1:Nat):Int)) rfl (rfl) (yj (ve JI rfl rfl Ba rfl rfl (yV pq (by decide:800<804)) (lV pq (x.t.nd+1)) ?_));exact zK ()):P:=h fun _=>k
theorem zsk {P Q:Prop} (k:Q) (h:(Unit→Q)→P:=by
 intro zK;refine za rfl (qd (j:=x.i) (b:=aL s (x.i)) u9 rfl rfl rfl (vr om) ?_);exact zK ()):P:=h fun _=>k
theorem Xg {P:Prop} (h:P:=by
 exact yn () ⟨rfl,rfl,rfl,rfl,trivial⟩ ⟨M3.step E dD,(by exact Ba),trivial⟩):P:=h
theorem Xh {P:Prop} (h:P:=by
 exact yn x ⟨rfl,rfl,rfl,rfl,rfl,rfl,trivial⟩ ⟨M6.step E iw,(by exact Ba),hu⟩):P:=h
theorem as1 {P:Prop} (h:P:=by
 refine ⟨arm,arm,arm,arm,?_,arm,arm,?_,arm,arm,?_,trivial⟩
 · refine yx ?_;intro vs X wq K;have LE:=K.1;exact yd underlying3 rfl rfl (Ba.drew.aG LE au.nil) (yU hlx x.t.nd rfl) ⟨Below.refl _ _,Left.of rfl⟩
 · refine yx ?_;intro vs X wq K;exact qd (j:=x.i) (b:=aL s x.i) u9 rfl rfl rfl (vr om) ⟨Below.refl _ _,Left.of rfl⟩
 · refine yx ?_;intro vs X wq K;exact vt (j:=x.t.nd) fH gF rfl rfl rfl om ⟨Below.refl _ _,Left.of rfl⟩):P:=h
theorem as2 {P:Prop} (h:P:=by
 replace E:=E.step1 Ea aj.head;refine zr ?_;refine qh rfl (zn ?_);refine za rfl (je rfl rfl (yt om) (zi ?_));refine qf 5 (.int .i64 ((x.i+1:Nat):Int)) rfl (rfl) ?_;exact zx ({ x with i:=x.i+1,bN:=true,t:={ x.t with tr:=true } }) (by show Z-(x.i+1)<Z-x.i;omega) ⟨rfl,rfl,rfl,rfl,rfl,rfl,trivial⟩ ⟨M8.step E xU,(by exact Ba),hkeep,hu2⟩):P:=h
theorem as3 {P:Prop} (h:P:=by
 replace E:=E.step1 Ea aj.head;refine zr ?_;refine qh rfl (zn ?_);refine za rfl (je rfl rfl (yt om) (zi ?_));refine qf 5 (.int .i64 ((x.i+1:Nat):Int)) rfl (rfl) ?_;exact zx ({ x with i:=x.i+1,bN:=true,t:={ x.t with d:=x.t.d.set x.t.nd (aL s x.i),nd:=x.t.nd+1 } }) (by show Z-(x.i+1)<Z-x.i;omega) ⟨rfl,rfl,rfl,rfl,rfl,rfl,trivial⟩ ⟨M8.step E xU,(by exact Ba),hkeep,hu2⟩):P:=h
theorem as4 {P:Prop} (h:P:=by
 have h6:aL s x.i=48:=by
  rcases Nat.decEq (aL s x.i) 48 with h7 | h7
  · rw[bne_iff_ne.2 om] at h6;cases h6
  · exact h7
 rw[if_neg (fun h=>h h6)] at hst;rw[hst] at hkeep hu2;refine zr ?_;refine qh rfl (zn ?_);refine za rfl (je rfl rfl (yt om) (zi ?_));refine qf 5 (.int .i64 ((x.i+1:Nat):Int)) rfl (rfl) ?_;exact zx ({ x with i:=x.i+1,bN:=true,t:={ x.t with tr:=x.t.tr } }) (by show Z-(x.i+1)<Z-x.i;omega) ⟨rfl,rfl,rfl,rfl,rfl,rfl,trivial⟩ ⟨M8.step E xU,(by exact Ba),hkeep,hu2⟩):P:=h
theorem as5 {s:ByteArray} {a:KW} (h1:aL s a.i≠46) (h2:¬(aL s a.i=48∧a.t.nd=0)) (h3:a.t.nd<800):xu s a= { a with i:=a.i+1,bN:=true,t:={ a.t with d:=a.t.d.set a.t.nd (aL s a.i),nd:=a.t.nd+1 } }:=by
 unfold xu;rw[if_neg h1,if_neg h2,if_pos h3]
theorem Xi {s:ByteArray} {a:KW} (h1:aL s a.i≠46) (h2:¬(aL s a.i=48∧a.t.nd=0)) (h3:¬a.t.nd<800):xu s a= { a with i:=a.i+1,bN:=true,t:={ a.t with tr:=if aL s a.i≠48 then true else a.t.tr } }:=by
 unfold xu;rw[if_neg h1,if_neg h2,if_neg h3]
theorem ai5:Gives 180 #[.int .u8 101] (.int .u8 101):=by
 exact ar8
section
variable (w:World)
theorem ai6 (ga:Nat) (s:ByteArray) (f:Nat) (neg:Bool) {p Z q:Nat} (hsg:dO s f neg) (hs:Nm s f p Z q) (hl:s.size<100000) (hB:aB w ga 229 (yo (xR false))) :
 Calls prog 222 #[.pointer (some ⟨ga,0,none⟩),.string s] w fun e w'=>e= .returned (.bool true)∧aB w' ga 229 (yo (fq s f neg))∧Ext (aj [some ga]) w w':=by
 have hfs:f<s.size:=hs.size;have hfd:=hs.first;have hl0:(xR false).d.length=800:=(KX false).len;refine zd func222 rfl ntmps222 rfl ?_;have Ba:=hB;have LW:=aC (aj [(some ga)]) w;have ak:=aN (aj [(some ga)]) w;have E:=aC (aj [(some ga)]) w;refine xf ?_;refine yj (ve sz4 rfl rfl Ba rfl rfl (yV hl0 (by decide:802<804)) (KJ hl0 false) ?_);intro w1 Bx Ea;replace Ba:aB w1 ga 229 (yo (xR false)):=Bx;replace E:=E.step1 Ea aj.head;refine zp ?_;refine yj (ve sz4 rfl rfl Ba rfl rfl (yV hl0 (by decide:803<804)) (IB hl0 false) ?_);intro w2 Bx Ea;replace Ba:aB w2 ga 229 (yo (xR false)):=Bx;replace E:=E.step1 Ea aj.head;refine zp ?_;refine vm ?_;refine zr ?_;refine zw 19 rfl (by rw[decide_eq_false om]<;>rfl) (yk ?_);refine qtk ?_;refine zi ?_;replace LW:=LW.step E ak;replace E:=aC (aj [(some ga)]) w2;refine yy (ι:=Unit) (fun _=>[(0,.pointer (some ⟨ga,0,none⟩)),(1,.string s),(4,.bool false),(5,.int .i64 ((f:Nat):Int))]) (fun _ w'=>Ext (aj [(some ga)]) w2 w'∧aB w' ga 229 (yo (xR neg))∧(True)) ?_ ?_
 ·
  have M3:=aC (aj [(some ga)]) w2;have dD:=aN (aj [(some ga)]) w2;refine zp ?_;by_cases hneg:neg=true
  ·
   obtain ⟨hf1,h45⟩:=hsg.neg hneg;refine zw 23 rfl (by rw[h45];rfl) (zp ?_);refine qm 27 rfl (by rw[h45];rfl) (ye ?_);refine za rfl (je (z:=1) rfl rfl kr (zp ?_));refine yj (ve sz4 rfl rfl Ba rfl rfl (yV hl0 (by decide:802<804)) (KJ hl0 true) ?_);intro w5 Bx Ea;replace Ba:aB w5 ga 229 (yo (xR true)):=Bx;replace E:=E.step1 Ea aj.head;refine zi ?_;refine qf 5 (.int .i64 ((f:Nat):Int)) rfl ((by rw[hf1];rfl:(.int .i64 1:Value)=_)) ?_;replace Ba:aB w5 ga 229 (yo (xR neg)):=by rw[hneg];exact Ba
   exact Xg
  ·
   have hf0:=hsg.pos hneg;rw[hf0] at hfd;refine zw 23 rfl (by rw[gq om]<;>rfl) (zp ?_);refine zw 27 rfl (by rw[gq om]<;>rfl) (zr ?_);refine qf 5 (.int .i64 ((f:Nat):Int)) rfl ((by rw[hf0];rfl:(.int .i64 0:Value)=_)) ?_;replace Ba:aB w2 ga 229 (yo (xR neg)):=by rw[Bool.eq_false_iff.2 hneg];exact Ba
   exact Xg
 ·
  have dP:=(zc Ba.lt);clear Ba;rintro _ w4 ⟨M3,Ba,_⟩;replace E:=E.trans M3;replace LW:=LW.step E ak;replace E:=aC (aj [(some ga)]) w4;refine yv ?_;replace LW:=LW.step E ak;replace E:=aC (aj [(some ga)]) w4;refine yy (ι:=KW) (fun x=>[(0,.pointer (some ⟨ga,0,none⟩)),(1,.string s),(4,.bool false),(5,.int .i64 (x.i:Int)),(6,.bool x.dot),(7,.bool x.bN)]) (fun x w'=>Ext (aj [(some ga)]) w4 w'∧aB w' ga 229 (yo x.t)∧(x=stA s f neg)) ?_ ?_
  ·
   have M6:=aC (aj [(some ga)]) w4;have iw:=aN (aj [(some ga)]) w4;refine aK ?_;replace M6:=M6.step E iw;replace E:=aC (aj [(some ga)]) w4;refine qw (ι:=KW) (fun x=>[(0,.pointer (some ⟨ga,0,none⟩)),(1,.string s),(4,.bool false),(5,.int .i64 (x.i:Int)),(6,.bool x.dot),(7,.bool x.bN)]) (fun x w'=>Ext (aj [(some ga)]) w4 w'∧aB w' ga 229 (yo x.t)∧(StN s f p Z q x∧va (OP s) (xu s) x=stA s f neg)) (fun x=>Z-x.i) (⟨f,false,false,xR neg⟩) ⟨rfl,rfl,rfl,rfl,rfl,rfl,trivial⟩ ⟨Ext.refl _ _,(by exact Ba),vgz neg hs,rfl⟩ ?_;have dP:=(zc Ba.lt);clear Ba;rintro x w9 ⟨M8,Ba,⟨hI,hu⟩⟩;have xU:oK (aj [(some ga)]) (aj [(some ga)]) w4:=(aj.grow aj.none_ (fun k e=>Or.inl (aj.head k e)));replace E:=E.trans M8;replace M6:=M6.step E iw;replace E:=aC (aj [(some ga)]) w9;have hlx:=hI.dec.len;have hnx:=hI.dec.hn;have hsE:=hs.hE;have hiE:=hI.iE;have hfi:=hI.fi;have hpp:=hI.hp;refine zn ?_;refine vm ?_;refine zr ?_;refine zf rfl (fun h1=>?_) (fun h1=>?_)
   ·
    have h1:x.i<s.size:=by have h1:=of_decide_eq_true h1;omega
    refine zv ?_;refine zsk ?_;by_cases hE2:x.i<Z
    ·
     have hdone:=DF hs hI hE2;have hkeep:=(vgq hs hI hdone).1;have hu2:=hu;rw[vo hdone] at hu2;have hc:=hs.at_ hfi hE2;have hb:=II s x.i;refine ye ?_;refine zw 40 rfl (by rw[gq om]<;>rfl) (zn ?_);refine zsk ?_;refine ye ?_;by_cases gN:aL s x.i=46
     ·
      have hstep:xu s x= { x with i:=x.i+1,dot:=true,t:={ x.t with dp:=(x.t.nd:Int) } }:=by unfold xu;rw[if_pos gN]
      have IU:x.dot=false:=by
       rcases hc with ⟨_,h3⟩ | ⟨h3,_⟩
       · omega
       · cases h4:x.dot with
         | false=>rfl
         | true=>have:=hI.dt h4;omega
      rw[hstep] at hkeep hu2;refine qm 45 rfl (by rw[gN];rfl) (zp ?_);refine zw 50 rfl (by rw[IU]<;>rfl) (kh ?_);refine DX ?_;intro dI Bx Ea;replace Ba:aB dI ga 229 (yo { x.t with dp:=(x.t.nd:Int) }):=Bx;replace E:=E.step1 Ea aj.head;refine zr ?_;refine qh rfl (jl ?_);refine qf 5 (.int .i64 ((x.i+1:Nat):Int)) rfl (rfl) ?_;exact zx ({ x with i:=x.i+1,dot:=true,t:={ x.t with dp:=(x.t.nd:Int) } }) (by show Z-(x.i+1)<Z-x.i;omega) ⟨rfl,rfl,rfl,rfl,rfl,rfl,trivial⟩ ⟨M8.step E xU,(by exact Ba),hkeep,hu2⟩
     ·
      have hc:48≤aL s x.i∧aL s x.i≤57:=om;refine zw 45 rfl (by rw[gq om]<;>rfl) (zn ?_);refine zsk ?_;refine zi ?_;refine vf 63 rfl (by rw[decide_eq_true om]<;>rfl) (mU ?_);refine zn ?_;refine qm 58 rfl (by rw[decide_eq_true om]<;>rfl) (yv ?_);refine zsk ?_;refine zi ?_;refine zy 73 rfl (fun h3=>?_) (fun h3=>?_)
      ·
       have h3:aL s x.i=48:=by have h3:=eq_of_beq h3;omega
       refine zr ?_;refine bZ rfl (yd underlying3 rfl rfl Ba (yU hlx (x.t.nd) rfl) (ye ?_));refine zf rfl (fun h4=>?_) (fun h4=>?_)
       ·
        have h4:x.t.nd=0:=by have h4:=eq_of_beq h4;omega
        have hstep:xu s x= { x with i:=x.i+1,bN:=true,t:={ x.t with dp:=x.t.dp-1 } }:=by unfold xu;rw[if_neg gN,if_pos ⟨h3,h4⟩]
        rw[hstep] at hkeep hu2;refine zn ?_;refine za rfl (yd underlying3 rfl rfl Ba (xV hlx x.t.dp rfl) (yp ?_));refine zi ?_;refine yj (ve JI rfl rfl Ba rfl rfl (yV hlx (by decide:801<804)) (vgv hlx (x.t.dp-1)) ?_);intro dV Bx Ea;replace Ba:aB dV ga 229 (yo { x.t with dp:=x.t.dp-1 }):=Bx;replace E:=E.step1 Ea aj.head;refine ye ?_;refine qh rfl (jl ?_);refine qf 5 (.int .i64 ((x.i+1:Nat):Int)) rfl (rfl) ?_;exact zx ({ x with i:=x.i+1,bN:=true,t:={ x.t with dp:=x.t.dp-1 } }) (by show Z-(x.i+1)<Z-x.i;omega) ⟨rfl,rfl,rfl,rfl,rfl,rfl,trivial⟩ ⟨M8.step E xU,(by exact Ba),hkeep,hu2⟩
       ·
        have hnz:¬(aL s x.i=48∧x.t.nd=0):=fun h=>absurd h4 (by rw[h.2];decide);refine yk ?_;refine za rfl (yd underlying3 rfl rfl Ba (yU hlx (x.t.nd) rfl) (zr ?_));refine zf rfl (fun h5=>?_) (fun h5=>?_)
        ·
         have h5:x.t.nd<800:=by have h5:=of_decide_eq_true h5;omega
         have hst:=as5 gN hnz h5;have aCq:(x.t.d.set x.t.nd (aL s x.i)).length=800:=by rw[List.length_set];exact hlx
         have pq:({ x.t with d:=x.t.d.set x.t.nd (aL s x.i) }:Dec).d.length=800:=aCq;rw[hst] at hkeep hu2;refine aK ?_;have OY:∀q9,(aj (kf [])) q9→q9<(World.drew w9).heap.size→(aj [(some ga)]) q9:=fun k h _=>(aj.none_) k h;refine Q7 mixed (Q9 11 rfl ?_);refine zJ (aj [(some ga)]) (aj.grow aj.none_ (zc Ba.lt)) [] [] (xc [Fx.of (.pointer (some ⟨ga,0,none⟩)),
          Fx.of (.pointer (some ⟨ga,0,none⟩)),
          Fx.of (.pointer (some ⟨ga,0,none⟩)),
          Fx.of (.pointer (some ⟨ga,800,none⟩)),
          Fx.of (.int .i64 (x.t.nd:Int)),
          Fx.of (.string s),
          Fx.of (.int .i64 (x.i:Int)),
          Fx.of (.int .u8 ((aL s x.i:Nat):Int)),
          Fx.of (.pointer (some ⟨ga,0,none⟩)),
          Fx.of (.pointer (some ⟨ga,0,none⟩)),
          Fx.of (.pointer (some ⟨ga,x.t.nd,none⟩))]) rfl trivial (fun _ h=>by cases h) ?_ ?_
         · exact as1
         intro vs dB LE AO AL AF AA;have fu:=Ba;replace Ba:=Ba.drew.aG LE au.nil;replace E:=E.drew.trans (LE.mono OY);obtain ⟨_,e7,k7⟩:=AL.2.2.2.2.2.2.2.1;obtain ⟨_,e10,k10⟩:=AL.2.2.2.2.2.2.2.2.2.2.1;refine DY ?_;clear AL AF AA LE AO OY e7 e10 k7 k10 fu;refine am9 (zI kr (fun _ _ d_ _ _ h=>by cases d_<;>exact h) (yxv ?_));intro dS Bx Ea;replace Ba:aB dS ga 229 (yo { x.t with d:=x.t.d.set x.t.nd (aL s x.i) }):=Bx;replace E:=E.step1 Ea aj.head;refine DZ ?_;intro cZ Bx Ea;replace Ba:aB cZ ga 229 (yo { x.t with d:=x.t.d.set x.t.nd (aL s x.i),nd:=x.t.nd+1 }):=Bx;exact as3
        ·
         have h5:¬x.t.nd<800:=by have h5:=of_decide_eq_false h5;omega
         have hst:=Xi gN hnz h5;refine ye ?_;refine zsk ?_;refine zr ?_;refine zf rfl (fun h6=>?_) (fun h6=>?_)
         ·
          have h6:aL s x.i≠48:=fun e=>absurd h6 (by rw[e];decide);rw[if_pos h6] at hst;rw[hst] at hkeep hu2;refine quz ?_;intro dQ Bx Ea;replace Ba:aB dQ ga 229 (yo { x.t with tr:=true }):=Bx;exact as2
         ·
          exact as4
      ·
       have hnz:¬(aL s x.i=48∧x.t.nd=0):=fun h=>absurd h3 (by rw[h.1];decide);refine ou ?_;refine za rfl (yd underlying3 rfl rfl Ba (yU hlx (x.t.nd) rfl) (zr ?_));refine zf rfl (fun h5=>?_) (fun h5=>?_)
       ·
        have h5:x.t.nd<800:=by have h5:=of_decide_eq_true h5;omega
        have hst:=as5 gN hnz h5;have aCq:(x.t.d.set x.t.nd (aL s x.i)).length=800:=by rw[List.length_set];exact hlx
        have pq:({ x.t with d:=x.t.d.set x.t.nd (aL s x.i) }:Dec).d.length=800:=aCq;rw[hst] at hkeep hu2;refine aK ?_;have OY:∀q9,(aj (kf [])) q9→q9<(World.drew w9).heap.size→(aj [(some ga)]) q9:=fun k h _=>(aj.none_) k h;refine Q7 mixed (Q9 11 rfl ?_);refine zJ (aj [(some ga)]) (aj.grow aj.none_ (zc Ba.lt)) [] [] (xc [Fx.of (.pointer (some ⟨ga,0,none⟩)),
         Fx.of (.pointer (some ⟨ga,0,none⟩)),
         Fx.of (.pointer (some ⟨ga,0,none⟩)),
         Fx.of (.pointer (some ⟨ga,800,none⟩)),
         Fx.of (.int .i64 (x.t.nd:Int)),
         Fx.of (.string s),
         Fx.of (.int .i64 (x.i:Int)),
         Fx.of (.int .u8 ((aL s x.i:Nat):Int)),
         Fx.of (.pointer (some ⟨ga,0,none⟩)),
         Fx.of (.pointer (some ⟨ga,0,none⟩)),
         Fx.of (.pointer (some ⟨ga,x.t.nd,none⟩))]) rfl trivial (fun _ h=>by cases h) ?_ ?_
        · exact as1
        intro vs w16 LE AO AL AF AA;have fu:=Ba;replace Ba:=Ba.drew.aG LE au.nil;replace E:=E.drew.trans (LE.mono OY);obtain ⟨_,e7,k7⟩:=AL.2.2.2.2.2.2.2.1;obtain ⟨_,e10,k10⟩:=AL.2.2.2.2.2.2.2.2.2.2.1;refine DY ?_;clear AL AF AA LE AO OY e7 e10 k7 k10 fu;refine am9 (zI kr (fun _ _ d_ _ _ h=>by cases d_<;>exact h) (yxv ?_));intro fI Bx Ea;replace Ba:aB fI ga 229 (yo { x.t with d:=x.t.d.set x.t.nd (aL s x.i) }):=Bx;replace E:=E.step1 Ea aj.head;refine DZ ?_;intro rT Bx Ea;replace Ba:aB rT ga 229 (yo { x.t with d:=x.t.d.set x.t.nd (aL s x.i),nd:=x.t.nd+1 }):=Bx;exact as3
       ·
        have h5:¬x.t.nd<800:=by have h5:=of_decide_eq_false h5;omega
        have hst:=Xi gN hnz h5;refine ye ?_;refine zsk ?_;refine zr ?_;refine zf rfl (fun h6=>?_) (fun h6=>?_)
        ·
         have h6:aL s x.i≠48:=fun e=>absurd h6 (by rw[e];decide);rw[if_pos h6] at hst;rw[hst] at hkeep hu2;refine quz ?_;intro fC Bx Ea;replace Ba:aB fC ga 229 (yo { x.t with tr:=true }):=Bx;exact as2
        ·
         exact as4
    ·
     have e:x.i=Z:=om;have hb:aL s x.i=101:=by rw[e];exact (hs.exp om).1
     have hdone:OP s x=true:=by
      unfold OP;rw[Bool.or_eq_true];right
      rw[hb];rfl
     rw[qe hdone] at hu;refine ye ?_;refine zw 40 rfl (by rw[hb];rfl) (zn ?_);refine zsk ?_;refine ye ?_;refine zw 45 rfl (by rw[hb];rfl) (zn ?_);refine zsk ?_;refine zi ?_;refine vf 63 rfl (by rw[hb];rfl) (mU ?_);refine zn ?_;refine zw 58 rfl (by rw[hb];rfl) (zn ?_);refine qh rfl (zr ?_);exact Xh
   ·
    have h1:¬x.i<s.size:=by have h1:=of_decide_eq_false h1;omega
    have hdone:OP s x=true:=by
     unfold OP;rw[decide_eq_true om];rfl
    rw[qe hdone] at hu;refine ye ?_;exact Xh
  ·
   have dP:=(zc Ba.lt);clear Ba;rintro x w7 ⟨M6,Ba,hx⟩;replace E:=E.trans M6;replace LW:=LW.step E ak;replace E:=aC (aj [(some ga)]) w7;obtain ⟨hR,Wu⟩:=mD neg hs;rw[←hx] at hR Wu;have hfp:=hs.fp;have hpE:=hs.pE;have hsE:=hs.hE;have hdig:x.bN=true:=hR.dg om;have hlx:=hR.dec.len;have hnx:=hR.dec.hn;have hpp:=hR.hp;have hti:=hR.iE;refine zp ?_;refine zw 118 rfl (by rw[hdig];rfl) (zv ?_);replace LW:=LW.step E ak;replace E:=aC (aj [(some ga)]) w7;refine yy (ι:=Int) (fun d2=>[(0,.pointer (some ⟨ga,0,none⟩)),(1,.string s),(4,.bool false),(5,.int .i64 (x.i:Int))]) (fun d2 w'=>Ext (aj [(some ga)]) w7 w'∧aB w' ga 229 (yo { x.t with dp:=d2 })∧(d2=(if x.dot then x.t.dp else (x.t.nd:Int)))) ?_ ?_
   ·
    have Zv:=aC (aj [(some ga)]) w7;have O5:=aN (aj [(some ga)]) w7;by_cases hdd:x.dot=true
    ·
     refine zw 120 rfl (by rw[hdd];rfl) (zi ?_);replace Ba:aB w7 ga 229 (yo { x.t with dp:=x.t.dp }):=Ba;exact yn x.t.dp ⟨rfl,rfl,rfl,rfl,trivial⟩ ⟨Zv.step E O5,(by exact Ba),by rw[hdd,if_pos rfl]⟩
    ·
     refine qm 120 rfl (by rw[Bool.eq_false_iff.2 hdd];rfl) (zo ?_);refine DX ?_;intro NP Bx Ea;replace Ba:aB NP ga 229 (yo { x.t with dp:=(x.t.nd:Int) }):=Bx;replace E:=E.step1 Ea aj.head;refine aK ?_;exact yn (x.t.nd:Int) ⟨rfl,rfl,rfl,rfl,trivial⟩ ⟨Zv.step E O5,(by exact Ba),by rw[if_neg hdd]⟩
   ·
    have dP:=(zc Ba.lt);clear Ba;rintro d2 wW ⟨Zv,Ba,hd2⟩;replace E:=E.trans Zv;replace LW:=LW.step E ak;replace E:=aC (aj [(some ga)]) wW;have hb2:-100000≤d2∧d2≤100000:=by rw[hd2];split<;>omega
    have hl2:({ x.t with dp:=d2 }:Dec).d.length=800:=hlx;have hP0:fq s f neg= { x.t with dp:=d2+oF s Z }:=by unfold fq;rw[←hx,Wu,hd2]
    by_cases he:Z<s.size
    ·
     obtain ⟨hx1,hx2,hx3,hx4⟩:=hs.exp he;have hb:aL s x.i=101:=by rw[Wu];exact hx1
     refine yik ?_;refine vf 132 rfl (by rw[decide_eq_true om]<;>rfl) (mU ?_);refine zk 135 (.int .u8 101) rfl (by rw[hb];rfl) (zh Ru (ai5 _) E Ba fun wN E Ba=>(yk ?_));refine yw ?_;refine yk ?_;refine vm ?_;refine zr ?_;refine zw 144 rfl (by rw[decide_eq_false om]<;>rfl) (ja ?_);refine za rfl (qd (j:=x.i+1) (b:=aL s (x.i+1)) u9 rfl rfl rfl (vr om) ?_);rw[←Wu] at hx2;refine zi ?_;replace LW:=LW.step E ak;replace E:=aC (aj [(some ga)]) wN;refine yy (ι:=Nat×Int) (fun (k,g)=>[(0,.pointer (some ⟨ga,0,none⟩)),(1,.string s),(4,.bool false),(5,.int .i64 ((k:Nat):Int)),(8,.int .i64 g)]) (fun (k,g) w'=>Ext (aj [(some ga)]) wN w'∧aB w' ga 229 (yo { x.t with dp:=d2 })∧(k=q∧g=(if aL s (x.i+1)=45 then -1 else 1))) ?_ ?_
     ·
      have M24:=aC (aj [(some ga)]) wN;have aCz:=aN (aj [(some ga)]) wN;refine zp ?_;by_cases c43:aL s (x.i+1)=43
      ·
       refine qm 148 rfl (by rw[c43];rfl) (zr ?_);refine yw ?_;refine zr ?_;exact yn (x.i+2,1) ⟨rfl,rfl,rfl,rfl,rfl,trivial⟩ ⟨M24.step E aCz,(by exact Ba),om,by rw[if_neg om]⟩
      ·
       refine zw 148 rfl (by rw[gq om]<;>rfl) (zp ?_);by_cases c45:aL s (x.i+1)=45
       ·
        refine qm 152 rfl (by rw[c45];rfl) (ye ?_);refine yw ?_;refine zp ?_;exact yn (x.i+2,-1) ⟨rfl,rfl,rfl,rfl,rfl,trivial⟩ ⟨M24.step E aCz,(by exact Ba),om,by rw[if_pos c45]⟩
       ·
        refine zw 152 rfl (by rw[gq om]<;>rfl) (zr ?_);exact yn (x.i+1,1) ⟨rfl,rfl,rfl,rfl,rfl,trivial⟩ ⟨M24.step E aCz,(by exact Ba),om,by rw[if_neg c45]⟩
     ·
      have dP:=(zc Ba.lt);clear Ba;rintro ⟨k,g⟩ Hr ⟨M24,Ba,⟨hk,hg⟩⟩;replace E:=E.trans M24;replace LW:=LW.step E ak;replace E:=aC (aj [(some ga)]) Hr;subst hk;have OV:=hx4 k (Nat.le_refl _) hx3;refine yik ?_;refine yu 160 rfl (by rw[decide_eq_false om]<;>rfl) (DV ?_);refine zr ?_;refine yu 166 rfl (by rw[decide_eq_false om]<;>rfl) (DV ?_);refine ye ?_;refine zw 171 rfl (by rw[decide_eq_false om]<;>rfl) (qc ?_);replace LW:=LW.step E ak;replace E:=aC (aj [(some ga)]) Hr;refine yy (ι:=V5) (fun y=>[(0,.pointer (some ⟨ga,0,none⟩)),(1,.string s),(4,.bool false),(5,.int .i64 (y.i:Int)),(8,.int .i64 g),(9,.int .i64 (y.e:Int))]) (fun y w'=>Ext (aj [(some ga)]) Hr w'∧aB w' ga 229 (yo { x.t with dp:=d2 })∧(y=exA s k)) ?_ ?_
      ·
       have M26:=aC (aj [(some ga)]) Hr;have aCx:=aN (aj [(some ga)]) Hr;refine aK ?_;replace M26:=M26.step E aCx;replace E:=aC (aj [(some ga)]) Hr;refine qw (ι:=V5) (fun y=>[(0,.pointer (some ⟨ga,0,none⟩)),(1,.string s),(4,.bool false),(5,.int .i64 (y.i:Int)),(8,.int .i64 g),(9,.int .i64 (y.e:Int))]) (fun y w'=>Ext (aj [(some ga)]) Hr w'∧aB w' ga 229 (yo { x.t with dp:=d2 })∧(ExI s k y∧va (Fj s) (Qq s) y=exA s k)) (fun y=>s.size-y.i) (⟨k,0⟩) ⟨rfl,rfl,rfl,rfl,rfl,rfl,trivial⟩ ⟨Ext.refl _ _,(by exact Ba),⟨⟨Nat.le_refl _,Nat.le_of_lt hx3⟩,by show 0<100000;decide⟩,rfl⟩ ?_;have dP:=(zc Ba.lt);clear Ba;rintro y w29 ⟨M28,Ba,⟨hI,hu⟩⟩;have aRq:oK (aj [(some ga)]) (aj [(some ga)]) Hr:=(aj.grow aj.none_ (fun k e=>Or.inl (aj.head k e)));replace E:=E.trans M28;replace M26:=M26.step E aCx;replace E:=aC (aj [(some ga)]) w29;have hhi:=hI.hi;have hhe:=hI.he;refine yik ?_;refine zy 176 rfl (fun h7=>?_) (fun h7=>?_)
       ·
        have h7:y.i<s.size:=by have h7:=of_decide_eq_true h7;omega
        have hc:=hx4 y.i hhi.1 h7;have hdone:Fj s y=false:=by unfold Fj;rw[decide_eq_false om,vvk hc];rfl
        have hkeep:=(mq hI hdone).1;rw[vo hdone] at hu;refine DW ?_;refine zi ?_;refine vf 181 rfl (by rw[decide_eq_true om]<;>rfl) (DW ?_);refine zr ?_;refine vf 187 rfl (by rw[decide_eq_true om]<;>rfl) (yN ?_);refine za rfl (qd (j:=y.i) (b:=aL s (y.i)) u9 rfl rfl rfl (vr om) (zr ?_));refine zw 199 rfl (by rw[gq om]<;>rfl) (qc ?_);refine zf rfl (fun h8=>?_) (fun h8=>?_)
        ·
         have h8:y.e<10000:=by have h8:=of_decide_eq_true h8;omega
         have hstep:Qq s y= ⟨y.i+1,y.e*10+(aL s y.i-48)⟩:=by unfold Qq;rw[if_pos h8]
         rw[hstep] at hkeep hu;refine zi ?_;refine qsx ?_;refine zi ?_;refine za rfl (qd (j:=y.i) (b:=aL s (y.i)) u9 rfl rfl rfl (vr om) (qtv ?_));refine yp ?_;refine zxv ?_;refine qf 9 (.int .i64 ((y.e*10+(aL s y.i-48):Nat):Int)) rfl ((by congr 1;omega:(.int .i64 ((((y.e:Int)*10)+((aL s (y.i):Nat):Int))-48):Value)=_)) ?_;exact zx (⟨y.i+1,y.e*10+(aL s y.i-48)⟩) (by show s.size-(y.i+1)<s.size-y.i;omega) ⟨rfl,rfl,rfl,rfl,rfl,rfl,trivial⟩ ⟨M28.step E aRq,(by exact Ba),hkeep,hu⟩
        ·
         have h8:¬y.e<10000:=by have h8:=of_decide_eq_false h8;omega
         have hstep:Qq s y= ⟨y.i+1,y.e⟩:=by unfold Qq;rw[if_neg h8]
         rw[hstep] at hkeep hu;refine jl ?_;exact zx (⟨y.i+1,y.e⟩) (by show s.size-(y.i+1)<s.size-y.i;omega) ⟨rfl,rfl,rfl,rfl,rfl,rfl,trivial⟩ ⟨M28.step E aRq,(by exact Ba),hkeep,hu⟩
       ·
        have h7:¬y.i<s.size:=by have h7:=of_decide_eq_false h7;omega
        have hdone:Fj s y=true:=by unfold Fj;rw[decide_eq_true om];rfl
        rw[qe hdone] at hu;refine JN ?_;exact yn y ⟨rfl,rfl,rfl,rfl,rfl,rfl,trivial⟩ ⟨M26.step E aCx,(by exact Ba),hu⟩
      ·
       have dP:=(zc Ba.lt);clear Ba;rintro y w27 ⟨M26,Ba,hy⟩;replace E:=E.trans M26;replace LW:=LW.step E ak;replace E:=aC (aj [(some ga)]) w27;obtain ⟨hI,hdx⟩:=qdx (s:=s) (q:=k) om;rw[←hy] at hI hdx;have hxi:=V6 hx4 hI hdx;have hxe:=hI.he;have hX:IntKind.i64.wrap ((y.e:Int)*g)=oF s Z:=by
        have e9:oF s Z=(y.e:Int)*g:=by
         unfold oF;rw[if_neg om,←Wu,hg,hy];exact ar7
        have h12:=vbq hs;rw[←e9];exact yt om
       have h12:=vbq hs;refine ye ?_;refine za rfl (yd underlying3 rfl rfl Ba (xV hl2 d2 rfl) (zi ?_));refine za rfl (xw rfl rfl hX (yw ?_));refine zi ?_;refine yj (ve JI rfl rfl Ba rfl rfl (yV hl2 (by decide:801<804)) (vgv hl2 (d2+oF s Z)) ?_);intro Qs Bx Ea;replace Ba:aB Qs ga 229 (yo { x.t with dp:=d2+oF s Z }):=Bx;replace E:=E.step1 Ea aj.head;refine zp ?_;refine vm ?_;refine zr ?_;refine zw 223 rfl (by rw[hxi];simp) (zv ?_);exact ⟨rfl,by rw[hP0];exact Ba,(LW.step E ak)⟩
    ·
     have hz:oF s Z=0:=by unfold oF;rw[if_pos om]
     refine yik ?_;refine yu 132 rfl (by rw[decide_eq_false om]<;>rfl) (nW ?_);refine vm ?_;refine zr ?_;refine zw 223 rfl (by rw[show x.i=s.size from om];simp) (zv ?_);exact ⟨rfl,by rw[hP0,hz,Int.add_zero];exact Ba,(LW.step E ak)⟩
end
theorem Ee {P Q:Prop} (k:Q) (h:(Unit→Q)→P:=by
 intro zK;refine zv ?_;refine zw 11 rfl (by rw[hd]<;>rfl) (vp ?_);refine zw 16 rfl (by rw[beq_eq_false_iff_ne.2 hlen]<;>rfl) (vp ?_);exact zK ()):P:=h fun _=>k
theorem mZ {P Q:Prop} (k:Q) (h:(Unit→Q)→P:=by
 intro zK;refine za rfl (qz (cs:=#[.bool false,.slice none 0 0]) zQ yL rfl rfl (yj (qy qK rfl rfl ay rfl rfl (Nat.le_of_ble_eq_true rfl) ?_)));exact zK ()):P:=h fun _=>k
theorem Xn {P:Prop} (h:P:=by
 replace ay:=Bx;replace E:=E.step1 dw aj.head;refine zo ?_;exact Xo):P:=h
theorem Xp {P:Prop} (h:P:=by
 obtain ⟨_,e0,_⟩:=K.dep 12 rfl rfl rfl;exact ⟨vs 12,rfl,by rw[e0];rfl,by rw[e0];rfl⟩):P:=h
theorem Xo {P:Prop} (h:P:=by
 exact by rw[qav e1,ykq e1];exact qxz (LW.step E ak).toBelow):P:=h
theorem as6 {P:Prop} (h:P:=by
 refine zr ?_;refine za rfl (qz (cs:=#[.bool false,.slice none 0 0]) zQ yL rfl rfl (yj (qy qK rfl rfl ay rfl rfl (Nat.le_of_ble_eq_true rfl) ?_)));intro w7 Bx dw;replace ay:=Bx;replace E:=E.step1 dw aj.head;refine zo ?_;exact qxz (LW.step E ak).toBelow):P:=h
theorem as7 {P:Prop} (h:P:=by
 refine vi (τ:=[(2,_),(3,_),(4,_),(5,.int .i64 0)]) ⟨rfl,rfl,rfl,congrArg some e14,trivial⟩ ?_;clear AL AF AA LE AO OY e12 e14 k12 k14 dx;refine ye ?_;exact by rw[xa hsm,xh hsm];exact ⟨some ⟨bx,ox,none⟩,c,by rw[ht,hv];rfl,by rw[ht];exact (HF.on E).here.1.1.1.1.1.2,Or.inr ⟨rfl,ht⟩,aP LW E ak⟩):P:=h
def qkq (W:World) (A0:Option Addr) (xs0:List Nat) (v f:Int) (e:Ending) (w':World):Prop:=∃A c,e= .returned (.tuple #[.agg #[.bool (decide (v<0)),.slice A (ah v).length c],.int .i64 f])∧aH w' A (ah v)∧((∀q,A=some q→W.heap.size≤q.block)∨(A=A0∧ah v=xs0))∧Below W.heap.size W w'
theorem Pe (w:World) (A:Option Addr):aH w A []:=⟨fun k=>by rw[yqk];decide,fun h=>absurd h de⟩
theorem tO {w:World} {g:Nat} (h:aB w g 5 #[.int .u8 1]):aH w (some ⟨g,0,none⟩) [1]:=
 ⟨fun k=>by unfold nth;cases k<;>simp,fun _=>⟨g,0,rfl,h.lt,fun k hk=>by
  obtain rfl:k=0:=by simp at hk;omega
  rw[h.cell];simp[nth]⟩⟩
theorem qxz {W w':World} {A0:Option Addr} {xs0:List Nat} {f:Int} (hb:Below W.heap.size W w'):qkq W A0 xs0 0 f (.returned (.tuple #[.agg #[.bool false,.slice none 0 0],.int .i64 f])) w':=
 ⟨none,0,by rw[bD];rfl,by rw[bD];exact Pe _ _,Or.inl (fun q hq=>by cases hq),hb⟩
theorem Ef {j:Int} (h0:j≠0):nth (ah j) 0=((j.natAbs%10:Nat):Int):=by
 unfold nth;rw[qa,kg de om];rfl
theorem Xq {j:Int} (h0:j≠0) (h:j.natAbs<10):(ah j).length=1:=by
 rw[qa,kg de om,Nat.div_eq_of_lt h];rfl
theorem Xr {j:Int} (h:10≤j.natAbs):1<(ah j).length:=by
 rcases Nat.lt_or_ge 1 (ah j).length with h1 | h1
 · exact h1
 · have:=(zz (b:=10) de j.natAbs 1).1 (by rw[←qa];exact h1);omega
theorem aiq {j:Int} (h0:0<j):(((j.natAbs%10:Nat):Int).tmod 2==1)=decide (j.toNat%2=1):=by
 have hpar:((j.natAbs%10:Nat):Int).tmod 2=((j.toNat%2:Nat):Int):=by
  rw[Int.tmod_eq_emod_of_nonneg om];omega
 rw[hpar,Bool.eq_iff_iff];simp
 omega
section
variable (i j:Int) (A B:Option Addr) (c d:Nat) (w:World) (hi:i.natAbs<av^30) (hj:j.natAbs<av^30) (hx:aH w A (ah i)) (hy:aH w B (ah j))
include hi hj hx hy
theorem Xt (h0:j<0):Calls prog 76 #[.agg #[.bool (decide (i<0)),.slice A (ah i).length c],.agg #[.bool (decide (j<0)),.slice B (ah j).length d]] w (qkq w A (ah i) 0 1):=by
 have _:=And.intro hi (And.intro hj (And.intro hx hy));refine zj func76 ntmps76 fun HF LW ak E=>?_;refine zi ?_;refine zg HF LW E ak fun aO w2 HF LW E=>(zg HF LW E ak fun bM w4 HF LW E=>(yb yL HF LW E ak fun aJ w6 ay dJ HF E ak=>?_));refine zv ?_;refine qm 11 rfl (by rw[decide_eq_true h0]<;>rfl) ?_;exact as6
theorem Pf (h0:j=0):Calls prog 76 #[.agg #[.bool (decide (i<0)),.slice A (ah i).length c],.agg #[.bool (decide (j<0)),.slice B (ah j).length d]] w (qkq w A (ah i) 1 0):=by
 have _:=And.intro hi (And.intro hj (And.intro hx hy));have hd:decide (j<0)=false:=by rw[h0];rfl
 have hlen:((ah j).length:Int)=0:=by rw[h0,bD];rfl
 refine zj func76 ntmps76 fun HF LW ak E=>?_;refine zi ?_;refine zg HF LW E ak fun aO w2 HF LW E=>(zg HF LW E ak fun bM w4 HF LW E=>(yb yL HF LW E ak fun aJ w6 ay dJ HF E ak=>?_));refine zv ?_;refine zw 11 rfl (by rw[hd]<;>rfl) (vp ?_);refine qm 16 rfl (by rw[hlen];rfl) (zr ?_);refine za rfl (zgq (cs:=#[.int .u8 1]) u46 gF zr5 de rfl (by rw[yaz];rfl) ?_);intro gb7 w8 Bb7 Eb7 Gb7;have Xu:Apart (some gb7) (some aJ):=Apart.of_lt (zc ay.lt) Gb7;have ba9:=Xu.symm;replace ay:=ay.aG Eb7 au.nil;have bax:=Nat.le_trans LW.size (Nat.le_trans E.size Gb7);obtain ⟨Gb7,HF,E,ak⟩:=gI HF LW E ak Eb7 Gb7;obtain ⟨HF,LW,ak,E⟩:=d9 HF LW E ak (Y:=aj [(some aJ)]) (aj.skip (aj.keep aj.bI)) (Per.bH Bb7 (au.cons Xu au.nil));refine za rfl (qz (cs:=#[.bool false,.slice (some ⟨gb7,0,none⟩) 1 1]) zQ yL rfl rfl (yj (qy qK rfl rfl ay rfl rfl (Nat.le_of_ble_eq_true rfl) ?_)));intro w9 Bx dw;replace ay:=Bx;replace E:=E.step1 dw aj.head;refine zn ?_;have e1:ah 1= [1]:=by rw[qa];rfl
 have B9:=(HF.on E).here.2;have GG:=bax;refine aK ?_;exact ⟨some ⟨gb7,0,none⟩,1,by rw[e1];rfl,by rw[e1];exact tO B9,Or.inl (fun q hq=>by obtain rfl:=Option.some.inj hq;exact GG),aP LW E ak⟩
theorem Eh (h0:0<j) (hi0:i=0):Calls prog 76 #[.agg #[.bool (decide (i<0)),.slice A (ah i).length c],.agg #[.bool (decide (j<0)),.slice B (ah j).length d]] w (qkq w A (ah i) 0 0):=by
 have _:=And.intro hi (And.intro hj (And.intro hx hy));have hd:decide (j<0)=false:=decide_eq_false om;have hlen:((ah j).length:Int)≠0:=by have:=Uc (j:=j) om;omega
 have Uo:((ah i).length:Int)=0:=by rw[hi0,bD];rfl
 refine zj func76 ntmps76 fun HF LW ak E=>?_;refine zi ?_;refine zg HF LW E ak fun aO w2 HF LW E=>(zg HF LW E ak fun bM w4 HF LW E=>(yb yL HF LW E ak fun aJ w6 ay dJ HF E ak=>?_));refine Ee ?_;refine qm 22 rfl (by rw[Uo];rfl) ?_;exact as6
theorem aiz (h0:0<j) (hi0:i≠0):Calls prog 76 #[.agg #[.bool (decide (i<0)),.slice A (ah i).length c],.agg #[.bool (decide (j<0)),.slice B (ah j).length d]] w (qkq w A (ah i) (bE true (i^j.toNat)) (bg true (i^j.toNat))):=by
 have hti:=zrk hi;have hd:decide (j<0)=false:=decide_eq_false om;have hip:=Uc (j:=i) om;have hjp:=Uc (j:=j) om;have hlen:((ah j).length:Int)≠0:=om;have Ur:((ah i).length:Int)≠0:=om;obtain ⟨bx,ox,rfl,hbx,hcx⟩:=hx.2 hip;obtain ⟨by_,oy,rfl,hby,hcy⟩:=hy.2 hjp;have hc0:w.cell? ⟨bx,ox+0,none⟩=some (.int .u8 ((i.natAbs%10:Nat):Int)):=by rw[hcx 0 hip,Ef om]
 have hd0:w.cell? ⟨by_,oy+0,none⟩=some (.int .u8 ((j.natAbs%10:Nat):Int)):=by rw[hcy 0 hjp,Ef om]
 refine zj func76 ntmps76 fun HF LW ak E=>?_;replace HF:=HF.and (Per.eY hx);replace HF:=HF.and (Per.eY hy);replace HF:=HF.and (Per.cell0 hc0);replace HF:=HF.and (Per.cell0 hd0);refine zi ?_;refine zg HF LW E ak fun aO w2 HF LW E=>(zg HF LW E ak fun bM w4 HF LW E=>(yb yL HF LW E ak fun aJ w6 ay dJ HF E ak=>?_));refine Ee ?_;refine zw 22 rfl (by rw[beq_eq_false_iff_ne.2 Ur]<;>rfl) (zn ?_);replace HF:=HF.on E;replace LW:=LW.step E ak;replace E:=aC (aj [(some aJ)]) w6;refine yy (ι:=Bool) (fun u=>[(2,.pointer (some ⟨aO,0,none⟩)),(3,.pointer (some ⟨bM,0,none⟩)),(4,.pointer (some ⟨aJ,0,none⟩)),(5,.int .i64 0),(34,.bool u)]) (fun u w'=>Ext (aj [(some aJ)]) w6 w'∧aB w' aJ 48 (#[.bool false,.slice none 0 0])∧((u=true↔i.natAbs=1))) ?_ ?_
 ·
  have M7:=aC (aj [(some aJ)]) w6;have G5:=aN (aj [(some aJ)]) w6;refine zo ?_;by_cases h:i.natAbs<10
  ·
   have h1:((ah i).length:Int)=1:=by rw[Xq om om];rfl
   refine vf 28 rfl (by rw[h1];rfl) (zi ?_);refine bZ rfl (jk (j:=0) u46 gF rfl rfl rfl hip (ye ?_));exact yn (((i.natAbs%10:Nat):Int)==1) ⟨rfl,rfl,rfl,rfl,rfl,trivial⟩ ⟨M7.step E G5,(by exact ay),by rw[Nat.mod_eq_of_lt h,beq_iff_eq];omega⟩
  ·
   have h1:((ah i).length:Int)≠1:=by have:=Xr (j:=i) om;omega
   refine yu 28 rfl (by rw[beq_eq_false_iff_ne.2 h1]<;>rfl) (zp ?_);exact yn false ⟨rfl,rfl,rfl,rfl,rfl,trivial⟩ ⟨M7.step E G5,(by exact ay),⟨fun e=>absurd e de,fun e=>om⟩⟩
 ·
  have wH:=(zc ay.lt);rintro u w8 ⟨M7,ay,hu⟩;replace E:=E.trans M7;replace HF:=HF.on E;replace LW:=LW.step E ak;replace E:=aC (aj [(some aJ)]) w8;clear wH;by_cases h1:i.natAbs=1
  ·
   have ht:ah (i^j.toNat)=ah i:=by rw[qa,qa,qgx,h1,Nat.one_pow]
   have hsm:(i^j.toNat).natAbs<av^30:=by rw[qgx,h1,Nat.one_pow];exact Nat.one_lt_pow de (by unfold av;omega)
   refine qm 34 rfl (by rw[hu.2 h1]<;>rfl) ?_;by_cases hn:i<0
   ·
    have hv:decide (i^j.toNat<0)=decide (j.toNat%2=1):=by
     rw[yzk h1,decide_eq_true hn,Bool.true_and];cases decide (j.toNat%2=1)<;>rfl
    refine zi ?_;have OY:∀q9,(aj (kf [⟨13,aJ,48,#[.bool false,.slice none 0 0]⟩])) q9→q9<(World.drew w8).heap.size→(aj [(some aJ)]) q9:=fun k h _=>((aj.grow aj.none_ aj.head)) k h;refine yq (aj [(some aJ)]) (aj.grow aj.none_ (zc ay.lt)) [] [⟨13,aJ,48,#[.bool false,.slice none 0 0]⟩] (xc [Fx.of (.pointer (some ⟨aO,0,none⟩)),
     Fx.of (.bool true),
     Fx.of (.bool true),
     Fx.of (.pointer (some ⟨bM,1,none⟩)),
     Fx.of (.slice (some ⟨by_,oy,none⟩) (ah j).length d),
     Fx.of (.pointer (some ⟨by_,oy+0,none⟩)),
     Fx.of (.int .u8 ((j.natAbs%10:Nat):Int)),
     Fx.of (.int .u8 (((j.natAbs%10:Nat):Int).tmod 2)),
     Fx.of (.bool (decide (j.toNat%2=1))),
     Fx.of (.bool (decide (j.toNat%2=1))),
     Fx.of (.pointer (some ⟨aO,1,none⟩)),
     Fx.of (.slice (some ⟨bx,ox,none⟩) (ah i).length c),
     Fx.of (.agg #[.bool (decide (j.toNat%2=1)),.slice (some ⟨bx,ox,none⟩) (ah i).length c]),
     Fx.of undef,
     Fx.of (.int .i64 0)]) mixed rfl ⟨⟨aj.head _ rfl,ay,fun _ h=>by cases h⟩,trivial⟩ (by intro o ho;simp at ho;rcases ho with rfl<;>simp) ?_ ?_
    · refine ⟨arm,?_,arm,arm,arm,?_,arm,?_,?_,arm,arm,arm,?_,?_,arm,trivial⟩
      · refine yx ?_;intro vs X wq K;have LE:=K.1;exact yd u4 rfl rfl (HF.on (E.drew.trans (LE.mono OY))).here.1.2 rfl ⟨Below.refl _ _,Left.of ((by rw[decide_eq_true hn]:(.bool (decide (i<0)):Value)=_))⟩
      · refine yx ?_;intro vs X wq K;exact xt rfl (jk (j:=0) u46 gF rfl rfl rfl hjp ⟨Below.refl _ _,Left.of rfl⟩)
      · exact Ul
      · refine yx ?_;intro vs X wq K;exact xt rfl (Fw rfl rfl ⟨Below.refl _ _,Left.of ((by rw[aiq h0]:(.bool ((((j.natAbs%10:Nat):Int).tmod 2)==1):Value)=_))⟩)
      · refine yx ?_;intro vs X wq K;exact qz (cs:=#[.bool (decide (j.toNat%2=1)),.slice (some ⟨bx,ox,none⟩) (ah i).length c]) zQ yL rfl rfl ⟨Below.refl _ _,Left.of rfl⟩
      · refine ⟨_,_,_,_,_,rfl,rfl,qK,fun vs X wq K=>⟨rfl,?_⟩⟩;exact Xp
    intro vs w9 LE AO AL AF AA;have dx:=ay;replace E:=E.drew.trans (LE.mono OY);obtain ⟨_,e12,k12⟩:=AL.2.2.2.2.2.2.2.2.2.2.2.2.1;obtain ⟨_,e14,k14⟩:=AL.2.2.2.2.2.2.2.2.2.2.2.2.2.2.1;obtain ⟨v0,y0,Bx,ey,dR⟩:=AO.1;cases ey
    obtain rfl:vs 12=v0:=Option.some.inj dR;rw[e12] at Bx;replace ay:aB w9 aJ 48 #[.bool (decide (j.toNat%2=1)),.slice (some ⟨bx,ox,none⟩) (ah i).length c]:=Bx;exact as7
   ·
    have hv:decide (i^j.toNat<0)=false:=by rw[yzk h1,decide_eq_false hn];rfl
    refine zi ?_;have OY:∀q9,(aj (kf [⟨13,aJ,48,#[.bool false,.slice none 0 0]⟩])) q9→q9<(World.drew w8).heap.size→(aj [(some aJ)]) q9:=fun k h _=>((aj.grow aj.none_ aj.head)) k h;refine yq (aj [(some aJ)]) (aj.grow aj.none_ (zc ay.lt)) [] [⟨13,aJ,48,#[.bool false,.slice none 0 0]⟩] (xc [Fx.of (.pointer (some ⟨aO,0,none⟩)),
     Fx.of (.bool false),
     Fx.of (.bool false),
     Fx.of undef,
     Fx.of undef,
     Fx.of undef,
     Fx.of undef,
     Fx.of undef,
     Fx.of undef,
     Fx.of (.bool false),
     Fx.of (.pointer (some ⟨aO,1,none⟩)),
     Fx.of (.slice (some ⟨bx,ox,none⟩) (ah i).length c),
     Fx.of (.agg #[.bool false,.slice (some ⟨bx,ox,none⟩) (ah i).length c]),
     Fx.of undef,
     Fx.of (.int .i64 0)]) mixed rfl ⟨⟨aj.head _ rfl,ay,fun _ h=>by cases h⟩,trivial⟩ (by intro o ho;simp at ho;rcases ho with rfl<;>simp) ?_ ?_
    · refine ⟨arm,?_,arm,arm,arm,arm,arm,arm,arm,arm,arm,arm,?_,?_,arm,trivial⟩
      · refine yx ?_;intro vs X wq K;have LE:=K.1;exact yd u4 rfl rfl (HF.on (E.drew.trans (LE.mono OY))).here.1.2 rfl ⟨Below.refl _ _,Left.of ((by rw[decide_eq_false hn]:(.bool (decide (i<0)):Value)=_))⟩
      · refine yx ?_;intro vs X wq K;exact qz (cs:=#[.bool false,.slice (some ⟨bx,ox,none⟩) (ah i).length c]) zQ yL rfl rfl ⟨Below.refl _ _,Left.of rfl⟩
      · refine ⟨_,_,_,_,_,rfl,rfl,qK,fun vs X wq K=>⟨rfl,?_⟩⟩;exact Xp
    intro vs dI LE AO AL AF AA;have dx:=ay;replace E:=E.drew.trans (LE.mono OY);obtain ⟨_,e12,k12⟩:=AL.2.2.2.2.2.2.2.2.2.2.2.2.1;obtain ⟨_,e14,k14⟩:=AL.2.2.2.2.2.2.2.2.2.2.2.2.2.2.1;obtain ⟨v0,y0,Bx,ey,dR⟩:=AO.1;cases ey
    obtain rfl:vs 12=v0:=Option.some.inj dR;rw[e12] at Bx;replace ay:aB dI aJ 48 #[.bool false,.slice (some ⟨bx,ox,none⟩) (ah i).length c]:=Bx;exact as7
  ·
   have h2i:2≤i.natAbs:=om;refine zw 34 rfl (by rw[Bool.eq_false_iff.2 (fun e=>h1 (hu.1 e))]<;>rfl) (zo ?_);refine zh aI0 (mY _ d j _ (HF.on E).here.1.1.1.1.2 (by have:=zrk hj;omega)) E ay fun dV E ay=>(ja ?_);by_cases hin:eU j
   ·
    refine yu 55 rfl (by rw[decide_eq_true hin];rfl) (zn ?_);by_cases hj2:1800<j
    ·
     have e1:=qfv h2i (n:=j.toNat) om;have hs:(1800:Int)<Zx j:=by unfold Zx;rw[if_pos hin];omega
     refine qm 58 rfl (by rw[decide_eq_true hs]<;>rfl) (zr ?_);refine mZ ?_;intro dB Bx dw;exact Xn
    ·
     have hsm:Zx j=j:=by unfold Zx;rw[if_pos hin]
     refine zw 58 rfl (by rw[hsm,decide_eq_false om]<;>rfl) (zn ?_);refine za rfl (zgq (cs:=#[.int .u8 1]) u46 gF zr5 de rfl (by rw[yaz];rfl) ?_);intro Ct cZ baj aS3 aix;have K8:Apart (some Ct) (some aJ):=Apart.of_lt (zc ay.lt) aix;have aU4:=K8.symm;replace ay:=ay.aG aS3 au.nil;have aS4:=Nat.le_trans LW.size (Nat.le_trans E.size aix);obtain ⟨aix,HF,E,ak⟩:=gI HF LW E ak aS3 aix;obtain ⟨HF,LW,ak,E⟩:=d9 HF LW E ak (Y:=aj [(some aJ)]) (aj.skip (aj.keep aj.bI)) (Per.bH baj (au.cons K8 au.nil));refine za rfl (qz (cs:=#[.bool false,.slice (some ⟨Ct,0,none⟩) 1 1]) zQ yL rfl rfl (za rfl (kt yL ?_)));intro eH w16 dF Ei aD0;have xY:Apart (some eH) (some aJ):=Apart.of_lt (zc ay.lt) aD0;have xZ:=xY.symm;replace ay:=ay.aG Ei au.nil;obtain ⟨aD0,HF,E,ak⟩:=gI HF LW E ak Ei aD0;refine yj (qy qK rfl rfl dF rfl rfl (Nat.le_of_ble_eq_true rfl) ?_);intro fI Bx Ei;replace dF:=Bx;replace ay:=ay.aG Ei (au.cons xZ au.nil);replace E:=E.step1 Ei aj.head;refine qc ?_;have b1:(i^0).natAbs<av^30:=by rw[Int.pow_zero];exact Nat.one_lt_pow de (by unfold av;omega)
     have t1:ah (i^0)= [1]:=by rw[Int.pow_zero,qa];rfl
     have B9:=(HF.on E).here.2;have GG8:w.heap.size≤Ct:=aS4;have bb4:∀q,some (⟨Ct,0,none⟩:Addr)=some q→ ¬aj [(some eH),(some aJ)] q.block:=by
      intro q hq;obtain rfl:=Option.some.inj hq;exact fun h=>h.elim (fun e=>aB.ne_ B9 dF de (Option.some.inj e)) (fun h=>h.elim (fun e=>aB.ne_ B9 ay de (Option.some.inj e)) id)
     have e0:i^0=1:=Int.pow_zero i;replace dF:aB fI eH 48 #[.bool (decide (i^0<0)),.slice (some ⟨Ct,0,none⟩) (ah (i^0)).length 1]:=by rw[t1,e0];exact dF
     replace HF:=HF.on E;replace LW:=LW.step E ak;replace E:=aC (aj [(some eH),(some aJ)]) fI;refine qw (ι:=Nat×Option Addr×Nat) (fun (k,A1,c1)=>[(2,.pointer (some ⟨aO,0,none⟩)),(4,.pointer (some ⟨aJ,0,none⟩)),(6,.int .i64 (Zx j)),(8,.pointer (some ⟨eH,0,none⟩)),(9,.int .i64 ((k:Nat):Int))]) (fun (k,A1,c1) w'=>Ext (aj [(some eH),(some aJ)]) fI w'∧aB w' eH 48 (#[.bool (decide (i^k<0)),.slice A1 (ah (i^k)).length c1])∧aB w' aJ 48 (#[.bool false,.slice none 0 0])∧(k≤j.toNat∧(i^k).natAbs<av^30∧aH w' A1 (ah (i^k))∧(∀q,A1=some q→ ¬aj [(some eH),(some aJ)] q.block)∧(∀q,A1=some q→w.heap.size≤q.block))) (fun (k,A1,c1)=>j.toNat-k) (0,some ⟨Ct,0,none⟩,1) ⟨rfl,rfl,rfl,rfl,rfl,trivial⟩ ⟨Ext.refl _ _,(by exact dF),(by exact ay),⟨Nat.zero_le _,b1,(by rw[t1];exact tO B9),bb4,fun q hq=>by obtain rfl:=Option.some.inj hq;exact GG8⟩⟩ ?_;have aS5:=(zc dF.lt);have wH:=(zc ay.lt);rintro ⟨k,A1,c1⟩ fC ⟨eP,dF,ay,⟨hk,hb1,ayq,hna,bb5⟩⟩;have dK:oK (aj [(some eH),(some aJ)]) (aj [(some eH),(some aJ)]) fI:=(aj.grow (aj.grow aj.none_ (fun k e=>Or.inl ((aj.tail aj.head) k e))) (fun k e=>Or.inl (aj.head k e)));replace E:=E.trans eP;replace HF:=HF.on E;replace LW:=LW.step E ak;replace E:=aC (aj [(some eH),(some aJ)]) fC;clear aS5;clear wH;replace HF:=HF.on E;replace LW:=LW.step E ak;replace eP:=eP.step E dK;replace E:=aC (aj [(some eH),(some aJ)]) fC;replace HF:=HF.and (Per.wF ayq hna);refine yk ?_;refine zf rfl (fun hlt=>?_) (fun hlt=>?_)
     ·
      have hlt:=of_decide_eq_true hlt;rw[hsm] at hlt;refine yk ?_;refine za rfl (ze aHz rfl ((mV A1 _ c1 c (i^k) i _ (HF.on E).here.2 (HF.on E).here.1.1.1.1.1.1.1.2 (by have:=zrk hb1;omega) om).mono ?_));rintro e wL ⟨A3,c3,rfl,o3,hb⟩;refine ⟨_,rfl,?_⟩;have XC:∀q9,(aj [(some eH),(some aJ)]) q9→q9<fC.heap.size:=(aj.grow (aj.grow aj.none_ (zc ay.lt)) (zc dF.lt));have SC:=Nat.le_trans LW.size E.size;have Ec:=Ext.of_below hb No;replace dF:=dF.aG Ec au.nil;replace ay:=ay.aG Ec au.nil;replace E:=E.trans Ec.no;have XN3:=XC;have bb6:∀q,A3=some q→w.heap.size≤q.block:=fun q hq=>Nat.le_trans SC (o3.ge q hq).1;have bb7:∀q,A3=some q→ ¬aj [(some eH),(some aJ)] q.block:=fun q hq e=>by have h1:=XN3 _ e;have h2:=(o3.ge q hq).1;omega
      replace HF:=HF.on E;replace LW:=LW.step E ak;replace eP:=eP.step E dK;replace E:=aC (aj [(some eH),(some aJ)]) wL;replace HF:=HF.and (Per.eO o3 XC);refine yj (qy qK rfl rfl dF rfl rfl (Nat.le_of_ble_eq_true rfl) ?_);intro wW Bx Ei;replace dF:=Bx;replace ay:=ay.aG Ei (au.cons xZ au.nil);replace E:=E.step1 Ei aj.head;refine zn ?_;refine RB Rp (vhv A3 c3 (i^k*i) _) E dF ay fun NP E dF ay=>(zr ?_);refine zf rfl (fun q=>?_) (fun q=>?_)
      ·
       have e0:¬(ah (i^k*i)).length≤540:=by simpa using q
       rw[yix] at e0;have e1:av^30≤(i^j.toNat).natAbs:=by
        exact Uj
       refine zi ?_;refine mZ ?_;intro wN Bx dw;replace ay:=Bx;replace dF:=dF.aG dw (au.cons xY au.nil);replace E:=E.step1 dw (aj.tail aj.head);refine zv ?_;exact Xo
      ·
       have e0:(ah (i^k*i)).length≤540:=by simpa using q
       rw[yix] at e0;have eV:i^k*i=i^(k+1):=by rw[Int.pow_succ]
       refine jl ?_;rw[eV] at dF;exact zx (k+1,A3,c3) (by show j.toNat-(k+1)<j.toNat-k;omega) ⟨rfl,rfl,rfl,rfl,rfl,trivial⟩ ⟨eP.step E dK,(by exact dF),(by exact ay),om,by rw[←eV];exact e0,by rw[←eV];exact (HF.on E).here.2,bb7,bb6⟩
     ·
      have hge:=of_decide_eq_false hlt;rw[hsm] at hge;obtain rfl:k=j.toNat:=om;refine yk ?_;refine yj (qy qK rfl rfl ay rfl rfl (Nat.le_of_ble_eq_true rfl) ?_);intro w24 Bx dw;replace ay:=Bx;replace dF:=dF.aG dw (au.cons xY au.nil);replace E:=E.step1 dw (aj.tail aj.head);obtain ⟨HF,LW,ak,E⟩:=d9 HF LW E ak (Y:=aj [(some eH)]) (aj.keep (aj.skip aj.bI)) (Per.bH ay (au.cons xZ au.nil));refine zn ?_;exact ⟨A1,c1,by rw[xa hb1,xh hb1];rfl,by rw[xa hb1];exact (HF.on E).here.1.2,Or.inl bb5,aP LW E ak⟩
   ·
    have e1:=qfv h2i (n:=j.toNat) (by unfold eU at hin;omega);refine vf 55 rfl (by rw[decide_eq_false hin];rfl) (yk ?_);refine mZ ?_;intro Hr Bx dw;exact Xn
theorem aS6 (h0:0≤j):Calls prog 76 #[.agg #[.bool (decide (i<0)),.slice A (ah i).length c],.agg #[.bool (decide (j<0)),.slice B (ah j).length d]] w (qkq w A (ah i) (bE true (i^j.toNat)) (bg true (i^j.toNat))):=by
 have hsmall:∀z:Int,z.natAbs≤1→z.natAbs<av^30:=fun z hz=>Nat.lt_of_le_of_lt hz (Nat.one_lt_pow de (by unfold av;omega));rcases Int.le_iff_lt_or_eq.1 h0 with hp | rfl
 · by_cases hi0:i=0
   · have e:i^j.toNat=0:=by rw[hi0];exact Int.zero_pow om
     rw[e,xa (hsmall 0 de),xh (hsmall 0 de)];exact Eh i j A B c d w hi hj hx hy hp hi0
   · exact aiz i j A B c d w hi hj hx hy hp hi0
 · have e:i^(0:Int).toNat=1:=Int.pow_zero i;rw[e,xa (hsmall 1 de),xh (hsmall 1 de)];exact Pf i 0 A B c d w hi hj hx hy rfl
end
def as8 (b:UInt8):Bool:=decide (48≤b.toNat)&&decide (b.toNat≤57)
def dv (b:UInt8):Nat:=b.toNat-48
def Xv (r:List UInt8):Nat:=val 10 (r.reverse.map dv)
def aS7 (neg:Bool) (r:List UInt8):Int:=if r≠ []∧r.all as8=true∧Xv r<av^30 then bJ neg (Xv r) else 0
def aS8 (r:List UInt8):Int:=if r≠ []∧r.all as8=true then (if Xv r<av^30 then 0 else 2) else 4
def aS9 (bs:List UInt8):Bool:=decide (bs.head? =some 45)
def as9 (bs:List UInt8):List UInt8:=if bs.head? =some 45 then bs.tail else bs
def dvals (l:List UInt8):List Value:=l.map fun b=>.int .u8 ((b.toNat:Int)-48)
def aU5 (W:World) (v f:Int) (e:Ending) (w':World):Prop:=∃A c,e= .returned (.tuple #[.agg #[.bool (decide (v<0)),.slice A (ah v).length c],.int .i64 f])∧aM w' W.heap.size A c (ah v)∧Below W.heap.size W w'
section
variable (s:ByteArray) (r:List UInt8) (w:World)
end
section
variable (s:ByteArray) (w:World)
end
end
end Go.Proofs.YtmnmebdmpigddaaGreatDoor

/- Texts of this claim. -/
import Derived.Test.YtmnmebdmpigddaaGreatDoorT17
set_option maxRecDepth 100000
set_option maxHeartbeats 20000000
namespace Go.Proofs.YtmnmebdmpigddaaGreatDoor
open Go.RowKit Proofs.Tryz
theorem Du {P Q:Prop} (k:Q) (h:(Unit→Q)→P:=by
 intro zK;refine zx ?_;refine nu ?_;refine za rfl (vc (j:=x.w-1) gF iL rfl rfl om om ?_);exact zK ()):P:=h fun _=>k
theorem ny {P Q:Prop} (k:Q) (h:(Unit→Q)→P:=by
 intro zK;refine zp ?_;refine zq 6 (.int .i64 ((x.w-1:Nat):Int)) rfl ((by congr 1;omega:(.int .i64 ((x.w:Int)-1):Value)=_)) ?_;exact zK ()):P:=h fun _=>k
theorem qfq {P Q:Prop} (k:Q) (h:(Unit→Q)→P:=by
 intro zK;refine zx ?_;refine zk (qr Ri rfl rfl Ba rfl rfl (yK hlx (by decide:803<804)) (Ip hlx true) ?_);exact zK ()):P:=h fun _=>k
theorem nA {P Q:Prop} (k:Q) (h:(Unit→Q)→P:=by
 intro zK;refine zz ?_;refine yl ?_;refine zm ?_;refine zq 6 (.int .i64 ((x.w-1:Nat):Int)) rfl ((by congr 1;omega:(.int .i64 ((x.w:Int)-1):Value)=_)) (zq 5 (.int .i64 (((x.r-1:Nat):Int)-1)) rfl ((by congr 1;omega:(.int .i64 (((x.r:Int)-1)-1):Value)=_)) ?_);exact zK ()):P:=h fun _=>k
theorem VY {P:Prop} (h:P:=by
 exact zt () ⟨rfl,rfl,trivial⟩ ⟨nD.step E cZ,(by exact Ba),trivial⟩):P:=h
theorem VZ {P:Prop} (h:P:=by
 exact zt () ⟨rfl,rfl,rfl,trivial⟩ ⟨M4.step E He,(by exact Ba),trivial⟩):P:=h
theorem V3 {P:Prop} (h:P:=by
 rcases Nat.decEq R 0 with h | h
 · rw[bne_iff_ne.2 om] at h3;cases h3
 · exact h):P:=h
attribute [local irreducible] OW RS CW EW
theorem Dv {k:Nat} (h:yH k):(lcB k).size=(sV k).length:=by
 rw[←(wZ h).2.1,List.length_map];show (Go.Pinned.cheatRows.getD k (0,[])).2.toArray.size=_
 rw[List.size_toArray]
theorem ax0 {k:Nat} (h:yH k) (i:Nat) (hi:i<(sV k).length):(sV k)[i]? =some (aJ (lcB k) i):=by
 rw[←Dv h] at hi;rw[←qh hi,←(wZ h).2.1,List.getElem?_map];show _=((Go.Pinned.cheatRows.getD k (0,[])).2.toArray[i]?).map _
 rw[List.getElem?_toArray]
theorem aJq {c k C:Nat} (hc:c≤9) (hk:k≤60) (hC:C=c*2^k):IntKind.u64.wrap (((c:Nat):Int)*2^(min ((k:Nat):Int).toNat IntKind.u64.bits))=((C:Nat):Int):=by
 rw[hC,ZQ c k om];have h1:2^k≤2^60:=Nat.pow_le_pow_right de hk;have h2:(2:Nat)^60=1152921504606846976:=de;have h3:c*2^k≤9*2^k:=Nat.mul_le_mul_right _ hc;rw[Nat.mod_eq_of_lt om]
theorem am1 (n D:Nat) (h:n<18446744073709551616) (hD:D=n/10):IntKind.u64.wrap (((n:Nat):Int).tdiv 10)=((D:Nat):Int):=by
 rw[hD,Int.tdiv_eq_ediv_of_nonneg om];exact wrap_u64 om
theorem V4 {d:List Nat} {w x:Nat} (h:w<800):sW d w x=d.set w (x+48):=by unfold sW;rw[if_pos h]
theorem vek {d:List Nat} {w x:Nat} (h:¬w<800):sW d w x=d:=by unfold sW;rw[if_neg h]
theorem am2 {b:Bool} {w x:Nat} (h:w<800):qF b w x=b:=by unfold qF;rw[if_pos h]
theorem V5 {b:Bool} {w x:Nat} (h:¬w<800) (hx:x≠0):qF b w x=true:=by unfold qF;rw[if_neg h,if_pos hx]
theorem V6 {b:Bool} {w x:Nat} (hx:x=0):qF b w x=b:=by
 unfold qF;split
 · rfl
 · rw[if_neg (fun h=>h hx)]
section
variable (w:World) {bp op cp bf of cf bl ol cl:Nat}
theorem V7 (ga k:Nat) (t:Dec) (hk:yH k) (ht:aZ t) (h0:0<t.nd) (hdp:-20000000≤t.dp∧t.dp≤20000000) (hB:aB w ga 229 (yj t)) (hT:dB bp op cp bf of cf bl ol cl w) (hg:iI bp bf bl ga) :
 Calls prog 270 #[.pointer (some ⟨ga,0,none⟩),.int .u64 ((k:Nat):Int)] w fun e w'=>e= .returned (.tuple #[])∧aB w' ga 229 (yj (vk t k))∧Ext (aj [some ga]) w w':=by
 have hl:=ht.len;have hnd:=ht.hn;have hS:=wX hk;have ad9:=hS.k1;have aJz:=(wZ hk).2.2;have aIj:=hS.d1;obtain ⟨hdl,_⟩:=qoq ht h0 hk;obtain ⟨L,hL⟩:∃L,L=qe t k:=⟨_,rfl⟩;rw[←hL] at hdl;refine zc func270 rfl ntmps270 rfl ?_;have Ba:=hB;have HF:Per (aj [(some ga)]) w (fun _=>True):=Per.yN;have LW:=aD (aj [(some ga)]) w;have ak:=aS (aj [(some ga)]) w;have E:=aD (aj [(some ga)]) w;obtain ⟨HF,LW,E⟩:=cO HF LW E ak (Per.K9 hT hg (fun q h=>h.elim (fun e=>Nat.le_of_eq (Option.some.inj e).symm) (fun e=>e.elim)));refine zm ?_;refine za rfl (vq FR rfl rfl (HF.on E).here.2.gQ.head (aN ?_));refine za rfl (jy (j:=k) FR ah6 rfl rfl rfl aJz (aN ?_));refine za rfl (vq underlying3 rfl rfl ((HF.on E).here.2.gQ.delta k hk) (zu ?_));replace HF:=HF.on E;replace LW:=LW.step E ak;replace E:=aD (aj [(some ga)]) w;refine yh (ι:=Unit) (fun _=>[(0,.pointer (some ⟨ga,0,none⟩)),(1,.int .u64 ((k:Nat):Int)),(4,.int .i64 ((pz k:Nat):Int)),(30,.bool (jd (t.d.take t.nd) (sV k)))]) (fun _ w'=>Ext (aj [(some ga)]) w w'∧aB w' ga 229 (yj t)∧(True)) ?_ ?_
 ·
  have M1:=aD (aj [(some ga)]) w;have dz:=aS (aj [(some ga)]) w;have OY:∀q9,(aj (oa [])) q9→q9<(World.drew w).heap.size→(aj [(some ga)]) q9:=fun k h _=>(aj.none_) k h;refine qm (aj [(some ga)]) (aj.grow aj.none_ (ze Ba.lt)) [] [] (fQ [Fx.of (.pointer (some ⟨ga,0,none⟩)),
   Fx.of (.pointer (some ⟨ga,0,none⟩)),
   Fx.of (.pointer (some ⟨ga,0,none⟩)),
   Fx.of (.pointer (some ⟨ga,0,none⟩)),
   Fx.of (.pointer (some ⟨ga,0,none⟩)),
   Fx.of (.pointer (some ⟨ga,800,none⟩)),
   Fx.of (.int .i64 (t.nd:Int)),
   Fx.of (.slice (some ⟨ga,0,none⟩) t.nd 800),
   Fx.of (.slice (some ⟨bl,ol,none⟩) 61 cl),
   Fx.of (.int .u64 ((k:Nat):Int)),
   Fx.of (.pointer (some ⟨bl,ol+k*2,none⟩)),
   Fx.of (.pointer (some ⟨bl,ol+k*2+1,none⟩)),
   Fx.of (.string (lcB k)),
   Fx.of (.bool (jd (t.d.take t.nd) (sV k)))]) mixed rfl trivial (fun _ h=>by cases h) ?_ ?_
  · refine ⟨arm,arm,arm,arm,arm,arm,?_,?_,?_,arm,?_,arm,?_,?_,trivial⟩
    · refine qq ?_;intro vs X wq K;have LE:=K.1;exact ye underlying3 rfl rfl (Ba.drew.ay LE ah.nil) (yJ hl t.nd rfl) ⟨Below.refl _ _,Left.of rfl⟩
    · refine qq ?_;intro vs X wq K;exact FM (h:=t.nd) gF iL rfl rfl rfl rfl hnd ⟨Below.refl _ _,Left.of rfl⟩
    · intro vs X wq K;have LE:=K.1;exact vq FR rfl rfl (HF.on (E.drew.trans (LE.mono OY))).here.2.gQ.head ⟨Below.refl _ _,Left.of rfl⟩
    · refine qq ?_;intro vs X wq K;exact jy (j:=k) FR ah6 rfl rfl rfl aJz ⟨Below.refl _ _,Left.of rfl⟩
    · refine qq ?_;intro vs X wq K;have LE:=K.1;exact vq u9 rfl rfl ((HF.on (E.drew.trans (LE.mono OY))).here.2.gQ.cut k hk) ⟨Below.refl _ _,Left.of rfl⟩
    · refine qq ?_;intro vs X wq K;have LE:=K.1;refine zb aD7 rfl ((IK _ ga t t.nd (lcB k) (sV k) hl hnd (Dv hk) (ax0 hk) (Ba.drew.ay LE ah.nil)).mono ?_);exact Qg
  intro vs w3 LE AO AL AF AA;have fP:=Ba;replace Ba:=Ba.drew.ay LE ah.nil;replace E:=E.drew.trans (LE.mono OY);obtain ⟨_,e13,k13⟩:=AL.2.2.2.2.2.2.2.2.2.2.2.2.2.1;refine ja (τ:=[(0,_),(1,_),(4,_),(30,.bool (jd (t.d.take t.nd) (sV k)))]) ⟨rfl,rfl,rfl,congrArg some e13,trivial⟩ ?_;clear AL AF AA LE AO OY e13 k13 fP;exact zt () ⟨rfl,rfl,rfl,rfl,trivial⟩ ⟨M1.step E dz,(by exact Ba),trivial⟩
 ·
  have eB:=(ze Ba.lt);clear Ba;rintro _ w2 ⟨M1,Ba,_⟩;replace E:=E.trans M1;replace LW:=LW.step E ak;replace E:=aD (aj [(some ga)]) w2;replace LW:=LW.step E ak;replace E:=aD (aj [(some ga)]) w2;refine yh (ι:=Unit) (fun _=>[(0,.pointer (some ⟨ga,0,none⟩)),(1,.int .u64 ((k:Nat):Int)),(4,.int .i64 ((L:Nat):Int))]) (fun _ w'=>Ext (aj [(some ga)]) w2 w'∧aB w' ga 229 (yj t)∧(True)) ?_ ?_
  ·
   have M4:=aD (aj [(some ga)]) w2;have He:=aS (aj [(some ga)]) w2;refine zg rfl (fun hb=>?_) (fun hb=>?_)
   ·
    have e:L=pz k-1:=by rw[hL];unfold qe;rw[if_pos hb]
    refine zm ?_;refine yl ?_;refine zm ?_;refine zq 4 (.int .i64 ((L:Nat):Int)) rfl ((by congr 1;omega:(.int .i64 (((pz k:Nat):Int)-1):Value)=_)) ?_;exact VZ
   ·
    have e:L=pz k:=by rw[hL];unfold qe;rw[if_neg (by rw[hb];decide)]
    refine aN ?_;refine zq 4 (.int .i64 ((L:Nat):Int)) rfl ((by rw[e]:(.int .i64 ((pz k:Nat):Int):Value)=_)) ?_;exact VZ
  ·
   have eB:=(ze Ba.lt);clear Ba;rintro _ w5 ⟨M4,Ba,_⟩;replace E:=E.trans M4;replace LW:=LW.step E ak;replace E:=aD (aj [(some ga)]) w5;refine zu ?_;refine mY ?_;refine yi ?_;refine mY ?_;refine aN ?_;refine yo ?_;refine vp ?_;refine yl ?_;refine zn ?_;replace LW:=LW.step E ak;replace E:=aD (aj [(some ga)]) w5;refine yh (ι:=CU) (fun x=>[(0,.pointer (some ⟨ga,0,none⟩)),(4,.int .i64 ((L:Nat):Int)),(6,.int .i64 (x.w:Int)),(7,.int .u64 (x.n:Int))]) (fun x w'=>Ext (aj [(some ga)]) w5 w'∧aB w' ga 229 (yj { t with d:=x.d,tr:=x.tr })∧(x=lsA t k)) ?_ ?_
   ·
    have M6:=aD (aj [(some ga)]) w5;have mW:=aS (aj [(some ga)]) w5;refine aN ?_;replace M6:=M6.step E mW;replace E:=aD (aj [(some ga)]) w5;refine yw (ι:=CU) (fun x=>[(0,.pointer (some ⟨ga,0,none⟩)),(1,.int .u64 ((k:Nat):Int)),(4,.int .i64 ((L:Nat):Int)),(5,.int .i64 ((x.r:Int)-1)),(6,.int .i64 (x.w:Int)),(7,.int .u64 (x.n:Int))]) (fun x w'=>Ext (aj [(some ga)]) w5 w'∧aB w' ga 229 (yj { t with d:=x.d,tr:=x.tr })∧(OJ t k x∧qk ytk (vgq k) x=lsA t k)) (fun x=>x.r) (⟨t.d,t.nd,t.nd+L,0,t.tr⟩) ⟨rfl,rfl,rfl,rfl,rfl,rfl,trivial⟩ ⟨Ext.refl _ _,(by exact Ba),by rw[hL];exact tq ht,by rw[hL];rfl⟩ ?_;have eB:=(ze Ba.lt);clear Ba;rintro x w9 ⟨M8,Ba,⟨hI,hu⟩⟩;have lJ:eD (aj [(some ga)]) (aj [(some ga)]) w5:=(aj.grow aj.none_ (fun k e=>Or.inl (aj.head k e)));replace E:=E.trans M8;replace M6:=M6.step E mW;replace E:=aD (aj [(some ga)]) w9;have hlx:({ t with d:=x.d,tr:=x.tr }:Dec).d.length=800:=hI.len;have hxw:=hI.hw;rw[←hL] at hxw;have Zm:=hI.hr;refine zp ?_;refine zg rfl (fun h1=>?_) (fun h1=>?_)
    ·
     have h1:0<x.r:=by have h1:=of_decide_eq_true h1;omega
     have hdone:ytk x=false:=decide_eq_false om;obtain ⟨hkeep,_,hN⟩:=sZ ht hI hdone;have aR7:=tO hN ad9.2;have hdg:=ht.bR (x.r-1) om;rw[←hI.old (x.r-1) om] at hdg;obtain ⟨C,hC⟩:∃C,C=(dg x.d (x.r-1)-48)*2^k:=⟨_,rfl⟩;obtain ⟨V,hV⟩:∃V,V=Qk k x:=⟨_,rfl⟩;have hVC:V=x.n+C:=by rw[hV,hC];rfl
     rw[←hV] at aR7;obtain ⟨D,hD⟩:∃D,D=V/10:=⟨_,rfl⟩;obtain ⟨R,hR⟩:∃R,R=V%10:=⟨_,rfl⟩;have hst:vgq k x= ⟨sW x.d (x.w-1) R,x.r-1,x.w-1,D,qF x.tr (x.w-1) R⟩:=by rw[hR,hD,hV];rfl
     rw[qp hdone] at hu;rw[hst] at hkeep hu;refine yu ?_;refine za rfl (vc (j:=x.r-1) gF iL rfl rfl om om (za rfl (ye u5 rfl rfl Ba (dAt hlx (dg x.d (x.r-1)) (x.r-1) rfl om) (mZ ?_))));refine zjv ?_;refine aN ?_;refine zf 57 (.int .u64 ((dg x.d (x.r-1)-48:Nat):Int)) rfl (by congr 1;omega) (za rfl (gq rfl rfl om (aJq om ad9.2 hC) (kl ?_)));refine zl ?_;refine zf 61 (.int .u64 ((V:Nat):Int)) rfl (by congr 1;omega) (za rfl (qaq rfl rfl de (am1 V D om hD) (zp ?_)));refine ZR ?_;refine zjv ?_;refine zl ?_;refine yl ?_;refine zz ?_;refine zd 9 (.int .u64 ((R:Nat):Int)) rfl (by congr 1;omega) (zg rfl (fun h2=>?_) (fun h2=>?_))
     ·
      have h2:x.w-1<800:=by have h2:=of_decide_eq_true h2;omega
      rw[V4 h2,am2 h2] at hu hkeep;refine Du ?_;refine zf 75 (.int .u8 ((R+48:Nat):Int)) rfl (rfl) (ykv ?_);intro dH Bx Ea;replace Ba:aB dH ga 229 (yj { t with d:=x.d.set (x.w-1) (R+48),tr:=x.tr }):=Bx;replace E:=E.step1 Ea aj.head;refine nA ?_;exact zo (⟨x.d.set (x.w-1) (R+48),x.r-1,x.w-1,D,x.tr⟩) (by show x.r-1<x.r;omega) ⟨rfl,rfl,rfl,rfl,rfl,rfl,trivial⟩ ⟨M8.step E lJ,(by exact Ba),hkeep,hu⟩
     ·
      have h2:¬x.w-1<800:=by have h2:=of_decide_eq_false h2;omega
      refine zl ?_;refine zg rfl (fun h3=>?_) (fun h3=>?_)
      ·
       have h3:R≠0:=fun e=>absurd h3 (by rw[e];decide);rw[vek h2,V5 h2 h3] at hu hkeep;refine qfq ?_;intro dQ Bx Ea;replace Ba:aB dQ ga 229 (yj { t with d:=x.d,tr:=true }):=Bx;replace E:=E.step1 Ea aj.head;refine nA ?_;exact zo (⟨x.d,x.r-1,x.w-1,D,true⟩) (by show x.r-1<x.r;omega) ⟨rfl,rfl,rfl,rfl,rfl,rfl,trivial⟩ ⟨M8.step E lJ,(by exact Ba),hkeep,hu⟩
      ·
       have h3:R=0:=by
        exact V3
       rw[vek h2,V6 h3] at hu hkeep;refine nA ?_;exact zo (⟨x.d,x.r-1,x.w-1,D,x.tr⟩) (by show x.r-1<x.r;omega) ⟨rfl,rfl,rfl,rfl,rfl,rfl,trivial⟩ ⟨M8.step E lJ,(by exact Ba),hkeep,hu⟩
    ·
     have h1:x.r=0:=by have h1:=of_decide_eq_false h1;omega
     have hdone:ytk x=true:=decide_eq_true h1;rw[yp hdone] at hu;refine zx ?_;exact zt x ⟨rfl,rfl,rfl,rfl,trivial⟩ ⟨M6.step E mW,(by exact Ba),hu⟩
   ·
    have eB:=(ze Ba.lt);clear Ba;rintro x w7 ⟨M6,Ba,hx⟩;replace E:=E.trans M6;replace LW:=LW.step E ak;replace E:=aD (aj [(some ga)]) w7;refine aN ?_;replace LW:=LW.step E ak;replace E:=aD (aj [(some ga)]) w7;refine yh (ι:=CU) (fun x=>[(0,.pointer (some ⟨ga,0,none⟩)),(4,.int .i64 ((L:Nat):Int))]) (fun x w'=>Ext (aj [(some ga)]) w7 w'∧aB w' ga 229 (yj { t with d:=x.d,tr:=x.tr })∧(x=lsB t k)) ?_ ?_
    ·
     have KY:=aD (aj [(some ga)]) w7;have V8:=aS (aj [(some ga)]) w7;have hS2:=tu ht h0 hk;refine aN ?_;replace KY:=KY.step E V8;replace E:=aD (aj [(some ga)]) w7;refine yw (ι:=CU) (fun x=>[(0,.pointer (some ⟨ga,0,none⟩)),(4,.int .i64 ((L:Nat):Int)),(6,.int .i64 (x.w:Int)),(7,.int .u64 (x.n:Int))]) (fun x w'=>Ext (aj [(some ga)]) w7 w'∧aB w' ga 229 (yj { t with d:=x.d,tr:=x.tr })∧(OL t k x∧qk ytq vgz x=lsB t k)) (fun x=>x.w) x ⟨rfl,rfl,rfl,rfl,trivial⟩ ⟨Ext.refl _ _,(by exact Ba),by rw[hx];exact hS2,by rw[hx];rfl⟩ ?_;have eB:=(ze Ba.lt);clear Ba;rintro x fG ⟨M14,Ba,⟨hI,hu⟩⟩;have ax1:eD (aj [(some ga)]) (aj [(some ga)]) w7:=(aj.grow aj.none_ (fun k e=>Or.inl (aj.head k e)));replace E:=E.trans M14;replace KY:=KY.step E V8;replace E:=aD (aj [(some ga)]) fG;have hlx:({ t with d:=x.d,tr:=x.tr }:Dec).d.length=800:=hI.len;have aVj:=tN hI.small ad9.2;refine zp ?_;refine zg rfl (fun h1=>?_) (fun h1=>?_)
     ·
      have h1:0<x.n:=by have h1:=of_decide_eq_true h1;omega
      have hdone:ytq x=false:=decide_eq_false om;obtain ⟨hkeep,hw1,hw2⟩:=tC ht hk h0 hI hdone;obtain ⟨D,hD⟩:∃D,D=x.n/10:=⟨_,rfl⟩;obtain ⟨R,hR⟩:∃R,R=x.n%10:=⟨_,rfl⟩;have hst:vgz x= ⟨sW x.d (x.w-1) R,x.r,x.w-1,D,qF x.tr (x.w-1) R⟩:=by rw[hR,hD];rfl
      rw[qp hdone] at hu;rw[hst] at hkeep hu;refine zl ?_;refine za rfl (qaq rfl rfl de (am1 x.n D om hD) (zp ?_));refine ZR ?_;refine zjv ?_;refine zl ?_;refine yl ?_;refine zz ?_;refine zd 11 (.int .u64 ((R:Nat):Int)) rfl (by congr 1;omega) (zg rfl (fun h2=>?_) (fun h2=>?_))
      ·
       have h2:x.w-1<800:=by have h2:=of_decide_eq_true h2;omega
       rw[V4 h2,am2 h2] at hu hkeep;refine Du ?_;refine zf 101 (.int .u8 ((R+48:Nat):Int)) rfl (rfl) (ykv ?_);intro w16 Bx Ea;replace Ba:aB w16 ga 229 (yj { t with d:=x.d.set (x.w-1) (R+48),tr:=x.tr }):=Bx;replace E:=E.step1 Ea aj.head;refine ny ?_;exact zo (⟨x.d.set (x.w-1) (R+48),x.r,x.w-1,D,x.tr⟩) (by show x.w-1<x.w;omega) ⟨rfl,rfl,rfl,rfl,trivial⟩ ⟨M14.step E ax1,(by exact Ba),hkeep,hu⟩
      ·
       have h2:¬x.w-1<800:=by have h2:=of_decide_eq_false h2;omega
       refine zl ?_;refine zg rfl (fun h3=>?_) (fun h3=>?_)
       ·
        have h3:R≠0:=fun e=>absurd h3 (by rw[e];decide);rw[vek h2,V5 h2 h3] at hu hkeep;refine qfq ?_;intro vX Bx Ea;replace Ba:aB vX ga 229 (yj { t with d:=x.d,tr:=true }):=Bx;replace E:=E.step1 Ea aj.head;refine ny ?_;exact zo (⟨x.d,x.r,x.w-1,D,true⟩) (by show x.w-1<x.w;omega) ⟨rfl,rfl,rfl,rfl,trivial⟩ ⟨M14.step E ax1,(by exact Ba),hkeep,hu⟩
       ·
        have h3:R=0:=by
         exact V3
        rw[vek h2,V6 h3] at hu hkeep;refine ny ?_;exact zo (⟨x.d,x.r,x.w-1,D,x.tr⟩) (by show x.w-1<x.w;omega) ⟨rfl,rfl,rfl,rfl,trivial⟩ ⟨M14.step E ax1,(by exact Ba),hkeep,hu⟩
     ·
      have h1:x.n=0:=by have h1:=of_decide_eq_false h1;omega
      have hdone:ytq x=true:=decide_eq_true h1;rw[yp hdone] at hu;refine zx ?_;exact zt x ⟨rfl,rfl,trivial⟩ ⟨KY.step E V8,(by exact Ba),hu⟩
    ·
     have eB:=(ze Ba.lt);clear Ba;rintro x yD ⟨KY,Ba,hx⟩;replace E:=E.trans KY;replace LW:=LW.step E ak;replace E:=aD (aj [(some ga)]) yD;obtain ⟨hE,_⟩:=CV ht h0 hk;rw[←hx] at hE;have hlx:({ t with d:=x.d,tr:=x.tr }:Dec).d.length=800:=hE.len;refine zu ?_;refine za rfl (ye underlying3 rfl rfl Ba (yJ hlx (t.nd) rfl) (aN ?_));refine yo ?_;refine zm ?_;refine zf 116 (.int .i64 ((t.nd+L:Nat):Int)) rfl (rfl) (zk (qr J6 rfl rfl Ba rfl rfl (yK hlx (by decide:800<804)) (mD hlx (t.nd+L)) ?_));intro yE Bx Ea;replace Ba:aB yE ga 229 (yj { t with d:=x.d,nd:=t.nd+L,tr:=x.tr }):=Bx;replace E:=E.step1 Ea aj.head;have vL:({ t with d:=x.d,nd:=t.nd+L,tr:=x.tr }:Dec).d.length=800:=hE.len;refine yi ?_;refine za rfl (ye underlying3 rfl rfl Ba (yJ vL (t.nd+L) rfl) (zn ?_));replace LW:=LW.step E ak;replace E:=aD (aj [(some ga)]) yE;refine yh (ι:=Unit) (fun _=>[(0,.pointer (some ⟨ga,0,none⟩)),(4,.int .i64 ((L:Nat):Int))]) (fun _ w'=>Ext (aj [(some ga)]) yE w'∧aB w' ga 229 (yj { t with d:=x.d,nd:=if 800≤t.nd+L then 800 else t.nd+L,tr:=x.tr })∧(True)) ?_ ?_
     ·
      have nD:=aD (aj [(some ga)]) yE;have cZ:=aS (aj [(some ga)]) yE;refine zg rfl (fun h1=>?_) (fun h1=>?_)
      ·
       have h1:800≤t.nd+L:=by have h1:=of_decide_eq_true h1;omega
       refine zx ?_;refine zk (qr J6 rfl rfl Ba rfl rfl (yK vL (by decide:800<804)) (mD vL 800) ?_);intro yF Bx Ea;replace Ba:aB yF ga 229 (yj { t with d:=x.d,nd:=800,tr:=x.tr }):=Bx;replace E:=E.step1 Ea aj.head;refine aN ?_;replace Ba:aB yF ga 229 (yj { t with d:=x.d,nd:=if 800≤t.nd+L then 800 else t.nd+L,tr:=x.tr }):=by rw[if_pos h1];exact Ba
       exact VY
      ·
       have h1:¬800≤t.nd+L:=by have h1:=of_decide_eq_false h1;omega
       refine aN ?_;replace Ba:aB yE ga 229 (yj { t with d:=x.d,nd:=if 800≤t.nd+L then 800 else t.nd+L,tr:=x.tr }):=by rw[if_neg h1];exact Ba
       exact VY
     ·
      have eB:=(ze Ba.lt);clear Ba;rintro _ E9 ⟨nD,Ba,_⟩;replace E:=E.trans nD;replace LW:=LW.step E ak;replace E:=aD (aj [(some ga)]) E9;have hlz:({ t with d:=x.d,nd:=if 800≤t.nd+L then 800 else t.nd+L,tr:=x.tr }:Dec).d.length=800:=hE.len;have aR8:({ t with d:=x.d,nd:=if 800≤t.nd+L then 800 else t.nd+L,dp:=t.dp+((L:Nat):Int),tr:=x.tr }:Dec).d.length=800:=hE.len;refine zu ?_;refine za rfl (ye underlying3 rfl rfl Ba (xJ hlz t.dp rfl) (aN ?_));refine yo ?_;refine zm ?_;refine zk (qr J6 rfl rfl Ba rfl rfl (yK hlz (by decide:801<804)) (qrv hlz (t.dp+((L:Nat):Int))) ?_);intro w22 Bx Ea;replace Ba:aB w22 ga 229 (yj { t with d:=x.d,nd:=if 800≤t.nd+L then 800 else t.nd+L,dp:=t.dp+((L:Nat):Int),tr:=x.tr }):=Bx;replace E:=E.step1 Ea aj.head;refine zx ?_;refine za rfl (zb aix rfl ((Dt _ ga _ aR8 (by show (if 800≤t.nd+L then 800 else t.nd+L)≤800;split<;>omega) Ba).mono ?_));rintro e iW ⟨rfl,hB,hE⟩;refine ⟨_,rfl,?_⟩;replace Ba:=hB;clear hB;replace E:=E.step1 hE aj.head;clear hE;refine aN ?_;refine Yy rfl ?_;exact ⟨rfl,by unfold vk;rw[←hx,←hL];exact Ba,(LW.step E ak)⟩
end
end Go.Proofs.YtmnmebdmpigddaaGreatDoor
namespace Go.Proofs.YtmnmebdmpigddaaGreatDoor
open Go.RowKit Proofs.Tryz
theorem Dw {P Q:Prop} (k:Q) (h:(Unit→Q)→P:=by
 intro zK;refine zl ?_;refine za rfl (ye underlying3 rfl rfl Ba (yJ hl t.nd rfl) (zx ?_));refine zd 4 (.bool false) rfl (by rw[vm om]<;>rfl) (yi ?_);exact zK ()):P:=h fun _=>k
theorem nE {P Q:Prop} (k:Q) (h:(Unit→Q)→P:=by
 intro zK;refine bO rfl (ye underlying3 rfl rfl (HF.on E).here.2 (yJ hl t.nd rfl) (zx ?_));exact zK ()):P:=h fun _=>k
theorem qdv {P Q:Prop} (k:Q) (h:(Unit→Q)→P:=by
 intro zK;refine za rfl (ye underlying3 rfl rfl (HF.on E).here.2 (xJ hl t.dp rfl) ?_);exact zK ()):P:=h fun _=>k
theorem am3 {P:Prop} (h:P:=by
 refine za rfl (vc (j:=p.toNat) gF iL rfl rfl om om (za rfl (ye u5 rfl rfl (HF.on E).here.2 (dAt hl (dg t.d (p.toNat)) (p.toNat) rfl om) (zu ?_))));refine zq 4 (.bool (decide (53≤dg t.d p.toNat))) rfl (kb om) (aN ?_);exact Dq):P:=h
attribute [local irreducible] OW RS CW EW
theorem V9 {t:Dec} {k:Nat} (h:k≤60):gT t k=js t k:=by
 unfold gT Qm;rw[yp (done:=ylz) (step:=yzk) (s:=⟨t,k⟩) (decide_eq_true h)]
theorem Wd (n:Nat):IntKind.u64.wrap (((n:Nat):Int)*10)=((n*10%18446744073709551616:Nat):Int):=by
 have e:((n:Nat):Int)*10=((n*10:Nat):Int):=om;rw[e];exact yjx _
theorem aJx (n m:Nat):IntKind.u64.wrap (((n:Nat):Int)+((m:Nat):Int))=(((n+m)%18446744073709551616:Nat):Int):=by
 have e:((n:Nat):Int)+((m:Nat):Int)=((n+m:Nat):Int):=om;rw[e];exact yjx _
theorem ax2 (c:Nat):((.bool (((c:Nat):Int)%2 !=0)):Value)= .bool (decide (c%2≠0)):=by
 congr 1
 by_cases h:c%2=0
 · rw[decide_eq_false (fun e=>e h),show ((c:Nat):Int)%2=0 from om];rfl
 · rw[decide_eq_true h];exact bne_iff_ne.2 om
section
variable (w:World) {bp op cp bf of cf bl ol cl:Nat}
theorem nG (ga k:Nat) (t:Dec) (hk:yH k) (ht:aZ t) (h0:0<t.nd) (hdp:-20000000≤t.dp∧t.dp≤20000000) (hB:aB w ga 229 (yj t)) (hT:dB bp op cp bf of cf bl ol cl w) (hg:iI bp bf bl ga) :
 Calls prog 241 #[.pointer (some ⟨ga,0,none⟩),.int .i64 ((k:Nat):Int)] w fun e w'=>e= .returned (.tuple #[])∧aB w' ga 229 (yj (vk t k))∧Ext (aj [some ga]) w w':=by
 have hl:=ht.len;have ad9:=(wX hk).k1;refine zc func241 rfl ntmps241 rfl ?_;have Ba:=hB;have HF:Per (aj [(some ga)]) w (fun _=>True):=Per.yN;have LW:=aD (aj [(some ga)]) w;have ak:=aS (aj [(some ga)]) w;have E:=aD (aj [(some ga)]) w;obtain ⟨HF,LW,E⟩:=cO HF LW E ak (Per.K9 hT hg (fun q h=>h.elim (fun e=>Nat.le_of_eq (Option.some.inj e).symm) (fun e=>e.elim)));refine Dw ?_;refine zd 10 (.bool true) rfl (by rw[decide_eq_true om]<;>rfl) (zn ?_);refine zcx (zp ?_);refine zd 14 (.bool false) rfl (by rw[decide_eq_false om]<;>rfl) (qd ?_);refine za rfl (jp Rh underlying3 rfl (wrap_u64 om) (za rfl (zb aD5 rfl ((V7 _ ga k t hk ht h0 hdp Ba (HF.on E).here.2 hg).mono ?_))));rintro e w1 ⟨rfl,hB,hE⟩;refine ⟨_,rfl,?_⟩;replace Ba:=hB;clear hB;replace E:=E.step1 hE aj.head;clear hE;refine zm ?_;refine Yy rfl ?_;exact ⟨rfl,Ba,(LW.step E ak)⟩
theorem nH (ga k:Nat) (t:Dec) (h:Qn ⟨t,k⟩) (hB:aB w ga 229 (yj t)) :
 Calls prog 241 #[.pointer (some ⟨ga,0,none⟩),.int .i64 (-((k:Nat):Int))] w fun e w'=>e= .returned (.tuple #[])∧aB w' ga 229 (yj (gT t k))∧Ext (aj [some ga]) w w':=by
 have hl:t.d.length=800:=h.dec.len;have h0:0<t.nd:=h.pos;have hk1:1≤k∧k≤300000:=h.k1;refine zc func241 rfl ntmps241 rfl ?_;have Ba:=hB;have LW:=aD (aj [(some ga)]) w;have ak:=aS (aj [(some ga)]) w;have E:=aD (aj [(some ga)]) w;refine Dw ?_;refine zd 10 (.bool false) rfl (by rw[decide_eq_false om]<;>rfl) (yi ?_);refine zd 23 (.bool true) rfl (by rw[decide_eq_true om]<;>rfl) (zm ?_);replace LW:=LW.step E ak;replace E:=aD (aj [(some ga)]) w;refine yh (ι:=ShS) (fun s=>[(0,.pointer (some ⟨ga,0,none⟩)),(1,.int .i64 (-(s.k:Int)))]) (fun s w'=>Ext (aj [(some ga)]) w w'∧aB w' ga 229 (yj s.t)∧(s=Qm t k)) ?_ ?_
 ·
  have M1:=aD (aj [(some ga)]) w;have dz:=aS (aj [(some ga)]) w;refine aN ?_;replace M1:=M1.step E dz;replace E:=aD (aj [(some ga)]) w;refine yw (ι:=ShS) (fun s=>[(0,.pointer (some ⟨ga,0,none⟩)),(1,.int .i64 (-(s.k:Int)))]) (fun s w'=>Ext (aj [(some ga)]) w w'∧aB w' ga 229 (yj s.t)∧(Qn s∧qk ylz yzk s=Qm t k)) (fun s=>s.k) (⟨t,k⟩) ⟨rfl,rfl,trivial⟩ ⟨Ext.refl _ _,(by exact Ba),h,rfl⟩ ?_;have eB:=(ze Ba.lt);clear Ba;rintro s w4 ⟨M3,Ba,⟨hI,hu⟩⟩;have aV:eD (aj [(some ga)]) (aj [(some ga)]) w:=(aj.grow aj.none_ (fun k e=>Or.inl (aj.head k e)));replace E:=E.trans M3;replace M1:=M1.step E dz;replace E:=aD (aj [(some ga)]) w4;have hk2:=hI.k1;have aR9:=hI.dp;refine zp ?_;refine zg rfl (fun h1=>?_) (fun h1=>?_)
  ·
   have h1:60<s.k:=by have h1:=of_decide_eq_true h1;omega
   have hdone:ylz s=false:=decide_eq_false om;obtain ⟨hkeep,hlt⟩:=mP hI hdone;have hst:yzk s= ⟨js s.t 60,s.k-60⟩:=rfl;rw[qp hdone] at hu;rw[hst] at hu hkeep;refine zl ?_;refine za rfl (zb aij rfl ((tQ _ ga 60 s.t de hI.dec hI.pos om Ba).mono ?_));rintro e w5 ⟨rfl,hB,hE⟩;refine ⟨_,rfl,?_⟩;replace Ba:=hB;clear hB;replace E:=E.step1 hE aj.head;clear hE;refine zx ?_;refine yo ?_;refine zn ?_;refine zq 1 (.int .i64 (-((s.k-60:Nat):Int))) rfl ((by congr 1;omega:(.int .i64 ((-(s.k:Int))+60):Value)=_)) ?_;exact zo (⟨js s.t 60,s.k-60⟩) (by show s.k-60<s.k;omega) ⟨rfl,rfl,trivial⟩ ⟨M3.step E aV,(by exact Ba),hkeep,hu⟩
  ·
   have h1:s.k≤60:=by have h1:=of_decide_eq_false h1;omega
   have hdone:ylz s=true:=decide_eq_true h1;rw[yp hdone] at hu;refine zx ?_;exact zt s ⟨rfl,rfl,trivial⟩ ⟨M1.step E dz,(by exact Ba),hu⟩
 ·
  have eB:=(ze Ba.lt);clear Ba;rintro s w2 ⟨M1,Ba,hs⟩;replace E:=E.trans M1;replace LW:=LW.step E ak;replace E:=aD (aj [(some ga)]) w2;obtain ⟨hE0,hd0⟩:=Le h;rw[←hs] at hE0 hd0;have hd0:s.k≤60:=of_decide_eq_true hd0;have hk2:=hE0.k1;have aR9:=hE0.dp;refine zn ?_;refine zjk ?_;refine za rfl (jp Rh underlying3 rfl (wrap_u64 om) (zf 35 (.int .u64 (s.k:Int)) rfl (by congr 1;omega) (za rfl (zb aij rfl ((tQ _ ga s.k s.t om hE0.dec hE0.pos om Ba).mono ?_)))));rintro e w6 ⟨rfl,hB,hE⟩;refine ⟨_,rfl,?_⟩;replace Ba:=hB;clear hB;replace E:=E.step1 hE aj.head;clear hE;refine zm ?_;refine Yy rfl ?_;exact ⟨rfl,by unfold gT;rw[←hs];exact Ba,(LW.step E ak)⟩
theorem adq (ga:Nat) (t:Dec) (p:Int) (ht:aZ t) (hp:-20000000≤p∧p≤20000000) (hB:aB w ga 229 (yj t)) :
 Calls prog 272 #[.pointer (some ⟨ga,0,none⟩),.int .i64 p] w (aI w (.bool (rup t p))):=by
 have hl:=ht.len;have hnd:=ht.hn;refine zc func272 rfl ntmps272 rfl ?_;obtain ⟨HF,LW,ak,E⟩:=bg w;replace HF:=HF.and (Per.blk hB (fun h=>h.elim));refine yu ?_;refine zj 7 rfl (fun h1=>?_) (fun h1=>?_)
 ·
  have h1:=of_decide_eq_true h1;have e:rup t p=false:=by unfold rup;rw[if_pos (.inl h1)]
  refine Qa ?_;exact Dq
 ·
  have h1:=of_decide_eq_false h1;refine zx ?_;refine nE ?_;refine zg rfl (fun h2=>?_) (fun h2=>?_)
  ·
   have h2:=of_decide_eq_true h2;have e:rup t p=false:=by unfold rup;rw[if_pos (.inr h2)]
   refine yi ?_;exact Dq
  ·
   have h2:=of_decide_eq_false h2;have hno:¬(p<0∨(t.nd:Int)≤p):=om;have hg:=ht.bR p.toNat om;refine qd ?_;refine za rfl (vc (j:=p.toNat) gF iL rfl rfl om om (za rfl (ye u5 rfl rfl (HF.on E).here.2 (dAt hl (dg t.d (p.toNat)) (p.toNat) rfl om) (zm ?_))));refine zj 22 rfl (fun h3=>?_) (fun h3=>?_)
   ·
    have h3:dg t.d p.toNat=53:=by have h3:=eq_of_beq h3;omega
    refine aN ?_;refine bO rfl (vo rfl rfl (yx om) (zn ?_));refine nE ?_;refine zg rfl (fun h4=>?_) (fun h4=>?_)
    ·
     have h4:p+1=(t.nd:Int):=eq_of_beq h4;have e0:rup t p=(if t.tr then true else if 0<p then decide ((dg t.d (p.toNat-1)-48)%2≠0) else false):=by unfold rup;rw[if_neg hno,if_pos ⟨h3,h4⟩]
     refine zl ?_;refine za rfl (ye u4 rfl rfl (HF.on E).here.2 (aR4 hl t.tr rfl) (zm ?_));refine zg rfl (fun h5=>?_) (fun h5=>?_)
     ·
      have e:rup t p=true:=by rw[e0,if_pos h5]
      refine qd ?_;exact Dq
     ·
      refine zp ?_;refine zj 37 rfl (fun h6=>?_) (fun h6=>?_)
      ·
       have h6:=of_decide_eq_true h6;have hg2:=ht.bR (p.toNat-1) om;have e:rup t p=decide ((dg t.d (p.toNat-1)-48)%2≠0):=by rw[e0,if_neg (by rw[h5];decide),if_pos h6]
       refine zm ?_;refine bO rfl (jg rfl rfl (yx om) (zm ?_));refine bO rfl (vc (j:=p.toNat-1) gF iL rfl rfl om om (bO rfl (ye u5 rfl rfl (HF.on E).here.2 (dAt hl (dg t.d (p.toNat-1)) (p.toNat-1) rfl om) (bO rfl (jg rfl rfl (ybz om) (zf 45 (.int .u8 ((dg t.d (p.toNat-1)-48:Nat):Int)) rfl (by congr 1;omega) (bO rfl (LU rfl rfl de (Int.tmod_eq_emod_of_nonneg om) (zp ?_)))))))));refine zq 4 (.bool (decide ((dg t.d (p.toNat-1)-48)%2≠0))) rfl (ax2 _) (aN ?_);exact Dq
      ·
       have h6:=of_decide_eq_false h6;have e:rup t p=false:=by rw[e0,if_neg (by rw[h5];decide),if_neg h6]
       refine Mq ?_;exact Dq
    ·
     have h4:¬p+1=(t.nd:Int):=fun e=>absurd h4 (by rw[e];simp);have e:rup t p=decide (53≤dg t.d p.toNat):=by unfold rup;rw[if_neg hno,if_neg (fun h=>h4 h.2)]
     refine yi ?_;exact am3
   ·
    have h3:¬dg t.d p.toNat=53:=fun e=>absurd h3 (by rw[e];decide);have e:rup t p=decide (53≤dg t.d p.toNat):=by unfold rup;rw[if_neg hno,if_neg (fun h=>h3 h.1)]
    refine rA ?_;exact am3
theorem xK (ga:Nat) (t:Dec) (ht:aZ t) (hp:-20000000≤t.dp∧t.dp≤20000000) (hB:aB w ga 229 (yj t)) :
 Calls prog 258 #[.pointer (some ⟨ga,0,none⟩)] w (aI w (.int .u64 ((Lf t:Nat):Int))):=by
 have hl:=ht.len;have hnd:=ht.hn;refine zc func258 rfl ntmps258 rfl ?_;obtain ⟨HF,LW,ak,E⟩:=bg w;replace HF:=HF.and (Per.blk hB (fun h=>h.elim));refine yu ?_;refine qdv ?_;refine zn ?_;refine zg rfl (fun h1=>?_) (fun h1=>?_)
 ·
  have h1:=of_decide_eq_true h1;have e:Lf t=18446744073709551615:=by unfold Lf;rw[if_pos h1]
  refine yi ?_;exact Dq
 ·
  have h1:=of_decide_eq_false h1;have adz:t.dp≤20:=om;refine Qa ?_;replace HF:=HF.on E;replace LW:=LW.step E ak;replace E:=aD (No) w;refine yh (ι:=fA) (fun s=>[(0,.pointer (some ⟨ga,0,none⟩)),(3,.int .i64 (s.r:Int)),(4,.int .u64 (s.n:Int))]) (fun s w'=>Ext (No) w w'∧(s=riA t)) ?_ ?_
  ·
   have M1:=aD (No) w;have dz:=aS (No) w;refine aN ?_;replace HF:=HF.on E;replace M1:=M1.step E dz;replace E:=aD (No) w;refine yw (ι:=fA) (fun s=>[(0,.pointer (some ⟨ga,0,none⟩)),(3,.int .i64 (s.r:Int)),(4,.int .u64 (s.n:Int))]) (fun s w'=>Ext (No) w w'∧(Yl s∧qk (yrq t) (qiq t) s=riA t)) (fun s=>20-s.r) (⟨0,0⟩) ⟨rfl,rfl,rfl,trivial⟩ ⟨Ext.refl _ _,⟨Nat.zero_le _,de⟩,rfl⟩ ?_;rintro s w4 ⟨M3,⟨hI,hu⟩⟩;have aV:=aS (No) w;replace E:=E.trans M3;replace HF:=HF.on E;replace M1:=M1.step E dz;replace E:=aD (No) w4;have hr:=hI.hr;have hn:=hI.hn;refine zp ?_;refine qdv ?_;refine zm ?_;refine zj 16 rfl (fun h2=>?_) (fun h2=>?_)
   ·
    have h2:=of_decide_eq_true h2;refine zx ?_;refine nE ?_;refine zg rfl (fun h3=>?_) (fun h3=>?_)
    ·
     have h3:=of_decide_eq_true h3;have hdone:yrq t s=false:=decide_eq_false (fun h=>h ⟨h2,om⟩);have hkeep:=qsv adz hI hdone;have hst:qiq t s= ⟨s.r+1,(s.n*10%18446744073709551616+(dg t.d s.r-48))%18446744073709551616⟩:=rfl;have hg:=ht.bR s.r om;rw[qp hdone] at hu;rw[hst] at hu hkeep;have hk1:=hkeep.hr;have hk1:s.r+1≤20:=hk1;refine zl ?_;refine za rfl (xr rfl rfl (Wd s.n) (zx ?_));refine za rfl (vc (j:=s.r) gF iL rfl rfl om om (za rfl (ye u5 rfl rfl (HF.on E).here.2 (dAt hl (dg t.d (s.r)) (s.r) rfl om) (za rfl (jg rfl rfl (ybz om) (za rfl (jp u25 u5 rfl (wrap_u64 om) (zf 35 (.int .u64 ((dg t.d s.r-48:Nat):Int)) rfl (by congr 1;omega) (za rfl (vo rfl rfl (aJx _ _) (zwv ?_)))))))))));exact zo (⟨s.r+1,(s.n*10%18446744073709551616+(dg t.d s.r-48))%18446744073709551616⟩) (by show 20-(s.r+1)<20-s.r;omega) ⟨rfl,rfl,rfl,trivial⟩ ⟨M3.step E aV,hkeep,hu⟩
    ·
     have h3:=of_decide_eq_false h3;have hdone:yrq t s=true:=decide_eq_true om;rw[yp hdone] at hu;refine zx ?_;exact zt s ⟨rfl,rfl,rfl,trivial⟩ ⟨M1.step E dz,hu⟩
   ·
    have h2:=of_decide_eq_false h2;have hdone:yrq t s=true:=decide_eq_true om;rw[yp hdone] at hu;refine jm ?_;exact zt s ⟨rfl,rfl,rfl,trivial⟩ ⟨M1.step E dz,hu⟩
  ·
   rintro s w2 ⟨M1,hs⟩;replace E:=E.trans M1;replace HF:=HF.on E;replace LW:=LW.step E ak;replace E:=aD (No) w2;have hA:=Dc adz;refine aN ?_;replace HF:=HF.on E;replace LW:=LW.step E ak;replace E:=aD (No) w2;refine yh (ι:=fA) (fun x=>[(0,.pointer (some ⟨ga,0,none⟩)),(4,.int .u64 (x.n:Int))]) (fun x w'=>Ext (No) w2 w'∧(x=riB t)) ?_ ?_
   ·
    have M5:=aD (No) w2;have Qi:=aS (No) w2;refine aN ?_;replace HF:=HF.on E;replace M5:=M5.step E Qi;replace E:=aD (No) w2;refine yw (ι:=fA) (fun x=>[(0,.pointer (some ⟨ga,0,none⟩)),(3,.int .i64 (x.r:Int)),(4,.int .u64 (x.n:Int))]) (fun x w'=>Ext (No) w2 w'∧(Yl x∧qk (qik t) qiz x=riB t)) (fun x=>20-x.r) s ⟨rfl,rfl,rfl,trivial⟩ ⟨Ext.refl _ _,by rw[hs];exact hA,by rw[hs];rfl⟩ ?_;rintro x w8 ⟨M7,⟨hI,hu⟩⟩;have bV:=aS (No) w2;replace E:=E.trans M7;replace HF:=HF.on E;replace M5:=M5.step E Qi;replace E:=aD (No) w8;have hr:=hI.hr;have hn:=hI.hn;refine zp ?_;refine qdv ?_;refine zn ?_;refine zg rfl (fun h2=>?_) (fun h2=>?_)
    ·
     have h2:=of_decide_eq_true h2;have hdone:qik t x=false:=decide_eq_false (fun h=>h h2);have hkeep:=qsk adz hI hdone;have hst:qiz x= ⟨x.r+1,x.n*10%18446744073709551616⟩:=rfl;rw[qp hdone] at hu;rw[hst] at hu hkeep;have hk1:x.r+1≤20:=hkeep.hr;refine zl ?_;refine za rfl (xr rfl rfl (Wd x.n) (zwv ?_));exact zo (⟨x.r+1,x.n*10%18446744073709551616⟩) (by show 20-(x.r+1)<20-x.r;omega) ⟨rfl,rfl,rfl,trivial⟩ ⟨M7.step E bV,hkeep,hu⟩
    ·
     have h2:=of_decide_eq_false h2;have hdone:qik t x=true:=decide_eq_true h2;rw[yp hdone] at hu;refine zx ?_;exact zt x ⟨rfl,rfl,trivial⟩ ⟨M5.step E Qi,hu⟩
   ·
    rintro x w6 ⟨M5,hx⟩;replace E:=E.trans M5;replace HF:=HF.on E;replace LW:=LW.step E ak;replace E:=aD (No) w6;have hB2:=(Df adz).hn;refine zp ?_;refine qdv ?_;refine zh rfl aD6 rfl (adq _ ga t t.dp ht hp (HF.on E).here.2) E fun w9 E=>(zm ?_);refine zg rfl (fun h3=>?_) (fun h3=>?_)
    ·
     have e:Lf t=((riB t).n+1)%18446744073709551616:=by unfold Lf;rw[if_neg h1,if_pos h3]
     refine zm ?_;refine za rfl (vo rfl rfl (aJx x.n 1) (yu ?_));exact ⟨by rw[e,←hx];rfl,(LW.step E ak).toBelow⟩
    ·
     have e:Lf t=(riB t).n:=by unfold Lf;rw[if_neg h1,if_neg (by rw[h3];decide)]
     refine zz ?_;exact ⟨by rw[e,←hx];rfl,(LW.step E ak).toBelow⟩
end
end Go.Proofs.YtmnmebdmpigddaaGreatDoor
namespace Go.Proofs.YtmnmebdmpigddaaGreatDoor
open Go.RowKit Proofs.Tryz
theorem qdk {P Q:Prop} (k:Q) (h:(Unit→Q)→P:=by
 intro zK;refine za rfl (gq (z:=4503599627370496) rfl rfl de kr ?_);exact zK ()):P:=h fun _=>k
theorem Wh {P:Prop} (h:P:=by
 refine qq ?_;intro vs X wq K;exact uy rfl (yx om) ⟨Below.refl _ _,Left.of rfl⟩):P:=h
theorem Wi {P:Prop} (h:P:=by
 exact zt () ⟨rfl,rfl,rfl,rfl,rfl,rfl,rfl,trivial⟩ ⟨M25.step E aRq,(by exact Ba),trivial⟩):P:=h
theorem Wj {P:Prop} (h:P:=by
 exact zt () ⟨rfl,rfl,rfl,rfl,rfl,rfl,rfl,trivial⟩ ⟨KY.step E V8,(by exact Ba),trivial⟩):P:=h
theorem Wm {P:Prop} (h:P:=by
 refine qq ?_;intro vs X wq K;exact gq (z:=4503599627370496) rfl rfl de kr ⟨Below.refl _ _,Left.of rfl⟩):P:=h
theorem Wn {P:Prop} (h:P:=by
 refine qq ?_;intro vs X wq K;exact gq (z:=9223372036854775808) rfl rfl de kr ⟨Below.refl _ _,Left.of rfl⟩):P:=h
theorem Wo {P:Prop} (h:P:=by
 exact yuq rfl ax3 (M,Kx,false,vk t3 53) ⟨rfl,rfl,rfl,rfl,rfl,trivial⟩ ⟨M1.step E dz,(by exact Ba),gU,aJj,om,hl5,hn5⟩):P:=h
theorem Wp {P:Prop} (h:P:=by
 refine oh ?_;exact yuq rfl ax3 (0,0,false,t) ⟨rfl,rfl,rfl,rfl,rfl,trivial⟩ ⟨M1.step E dz,(by exact Ba),gU,de,de,hl,rfl⟩):P:=h
theorem Lp {P:Prop} (h:P:=by
 refine aN ?_;exact ⟨by rw[e,gU];rfl,⟨_,Ba⟩,(LW.step E ak)⟩):P:=h
theorem am4 {P:Prop} (h:P:=by
 intro vs X wq K;have LE:=K.1;exact vq underlying3 rfl rfl (by rw[Nat.mul_one];exact (HF.on (E.drew.trans (LE.mono OY))).here.1.1.1.2.powtab.cells _ _ (O4 om)) ⟨Below.refl _ _,Left.of rfl⟩):P:=h
theorem Wq {P:Prop} (h:P:=by
 refine qq ?_;intro vs X wq K;exact gq (z:=2048) rfl rfl de kr ⟨Below.refl _ _,Left.of rfl⟩):P:=h
theorem Lr {P:Prop} (h:P:=by
 refine qq ?_;intro vs X wq K;exact jg (z:=2047) rfl rfl kr ⟨Below.refl _ _,Left.of rfl⟩):P:=h
theorem Ls {P:Prop} (h:P:=by
 have LE:=K.1;exact vq Mh rfl rfl (HF.on (E.drew.trans (LE.mono OY))).here.1.1.1.2.powtab.head ⟨Below.refl _ _,Left.of rfl⟩):P:=h
theorem Lu {P:Prop} (h:P:=by
 refine qq ?_;intro vs X wq K;have LE:=K.1;exact ye underlying3 rfl rfl (Ba.drew.ay LE ah.nil) (xJ hls s.t.dp rfl) ⟨Below.refl _ _,Left.of rfl⟩):P:=h
theorem am5 {P:Prop} (h:P:=by
 refine ⟨arm,arm,arm,arm,arm,?_,arm,arm,arm,arm,?_,?_,?_,trivial⟩
 · refine qq ?_;intro vs X wq K;exact jg rfl rfl (yx om) ⟨Below.refl _ _,Left.of rfl⟩
 · refine qq ?_;intro vs X wq K;exact gq (z:=2048) rfl rfl de kr ⟨Below.refl _ _,Left.of rfl⟩
 · refine qq ?_;intro vs X wq K;exact jg (z:=2047) rfl rfl kr ⟨Below.refl _ _,Left.of rfl⟩
 · refine qq ?_;intro vs X wq K;exact QL rfl rfl ⟨Below.refl _ _,Left.of (kb om)⟩):P:=h
attribute [local irreducible] OW RS CW EW
theorem O4 {j:Nat} (h:j<9):(Vg.map (fun z=>Value.int .i64 z))[j]? =some (.int .i64 ((pt j:Nat):Int)):=by
 have key:∀i:Fin 9,Vg[i.val]? =some ((pt i.val:Nat):Int):=by decide +kernel
 rw[List.getElem?_map,key ⟨j,h⟩];rfl
theorem Ws {j:Nat} (h:9≤j):pt j=27:=by unfold pt;rw[if_pos h]
theorem O5 {k:Nat} (h:k≤2047):IntKind.i64.wrap (BitVec.ofInt IntKind.i64.bits ((k:Nat):Int) &&& BitVec.ofInt IntKind.i64.bits 2047).toNat=((k:Nat):Int):=by
 have key:∀v:Fin 2048,IntKind.i64.wrap (BitVec.ofInt IntKind.i64.bits (v.val:Int) &&& BitVec.ofInt IntKind.i64.bits 2047).toNat=(v.val:Int):=by decide +kernel
 exact key ⟨k,om⟩
theorem ax4 {k:Nat} (h:k≤2047):IntKind.u64.wrap (((k:Nat):Int)*2^(min ((52:Int)).toNat IntKind.u64.bits))=((k*4503599627370496:Nat):Int):=by
 have e:=ZQ k 52 de;have e2:k*2^52%18446744073709551616=k*4503599627370496:=Nat.mod_eq_of_lt (by show k*4503599627370496<18446744073709551616;omega);rw[e2] at e;exact e
theorem ax5 {m:Nat} (h:m<18446744073709551616):IntKind.u64.wrap (BitVec.ofInt IntKind.u64.bits ((m:Nat):Int) &&& BitVec.ofInt IntKind.u64.bits 4503599627370495).toNat=((m &&& 4503599627370495:Nat):Int):=kt (n:=4503599627370495) h de
theorem Wt {m:Nat} (h:m<18446744073709551616):IntKind.u64.wrap (BitVec.ofInt IntKind.u64.bits ((m:Nat):Int) &&& BitVec.ofInt IntKind.u64.bits 4503599627370496).toNat=((m &&& 4503599627370496:Nat):Int):=kt (n:=4503599627370496) h de
theorem adx {t:Dec} (ht:aZ t) (h0:0<t.nd) (hd:-330≤t.dp∧t.dp≤310):(fbR t).t.neg=t.neg:=by
 have h:=vj (done:=zvx) (step:=zuk) (fun s=>Db s∧s.t.neg=t.neg) (fun s=>Vr s.t) (fun s h hd=>?_) ⟨qwq ht h0 hd,rfl⟩
 · exact h.1.2
 · obtain ⟨h1,h2⟩:=qwk h.1 hd;obtain ⟨_,_,_,_,h5⟩:=xy (k:=pt s.t.dp.toNat) h.1.dec (Da _).1 h.1.pos;exact ⟨⟨h1,h5.trans h.2⟩,h2⟩
theorem adj {t:Dec} (ht:aZ t) (h0:0<t.nd) (hd:-330≤t.dp∧t.dp≤310):(fbL t).t.neg=t.neg:=by
 obtain ⟨h1,h2⟩:=mO ht h0 hd;have h:=vj (done:=yev) (step:=zuv) (fun s=>IB s∧s.t.neg=t.neg) (fun s=>Vs s.t) (fun s h hd=>?_) ⟨qwv h1 h2,adx ht h0 hd⟩
 · exact h.1.2
 · obtain ⟨h3,h4⟩:=qxx h.1 hd;obtain ⟨_,_,_,_,_,h5⟩:=ydv (k:=pt (-s.t.dp).toNat) h.1.dec h.1.pos (Iz _);exact ⟨⟨h3,h5.trans h.2⟩,h4⟩
theorem Wu {t:Dec} {k:Nat} (h:Qn ⟨t,k⟩):(gT t k).neg=t.neg:=by
 have h1:=vj (done:=ylz) (step:=yzk) (fun s=>Qn s∧s.t.neg=t.neg) (fun s=>s.k) (fun s h hd=>?_) ⟨h,rfl⟩
 · have h2:Qn (Qm t k)∧(Qm t k).t.neg=t.neg:=h1.1;obtain ⟨_,_,_,_,h5⟩:=xy (k:=(Qm t k).k) h2.1.dec h2.1.k1.1 h2.1.pos;exact h5.trans h2.2
 · obtain ⟨h3,h4⟩:=mP h.1 hd;obtain ⟨_,_,_,_,h5⟩:=xy (k:=60) h.1.dec de h.1.pos;exact ⟨⟨h3,h5.trans h.2⟩,h4⟩
def IU (m k:Nat):Nat:=(m &&& 4503599627370495) ||| k*4503599627370496
theorem Wv {m k:Nat} (hk:k≤2047):IntKind.u64.wrap (BitVec.ofInt IntKind.u64.bits ((m &&& 4503599627370495:Nat):Int) ||| BitVec.ofInt IntKind.u64.bits ((k*4503599627370496:Nat):Int)).toNat=((IU m k:Nat):Int):=
 kg (Nat.lt_of_le_of_lt Nat.and_le_right de) om
theorem Ww {m k:Nat} (hk:k≤2047):IU m k<18446744073709551616:=
 sH (k:=64) (Nat.lt_of_le_of_lt Nat.and_le_right de) (by show k*4503599627370496<18446744073709551616;omega)
theorem O6 {m k:Nat} (hk:k≤2047):IntKind.u64.wrap (BitVec.ofInt IntKind.u64.bits ((IU m k:Nat):Int) ||| BitVec.ofInt IntKind.u64.bits 9223372036854775808).toNat=((IU m k ||| 9223372036854775808:Nat):Int):=
 kg (n:=9223372036854775808) (Ww hk) de
section
variable (w:World) {bp op cp bf of cf bl ol cl:Nat}
theorem Wx (ga:Nat) (t:Dec) (ht:aZ t) (aW0:-20000000≤t.dp∧t.dp≤20000000) (hB:aB w ga 229 (yj t)) (hT:dB bp op cp bf of cf bl ol cl w) (hg:iI bp bf bl ga) :
 Calls prog 223 #[.pointer (some ⟨ga,0,none⟩),.pointer (some ⟨8,0,none⟩)] w fun e w'=>e= .returned (.tuple #[.int .u64 ((Lg t:Nat):Int),.bool (xC t).2.2])∧(∃t',aB w' ga 229 (yj t'))∧Ext (aj [some ga]) w w':=by
 have hl:=ht.len;have hnd:=ht.hn;refine zc func223 rfl ntmps223 rfl ?_;have Ba:=hB;have HF:Per (aj [(some ga)]) w (fun _=>True):=Per.yN;have LW:=aD (aj [(some ga)]) w;have ak:=aS (aj [(some ga)]) w;have E:=aD (aj [(some ga)]) w;obtain ⟨HF,LW,E⟩:=cO HF LW E ak (Per.K9 hT hg (fun q h=>h.elim (fun e=>Nat.le_of_eq (Option.some.inj e).symm) (fun e=>e.elim)));obtain ⟨HF,LW,E⟩:=cO HF LW E ak (Per.dP (HF.on E).here.2.man hg.info (fun q h=>h.elim (fun e=>Nat.le_of_eq (Option.some.inj e).symm) (fun e=>e.elim)));obtain ⟨HF,LW,E⟩:=cO HF LW E ak (Per.dP (HF.on E).here.1.2.exp hg.info (fun q h=>h.elim (fun e=>Nat.le_of_eq (Option.some.inj e).symm) (fun e=>e.elim)));obtain ⟨HF,LW,E⟩:=cO HF LW E ak (Per.dP (HF.on E).here.1.1.2.bias hg.info (fun q h=>h.elim (fun e=>Nat.le_of_eq (Option.some.inj e).symm) (fun e=>e.elim)));refine zl ?_;refine y9 4 ?_;replace HF:=HF.on E;replace LW:=LW.step E ak;replace E:=aD (aj [(some ga)]) w;refine Lm (l:=0) (ι:=Nat×Nat×Bool×Dec) (fun (m,k,ov,u)=>[(0,.pointer (some ⟨ga,0,none⟩)),(1,.pointer (some ⟨8,0,none⟩)),(5,.bool ov),(6,.int .i64 (((k:Nat):Int)-1023)),(7,.int .u64 ((m:Nat):Int))]) (fun (m,k,ov,u) w'=>Ext (aj [(some ga)]) w w'∧aB w' ga 229 (yj u)∧(xC t=(m,k,ov)∧m<18446744073709551616∧k≤2047∧u.d.length=800∧u.neg=t.neg)) rfl ?_ ?_
 ·
  intro ax3;have M1:=aD (aj [(some ga)]) w;have dz:=aS (aj [(some ga)]) w;replace HF:=HF.on E;replace LW:=LW.step E ak;replace M1:=M1.step E dz;replace E:=aD (aj [(some ga)]) w;refine Lm (l:=1) (ι:=Dec) (fun u=>[(0,.pointer (some ⟨ga,0,none⟩)),(1,.pointer (some ⟨8,0,none⟩))]) (fun u w'=>Ext (aj [(some ga)]) w w'∧aB w' ga 229 (yj u)∧(xC t=(0,2047,true)∧u.d.length=800∧u.neg=t.neg)) rfl ?_ ?_
  ·
   intro ax6;have M3:=aD (aj [(some ga)]) w;have aV:=aS (aj [(some ga)]) w;refine oh ?_;refine za rfl (ye underlying3 rfl rfl Ba (yJ hl t.nd rfl) (zn ?_));refine zg rfl (fun h1=>?_) (fun h1=>?_)
   ·
    have h1:t.nd=0:=by have h1:=eq_of_beq h1;omega
    have gU:xC t=(0,0,false):=by unfold xC;rw[if_pos h1]
    exact Wp
   ·
    have h1:t.nd≠0:=fun e=>absurd h1 (by rw[e];decide);refine yi ?_;refine mX ?_;refine zn ?_;refine zg rfl (fun h2=>?_) (fun h2=>?_)
    ·
     have h2:=of_decide_eq_true h2;have gU:xC t=(0,2047,true):=by unfold xC;rw[if_neg h1,if_pos h2]
     refine zm ?_;exact yuq rfl ax6 t ⟨rfl,rfl,trivial⟩ ⟨M3.step E aV,(by exact Ba),gU,hl,rfl⟩
    ·
     have h2:=of_decide_eq_false h2;refine yi ?_;refine mX ?_;refine zn ?_;refine zg rfl (fun h3=>?_) (fun h3=>?_)
     ·
      have h3:=of_decide_eq_true h3;have gU:xC t=(0,0,false):=by unfold xC;rw[if_neg h1,if_neg h2,if_pos h3]
      exact Wp
     ·
      have h3:=of_decide_eq_false h3;have hpos:0<t.nd:=om;have ax7:xC t=tJ (fbL t).t ((fbL t).e-1):=by unfold xC;rw[if_neg h1,if_neg h2,if_neg h3]
      refine yi ?_;replace HF:=HF.on E;replace M1:=M1.step E dz;replace M3:=M3.step E aV;replace E:=aD (aj [(some ga)]) w;refine yh (ι:=yI) (fun s=>[(0,.pointer (some ⟨ga,0,none⟩)),(1,.pointer (some ⟨8,0,none⟩)),(4,.int .u64 0),(5,.bool false),(6,.int .i64 s.e),(7,.int .u64 0)]) (fun s w'=>Ext (aj [(some ga)]) w w'∧aB w' ga 229 (yj s.t)∧(s=fbR t)) ?_ ?_
      ·
       have M5:=aD (aj [(some ga)]) w;have Qi:=aS (aj [(some ga)]) w;refine aN ?_;replace HF:=HF.on E;replace M5:=M5.step E Qi;replace E:=aD (aj [(some ga)]) w;refine yw (ι:=yI) (fun s=>[(0,.pointer (some ⟨ga,0,none⟩)),(1,.pointer (some ⟨8,0,none⟩)),(4,.int .u64 0),(5,.bool false),(6,.int .i64 s.e),(7,.int .u64 0)]) (fun s w'=>Ext (aj [(some ga)]) w w'∧aB w' ga 229 (yj s.t)∧(Db s∧qk zvx zuk s=fbR t)) (fun s=>Vr s.t) (⟨t,0⟩) ⟨rfl,rfl,rfl,rfl,rfl,rfl,trivial⟩ ⟨Ext.refl _ _,(by exact Ba),qwq ht hpos om,rfl⟩ ?_;have eB:=(ze Ba.lt);clear Ba;rintro s w8 ⟨M7,Ba,⟨hI,hu⟩⟩;have bV:eD (aj [(some ga)]) (aj [(some ga)]) w:=(aj.grow aj.none_ (fun k e=>Or.inl (aj.head k e)));replace E:=E.trans M7;replace HF:=HF.on E;replace M5:=M5.step E Qi;replace E:=aD (aj [(some ga)]) w8;have hls:=hI.dec.len;have hsd:=hI.dp;have hse:=hI.e;have hsp:=hI.pos;refine zl ?_;refine za rfl (ye underlying3 rfl rfl Ba (xJ hls s.t.dp rfl) (zn ?_));refine zg rfl (fun h4=>?_) (fun h4=>?_)
       ·
        have h4:=of_decide_eq_true h4;have hdone:zvx s=false:=decide_eq_false om;obtain ⟨hkeep,hms⟩:=qwk hI hdone;obtain ⟨P,hP⟩:∃P,P=pt s.t.dp.toNat:=⟨_,rfl⟩;have hP1:=Da s.t.dp.toNat;have hst:zuk s= ⟨js s.t P,s.e+((P:Nat):Int)⟩:=by rw[hP];rfl
        rw[←hP] at hP1;rw[qp hdone] at hu;rw[hst] at hu hkeep hms;refine zz ?_;replace HF:=HF.on E;replace M7:=M7.step E bV;replace E:=aD (aj [(some ga)]) w8;refine yh (ι:=Bool) (fun g=>[(0,.pointer (some ⟨ga,0,none⟩)),(1,.pointer (some ⟨8,0,none⟩)),(4,.int .u64 0),(5,.bool false),(6,.int .i64 s.e),(7,.int .u64 0),(8,.int .i64 0),(46,.bool g)]) (fun g w'=>Ext (aj [(some ga)]) w8 w'∧aB w' ga 229 (yj s.t)∧(g=decide (9≤s.t.dp))) ?_ ?_
        ·
         have M9:=aD (aj [(some ga)]) w8;have Qq:=aS (aj [(some ga)]) w8;have OY:∀q9,(aj (oa [])) q9→q9<(World.drew w8).heap.size→(aj [(some ga)]) q9:=fun k h _=>(aj.none_) k h;refine qm (aj [(some ga)]) (aj.grow aj.none_ (ze Ba.lt)) [] [] (fQ [Fx.of (.pointer (some ⟨ga,0,none⟩)),
          Fx.of (.pointer (some ⟨ga,0,none⟩)),
          Fx.of (.pointer (some ⟨ga,801,none⟩)),
          Fx.of (.int .i64 s.t.dp),
          Fx.of (.slice (some ⟨bp,op,none⟩) 9 cp),
          Fx.of (.int .i64 9),
          Fx.of (.bool (decide (9≤s.t.dp)))]) mixed rfl trivial (fun _ h=>by cases h) ?_ ?_
         · refine ⟨arm,arm,arm,?_,?_,arm,arm,trivial⟩
           · exact Lu
           · intro vs X wq K;exact Ls
         intro vs dQ LE AO AL AF AA;have fP:=Ba;replace Ba:=Ba.drew.ay LE ah.nil;replace E:=E.drew.trans (LE.mono OY);obtain ⟨_,e6,k6⟩:=AL.2.2.2.2.2.2.1;refine ja (τ:=[(0,_),(1,_),(4,_),(5,_),(6,_),(7,_),(8,_),(46,.bool (decide (9≤s.t.dp)))]) ⟨rfl,rfl,rfl,rfl,rfl,rfl,rfl,congrArg some e6,trivial⟩ ?_;clear AL AF AA LE AO OY e6 k6 fP;exact zt (decide (9≤s.t.dp)) ⟨rfl,rfl,rfl,rfl,rfl,rfl,rfl,rfl,trivial⟩ ⟨M9.step E Qq,(by exact Ba),rfl⟩
        ·
         have eB:=(ze Ba.lt);clear Ba;rintro g dH ⟨M9,Ba,hgg⟩;replace E:=E.trans M9;replace HF:=HF.on E;replace M7:=M7.step E bV;replace E:=aD (aj [(some ga)]) dH;replace HF:=HF.on E;replace M7:=M7.step E bV;replace E:=aD (aj [(some ga)]) dH;refine yh (ι:=Unit) (fun _=>[(0,.pointer (some ⟨ga,0,none⟩)),(1,.pointer (some ⟨8,0,none⟩)),(4,.int .u64 0),(5,.bool false),(6,.int .i64 s.e),(7,.int .u64 0),(8,.int .i64 ((P:Nat):Int))]) (fun _ w'=>Ext (aj [(some ga)]) dH w'∧aB w' ga 229 (yj s.t)∧(True)) ?_ ?_
         ·
          have KY:=aD (aj [(some ga)]) dH;have V8:=aS (aj [(some ga)]) dH;refine zg rfl (fun h5=>?_) (fun h5=>?_)
          ·
           rw[hgg] at h5;have h5:=of_decide_eq_true h5;have e:P=27:=by rw[hP];exact Ws om
           refine zn ?_;refine zq 8 (.int .i64 ((P:Nat):Int)) rfl ((by rw[e];rfl:(.int .i64 27:Value)=_)) ?_;exact Wj
          ·
           rw[hgg] at h5;have h5:=of_decide_eq_false h5;have OY:∀q9,(aj (oa [])) q9→q9<(World.drew dH).heap.size→(aj [(some ga)]) q9:=fun k h _=>(aj.none_) k h;refine qm (aj [(some ga)]) (aj.grow aj.none_ (ze Ba.lt)) [] [] (fQ [Fx.of (.slice (some ⟨bp,op,none⟩) 9 cp),
            Fx.of (.pointer (some ⟨ga,0,none⟩)),
            Fx.of (.pointer (some ⟨ga,0,none⟩)),
            Fx.of (.pointer (some ⟨ga,801,none⟩)),
            Fx.of (.int .i64 s.t.dp),
            Fx.of (.pointer (some ⟨bp,op+s.t.dp.toNat*1,none⟩)),
            Fx.of (.int .i64 ((pt s.t.dp.toNat:Nat):Int)),
            Fx.of (.int .i64 ((pt s.t.dp.toNat:Nat):Int))]) mixed rfl trivial (fun _ h=>by cases h) ?_ ?_
           · refine ⟨?_,arm,arm,arm,?_,?_,?_,arm,trivial⟩
             · intro vs X wq K;exact Ls
             · exact Lu
             · refine qq ?_;intro vs X wq K;exact jy (j:=s.t.dp.toNat) Mh J6 rfl rfl om om ⟨Below.refl _ _,Left.of rfl⟩
             · refine qq ?_;exact am4
           intro vs dU LE AO AL AF AA;have fP:=Ba;replace Ba:=Ba.drew.ay LE ah.nil;replace E:=E.drew.trans (LE.mono OY);obtain ⟨_,e7,k7⟩:=AL.2.2.2.2.2.2.2.1;refine ja (τ:=[(0,_),(1,_),(4,_),(5,_),(6,_),(7,_),(8,.int .i64 ((pt s.t.dp.toNat:Nat):Int))]) ⟨rfl,rfl,rfl,rfl,rfl,rfl,congrArg some e7,trivial⟩ ?_;clear AL AF AA LE AO OY e7 k7 fP;refine zq 8 (.int .i64 ((P:Nat):Int)) rfl ((by rw[hP]:(.int .i64 ((pt s.t.dp.toNat:Nat):Int):Value)=_)) ?_;exact Wj
         ·
          have eB:=(ze Ba.lt);clear Ba;rintro _ yD ⟨KY,Ba,_⟩;replace E:=E.trans KY;replace M7:=M7.step E bV;replace E:=aD (aj [(some ga)]) yD;refine zx ?_;refine zjk ?_;refine zf 56 (.int .i64 (-((P:Nat):Int))) rfl (by congr 1;omega) (za rfl (zb J8 rfl ((nH _ ga P s.t ⟨hI.dec,hsp,by show 1≤P∧P≤300000;omega,by show -10000000+15*((P:Nat):Int)≤s.t.dp∧s.t.dp≤1000000;omega⟩ Ba).mono ?_)));rintro e fG ⟨rfl,hB,hE⟩;refine ⟨_,rfl,?_⟩;replace Ba:=hB;clear hB;replace E:=E.step1 hE aj.head;clear hE;replace Ba:aB fG ga 229 (yj (js s.t P)):=by rw[←V9 om];exact Ba
          refine ykx ?_;exact zo (⟨js s.t P,s.e+((P:Nat):Int)⟩) (hms) ⟨rfl,rfl,rfl,rfl,rfl,rfl,trivial⟩ ⟨M7.step E bV,(by exact Ba),hkeep,hu⟩
       ·
        have h4:=of_decide_eq_false h4;have hdone:zvx s=true:=decide_eq_true om;rw[yp hdone] at hu;refine zx ?_;exact zt s ⟨rfl,rfl,rfl,rfl,rfl,rfl,trivial⟩ ⟨M5.step E Qi,(by exact Ba),hu⟩
      ·
       have eB:=(ze Ba.lt);clear Ba;rintro s w6 ⟨M5,Ba,hs⟩;replace E:=E.trans M5;replace HF:=HF.on E;replace M1:=M1.step E dz;replace M3:=M3.step E aV;replace E:=aD (aj [(some ga)]) w6;obtain ⟨hR1,hR2⟩:=mO ht hpos om;have hLs:=qwv hR1 hR2;refine aN ?_;replace HF:=HF.on E;replace M1:=M1.step E dz;replace M3:=M3.step E aV;replace E:=aD (aj [(some ga)]) w6;refine yh (ι:=yI) (fun s=>[(0,.pointer (some ⟨ga,0,none⟩)),(1,.pointer (some ⟨8,0,none⟩)),(4,.int .u64 0),(5,.bool false),(6,.int .i64 s.e),(7,.int .u64 0)]) (fun s w'=>Ext (aj [(some ga)]) w6 w'∧aB w' ga 229 (yj s.t)∧(s=fbL t)) ?_ ?_
       ·
        have Wy:=aD (aj [(some ga)]) w6;have Wz:=aS (aj [(some ga)]) w6;refine aN ?_;replace HF:=HF.on E;replace Wy:=Wy.step E Wz;replace E:=aD (aj [(some ga)]) w6;refine yw (ι:=yI) (fun s=>[(0,.pointer (some ⟨ga,0,none⟩)),(1,.pointer (some ⟨8,0,none⟩)),(4,.int .u64 0),(5,.bool false),(6,.int .i64 s.e),(7,.int .u64 0)]) (fun s w'=>Ext (aj [(some ga)]) w6 w'∧aB w' ga 229 (yj s.t)∧(IB s∧qk yev zuv s=fbL t)) (fun s=>Vs s.t) s ⟨rfl,rfl,rfl,rfl,rfl,rfl,trivial⟩ ⟨Ext.refl _ _,(by exact Ba),by rw[hs];exact hLs,by rw[hs];rfl⟩ ?_;have eB:=(ze Ba.lt);clear Ba;rintro s E8 ⟨Lv,Ba,⟨hI,hu⟩⟩;have IV:eD (aj [(some ga)]) (aj [(some ga)]) w6:=(aj.grow aj.none_ (fun k e=>Or.inl (aj.head k e)));replace E:=E.trans Lv;replace HF:=HF.on E;replace Wy:=Wy.step E Wz;replace E:=aD (aj [(some ga)]) E8;have hls:=hI.dec.len;have hsd:=hI.dp;have hse:=hI.e;have hsp:=hI.pos;have hsg:=hI.dec.bR 0 hsp;refine zm ?_;replace HF:=HF.on E;replace Wy:=Wy.step E Wz;replace Lv:=Lv.step E IV;replace E:=aD (aj [(some ga)]) E8;refine yh (ι:=Bool) (fun g=>[(0,.pointer (some ⟨ga,0,none⟩)),(1,.pointer (some ⟨8,0,none⟩)),(4,.int .u64 0),(5,.bool false),(6,.int .i64 s.e),(7,.int .u64 0),(80,.bool g)]) (fun g w'=>Ext (aj [(some ga)]) E8 w'∧aB w' ga 229 (yj s.t)∧(g=decide (s.t.dp<0∨(s.t.dp=0∧dg s.t.d 0<53)))) ?_ ?_
        ·
         have Ym:=aD (aj [(some ga)]) E8;have O7:=aS (aj [(some ga)]) E8;refine zx ?_;refine za rfl (ye underlying3 rfl rfl Ba (xJ hls s.t.dp rfl) (zm ?_));refine zj 66 rfl (fun h4=>?_) (fun h4=>?_)
         ·
          have h4:=of_decide_eq_true h4;refine kz ?_;exact zt true ⟨rfl,rfl,rfl,rfl,rfl,rfl,rfl,trivial⟩ ⟨Ym.step E O7,(by exact Ba),(decide_eq_true (.inl h4)).symm⟩
         ·
          have h4:=of_decide_eq_false h4;refine zn ?_;refine bO rfl (ye underlying3 rfl rfl Ba (xJ hls s.t.dp rfl) (zm ?_));refine zj 72 rfl (fun h5=>?_) (fun h5=>?_)
          ·
           have h5:=eq_of_beq h5;refine zn ?_;refine bO rfl (ziv (j:=0) gF iL rfl rfl rfl de (bO rfl (ye u5 rfl rfl Ba (dAt hls (dg s.t.d 0) 0 rfl de) (zx ?_))));refine zq 80 (.bool (decide (s.t.dp<0∨(s.t.dp=0∧dg s.t.d 0<53)))) rfl (kb om) ?_;exact zt (decide (s.t.dp<0∨(s.t.dp=0∧dg s.t.d 0<53))) ⟨rfl,rfl,rfl,rfl,rfl,rfl,rfl,trivial⟩ ⟨Ym.step E O7,(by exact Ba),rfl⟩
          ·
           have h5:¬s.t.dp=0:=fun e=>absurd h5 (by rw[e];decide);refine qd ?_;exact zt false ⟨rfl,rfl,rfl,rfl,rfl,rfl,rfl,trivial⟩ ⟨Ym.step E O7,(by exact Ba),(decide_eq_false om).symm⟩
        ·
         have eB:=(ze Ba.lt);clear Ba;rintro g yF ⟨Ym,Ba,hgg⟩;replace E:=E.trans Ym;replace HF:=HF.on E;replace Wy:=Wy.step E Wz;replace Lv:=Lv.step E IV;replace E:=aD (aj [(some ga)]) yF;refine zg rfl (fun h4=>?_) (fun h4=>?_)
         ·
          rw[hgg] at h4;have h4:=of_decide_eq_true h4;have hdone:yev s=false:=decide_eq_false (fun h=>h h4);obtain ⟨hkeep,hms⟩:=qxx hI hdone;obtain ⟨P,hP⟩:∃P,P=pt (-s.t.dp).toNat:=⟨_,rfl⟩;have hP1:=Da (-s.t.dp).toNat;have hP2:=Iz (-s.t.dp).toNat;have hst:zuv s= ⟨vk s.t P,s.e-((P:Nat):Int)⟩:=by rw[hP];rfl
          rw[←hP] at hP1 hP2;rw[qp hdone] at hu;rw[hst] at hu hkeep hms;refine zz ?_;replace HF:=HF.on E;replace Lv:=Lv.step E IV;replace E:=aD (aj [(some ga)]) yF;refine yh (ι:=Bool) (fun g=>[(0,.pointer (some ⟨ga,0,none⟩)),(1,.pointer (some ⟨8,0,none⟩)),(4,.int .u64 0),(5,.bool false),(6,.int .i64 s.e),(7,.int .u64 0),(9,.int .i64 0),(88,.bool g)]) (fun g w'=>Ext (aj [(some ga)]) yF w'∧aB w' ga 229 (yj s.t)∧(g=decide (9≤0-s.t.dp))) ?_ ?_
          ·
           have M22:=aD (aj [(some ga)]) yF;have aRz:=aS (aj [(some ga)]) yF;have OY:∀q9,(aj (oa [])) q9→q9<(World.drew yF).heap.size→(aj [(some ga)]) q9:=fun k h _=>(aj.none_) k h;refine qm (aj [(some ga)]) (aj.grow aj.none_ (ze Ba.lt)) [] [] (fQ [Fx.of (.pointer (some ⟨ga,0,none⟩)),
            Fx.of (.pointer (some ⟨ga,0,none⟩)),
            Fx.of (.pointer (some ⟨ga,801,none⟩)),
            Fx.of (.int .i64 s.t.dp),
            Fx.of (.int .i64 (0-s.t.dp)),
            Fx.of (.slice (some ⟨bp,op,none⟩) 9 cp),
            Fx.of (.int .i64 9),
            Fx.of (.bool (decide (9≤(0-s.t.dp))))]) mixed rfl trivial (fun _ h=>by cases h) ?_ ?_
           · refine ⟨arm,arm,arm,?_,?_,?_,arm,arm,trivial⟩
             · exact Lu
             · exact Wh
             · intro vs X wq K;exact Ls
           intro vs Ye LE AO AL AF AA;have fP:=Ba;replace Ba:=Ba.drew.ay LE ah.nil;replace E:=E.drew.trans (LE.mono OY);obtain ⟨_,e7,k7⟩:=AL.2.2.2.2.2.2.2.1;refine ja (τ:=[(0,_),(1,_),(4,_),(5,_),(6,_),(7,_),(9,_),(88,.bool (decide (9≤(0-s.t.dp))))]) ⟨rfl,rfl,rfl,rfl,rfl,rfl,rfl,congrArg some e7,trivial⟩ ?_;clear AL AF AA LE AO OY e7 k7 fP;exact zt (decide (9≤0-s.t.dp)) ⟨rfl,rfl,rfl,rfl,rfl,rfl,rfl,rfl,trivial⟩ ⟨M22.step E aRz,(by exact Ba),rfl⟩
          ·
           have eB:=(ze Ba.lt);clear Ba;rintro g iW ⟨M22,Ba,hg2⟩;replace E:=E.trans M22;replace HF:=HF.on E;replace Lv:=Lv.step E IV;replace E:=aD (aj [(some ga)]) iW;replace HF:=HF.on E;replace Lv:=Lv.step E IV;replace E:=aD (aj [(some ga)]) iW;refine yh (ι:=Unit) (fun _=>[(0,.pointer (some ⟨ga,0,none⟩)),(1,.pointer (some ⟨8,0,none⟩)),(4,.int .u64 0),(5,.bool false),(6,.int .i64 s.e),(7,.int .u64 0),(9,.int .i64 ((P:Nat):Int))]) (fun _ w'=>Ext (aj [(some ga)]) iW w'∧aB w' ga 229 (yj s.t)∧(True)) ?_ ?_
           ·
            have M25:=aD (aj [(some ga)]) iW;have aRq:=aS (aj [(some ga)]) iW;refine zg rfl (fun h5=>?_) (fun h5=>?_)
            ·
             rw[hg2] at h5;have h5:=of_decide_eq_true h5;have e:P=27:=by rw[hP];exact Ws om
             refine zn ?_;refine zq 9 (.int .i64 ((P:Nat):Int)) rfl ((by rw[e];rfl:(.int .i64 27:Value)=_)) ?_;exact Wi
            ·
             rw[hg2] at h5;have h5:=of_decide_eq_false h5;have OY:∀q9,(aj (oa [])) q9→q9<(World.drew iW).heap.size→(aj [(some ga)]) q9:=fun k h _=>(aj.none_) k h;refine qm (aj [(some ga)]) (aj.grow aj.none_ (ze Ba.lt)) [] [] (fQ [Fx.of (.slice (some ⟨bp,op,none⟩) 9 cp),
              Fx.of (.pointer (some ⟨ga,0,none⟩)),
              Fx.of (.pointer (some ⟨ga,0,none⟩)),
              Fx.of (.pointer (some ⟨ga,801,none⟩)),
              Fx.of (.int .i64 s.t.dp),
              Fx.of (.int .i64 (0-s.t.dp)),
              Fx.of (.pointer (some ⟨bp,op+(-s.t.dp).toNat*1,none⟩)),
              Fx.of (.int .i64 ((pt (-s.t.dp).toNat:Nat):Int)),
              Fx.of (.int .i64 ((pt (-s.t.dp).toNat:Nat):Int))]) mixed rfl trivial (fun _ h=>by cases h) ?_ ?_
             · refine ⟨?_,arm,arm,arm,?_,?_,?_,?_,arm,trivial⟩
               · intro vs X wq K;exact Ls
               · exact Lu
               · exact Wh
               · refine qq ?_;intro vs X wq K;exact jy (j:=(-s.t.dp).toNat) Mh J6 rfl rfl om om ⟨Below.refl _ _,Left.of rfl⟩
               · refine qq ?_;exact am4
             intro vs w27 LE AO AL AF AA;have fP:=Ba;replace Ba:=Ba.drew.ay LE ah.nil;replace E:=E.drew.trans (LE.mono OY);obtain ⟨_,e8,k8⟩:=AL.2.2.2.2.2.2.2.2.1;refine ja (τ:=[(0,_),(1,_),(4,_),(5,_),(6,_),(7,_),(9,.int .i64 ((pt (-s.t.dp).toNat:Nat):Int))]) ⟨rfl,rfl,rfl,rfl,rfl,rfl,congrArg some e8,trivial⟩ ?_;clear AL AF AA LE AO OY e8 k8 fP;refine zq 9 (.int .i64 ((P:Nat):Int)) rfl ((by rw[hP]:(.int .i64 ((pt (-s.t.dp).toNat:Nat):Int):Value)=_)) ?_;exact Wi
           ·
            have eB:=(ze Ba.lt);clear Ba;rintro _ w26 ⟨M25,Ba,_⟩;replace E:=E.trans M25;replace HF:=HF.on E;replace Lv:=Lv.step E IV;replace E:=aD (aj [(some ga)]) w26;refine zx ?_;refine za rfl (zb J8 rfl ((nG _ ga P s.t hP2 hI.dec hsp om Ba (HF.on E).here.1.1.1.2 hg).mono ?_));rintro e w28 ⟨rfl,hB,hE⟩;refine ⟨_,rfl,?_⟩;replace Ba:=hB;clear hB;replace E:=E.step1 hE aj.head;clear hE;refine zu ?_;refine yl ?_;refine zn ?_;exact zo (⟨vk s.t P,s.e-((P:Nat):Int)⟩) (hms) ⟨rfl,rfl,rfl,rfl,rfl,rfl,trivial⟩ ⟨Lv.step E IV,(by exact Ba),hkeep,hu⟩
         ·
          rw[hgg] at h4;have h4:=of_decide_eq_false h4;have hdone:yev s=true:=decide_eq_true h4;rw[yp hdone] at hu;refine zx ?_;exact zt s ⟨rfl,rfl,rfl,rfl,rfl,rfl,trivial⟩ ⟨Wy.step E Wz,(by exact Ba),hu⟩
       ·
        have eB:=(ze Ba.lt);clear Ba;rintro s vX ⟨Wy,Ba,hs2⟩;replace E:=E.trans Wy;replace HF:=HF.on E;replace M1:=M1.step E dz;replace M3:=M3.step E aV;replace E:=aD (aj [(some ga)]) vX;clear hs;obtain ⟨hL1,_⟩:=Vt ht hpos om;rw[←hs2] at hL1 ax7;have hls:=hL1.dec.len;have hsd:=hL1.dp;have hse:=hL1.e;have hsp:=hL1.pos;have hms:0≤((Vs s.t:Nat):Int):=om;have aK0:s.t.neg=t.neg:=by rw[hs2];exact adj ht hpos om
        refine zn ?_;refine yl ?_;refine yu ?_;refine za rfl (vo (z:=(-1022)) rfl rfl kr (zn ?_));replace HF:=HF.on E;replace M1:=M1.step E dz;replace M3:=M3.step E aV;replace E:=aD (aj [(some ga)]) vX;refine yh (ι:=Dec×Int) (fun (t3,e3)=>[(0,.pointer (some ⟨ga,0,none⟩)),(1,.pointer (some ⟨8,0,none⟩)),(4,.int .u64 0),(5,.bool false),(6,.int .i64 e3),(7,.int .u64 0)]) (fun (t3,e3) w'=>Ext (aj [(some ga)]) vX w'∧aB w' ga 229 (yj t3)∧(xC t=(if 1024≤e3 then (0,2047,true) else vcz (vk t3 53) e3)∧aZ t3∧0<t3.nd∧(-11000000≤t3.dp∧t3.dp≤1000000)∧(-1022≤e3∧e3≤90000)∧t3.neg=t.neg)) ?_ ?_
        ·
         have M29:=aD (aj [(some ga)]) vX;have aK1:=aS (aj [(some ga)]) vX;refine zg rfl (fun h4=>?_) (fun h4=>?_)
         ·
          have h4:=of_decide_eq_true h4;have hSh:Qn ⟨s.t,(-1022-(s.e-1)).toNat⟩:=⟨hL1.dec,hsp,by show 1≤(-1022-(s.e-1)).toNat∧(-1022-(s.e-1)).toNat≤300000;omega,by show -10000000+15*(((-1022-(s.e-1)).toNat:Nat):Int)≤s.t.dp∧s.t.dp≤1000000;omega⟩;obtain ⟨hq1,hq2,hq3,hq4⟩:=IC hSh;have hq5:(gT s.t (-1022-(s.e-1)).toNat).neg=t.neg:=by rw[Wu hSh];exact aK0
          have hfe:xC t=vcz (vk (gT s.t (-1022-(s.e-1)).toNat) 53) (-1022):=by rw[ax7];unfold tJ;rw[if_pos om]
          refine zl ?_;refine za rfl (vo (z:=(-1022)) rfl rfl kr (aN ?_));refine yl ?_;refine zp ?_;refine zjk ?_;refine zf 121 (.int .i64 (-(((-1022-(s.e-1)).toNat:Nat):Int))) rfl (by congr 1;omega) (za rfl (zb J8 rfl ((nH _ ga (-1022-(s.e-1)).toNat s.t hSh Ba).mono ?_)));rintro e w31 ⟨rfl,hB,hE⟩;refine ⟨_,rfl,?_⟩;replace Ba:=hB;clear hB;replace E:=E.step1 hE aj.head;clear hE;refine je ?_;refine zq 6 (.int .i64 (-1022)) rfl ((by congr 1;omega:(.int .i64 ((s.e-1)+((-1022)-(s.e-1))):Value)=_)) ?_;exact zt (gT s.t (-1022-(s.e-1)).toNat,-1022) ⟨rfl,rfl,rfl,rfl,rfl,rfl,trivial⟩ ⟨M29.step E aK1,(by exact Ba),by rw[if_neg de];exact hfe,hq1,hq2,⟨hq3,hq4⟩,de,hq5⟩
         ·
          have h4:=of_decide_eq_false h4;have hfe:xC t=(if 1024≤s.e-1 then (0,2047,true) else vcz (vk s.t 53) (s.e-1)):=by rw[ax7];unfold tJ;rw[if_neg om]
          refine aN ?_;exact zt (s.t,s.e-1) ⟨rfl,rfl,rfl,rfl,rfl,rfl,trivial⟩ ⟨M29.step E aK1,(by exact Ba),hfe,hL1.dec,hsp,om,om,aK0⟩
        ·
         have eB:=(ze Ba.lt);clear Ba;rintro ⟨t3,e3⟩ w30 ⟨M29,Ba,⟨gU,ht3,hp3,hd3,he3,hn3⟩⟩;replace E:=E.trans M29;replace HF:=HF.on E;replace M1:=M1.step E dz;replace M3:=M3.step E aV;replace E:=aD (aj [(some ga)]) w30;have hl3:=ht3.len;refine zm ?_;replace HF:=HF.on E;replace M1:=M1.step E dz;replace M3:=M3.step E aV;replace E:=aD (aj [(some ga)]) w30;refine yh (ι:=Bool) (fun g=>[(0,.pointer (some ⟨ga,0,none⟩)),(1,.pointer (some ⟨8,0,none⟩)),(4,.int .u64 0),(5,.bool false),(6,.int .i64 e3),(7,.int .u64 0),(138,.bool g)]) (fun g w'=>Ext (aj [(some ga)]) w30 w'∧aB w' ga 229 (yj t3)∧(g=decide (1024≤e3))) ?_ ?_
         ·
          have M32:=aD (aj [(some ga)]) w30;have aRx:=aS (aj [(some ga)]) w30;have OY:∀q9,(aj (oa [])) q9→q9<(World.drew w30).heap.size→(aj [(some ga)]) q9:=fun k h _=>(aj.none_) k h;refine qm (aj [(some ga)]) (aj.grow aj.none_ (ze Ba.lt)) [] [] (fQ [Fx.of (.int .i64 e3),
           Fx.of (.pointer (some ⟨8,0,none⟩)),
           Fx.of (.pointer (some ⟨8,0,none⟩)),
           Fx.of (.pointer (some ⟨8,2,none⟩)),
           Fx.of (.int .i64 (-1023)),
           Fx.of (.int .i64 (e3-(-1023))),
           Fx.of (.pointer (some ⟨8,0,none⟩)),
           Fx.of (.pointer (some ⟨8,0,none⟩)),
           Fx.of (.pointer (some ⟨8,1,none⟩)),
           Fx.of (.int .u64 11),
           Fx.of (.int .i64 2048),
           Fx.of (.int .i64 2047),
           Fx.of (.bool (decide (1024≤e3)))]) mixed rfl trivial (fun _ h=>by cases h) ?_ ?_
          · exact am5
          intro vs w34 LE AO AL AF AA;have fP:=Ba;replace Ba:=Ba.drew.ay LE ah.nil;replace E:=E.drew.trans (LE.mono OY);obtain ⟨_,e12,k12⟩:=AL.2.2.2.2.2.2.2.2.2.2.2.2.1;refine ja (τ:=[(0,_),(1,_),(4,_),(5,_),(6,_),(7,_),(138,.bool (decide (1024≤e3)))]) ⟨rfl,rfl,rfl,rfl,rfl,rfl,congrArg some e12,trivial⟩ ?_;clear AL AF AA LE AO OY e12 k12 fP;exact zt (decide (1024≤e3)) ⟨rfl,rfl,rfl,rfl,rfl,rfl,rfl,trivial⟩ ⟨M32.step E aRx,(by exact Ba),rfl⟩
         ·
          have eB:=(ze Ba.lt);clear Ba;rintro g w33 ⟨M32,Ba,hgg⟩;replace E:=E.trans M32;replace HF:=HF.on E;replace M1:=M1.step E dz;replace M3:=M3.step E aV;replace E:=aD (aj [(some ga)]) w33;refine zg rfl (fun h4=>?_) (fun h4=>?_)
          ·
           rw[hgg] at h4;have h4:=of_decide_eq_true h4;rw[if_pos h4] at gU;refine zm ?_;exact yuq rfl ax6 t3 ⟨rfl,rfl,trivial⟩ ⟨M3.step E aV,(by exact Ba),gU,hl3,hn3⟩
          ·
           rw[hgg] at h4;have h4:=of_decide_eq_false h4;rw[if_neg h4] at gU;obtain ⟨hq1,hq2,hq3,hq4,_,hq5⟩:=ydv ht3 hp3 (.inr (.inr (.inr (.inr (.inr (.inr (.inr (.inr (.inr (.inr rfl))))))))):yH 53);have hl5:=hq1.len;have hn5:(vk t3 53).neg=t.neg:=hq5.trans hn3;obtain ⟨M,hM⟩:∃M,M=Lf (vk t3 53):=⟨_,rfl⟩;have aJj:M<18446744073709551616:=by rw[hM];exact OQ _
           unfold vcz at gU;rw[←hM] at gU;refine qd ?_;refine za rfl (vo (z:=53) rfl rfl kr (za rfl (jp (z:=53) underlying3 Rh rfl kr (za rfl (zb J8 rfl ((nG _ ga 53 t3 (.inr (.inr (.inr (.inr (.inr (.inr (.inr (.inr (.inr (.inr rfl)))))))))) ht3 hp3 om Ba (HF.on E).here.1.1.1.2 hg).mono ?_))))));rintro e w35 ⟨rfl,hB,hE⟩;refine ⟨_,rfl,?_⟩;replace Ba:=hB;clear hB;replace E:=E.step1 hE aj.head;clear hE;refine zu ?_;refine za rfl (zb aD3 rfl ((xK _ ga (vk t3 53) hq1 om Ba).mono ?_));rintro e w36 ⟨rfl,hb⟩;refine ⟨_,rfl,?_⟩;have Ec:=Ext.of_below hb No;replace Ba:=Ba.ay Ec ah.nil;replace E:=E.trans Ec.no;refine zf 148 (.int .u64 ((M:Nat):Int)) rfl (by rw[hM]<;>rfl) (yu ?_);refine za rfl (gq (z:=9007199254740992) rfl rfl de kr (zn ?_));refine zg rfl (fun h5=>?_) (fun h5=>?_)
           ·
            have h5:M=9007199254740992:=by have h5:=eq_of_beq h5;omega
            rw[if_pos h5] at gU;refine zd 7 (.int .u64 9007199254740992) rfl (by rw[h5];rfl) (zn ?_);refine za rfl (jh (z:=4503599627370496) rfl rfl de kr (zl ?_));refine yo ?_;refine zx ?_;replace HF:=HF.on E;replace M1:=M1.step E dz;replace M3:=M3.step E aV;replace E:=aD (aj [(some ga)]) w36;refine yh (ι:=Bool) (fun g=>[(0,.pointer (some ⟨ga,0,none⟩)),(1,.pointer (some ⟨8,0,none⟩)),(4,.int .u64 0),(5,.bool false),(6,.int .i64 (e3+1)),(7,.int .u64 4503599627370496),(172,.bool g)]) (fun g w'=>Ext (aj [(some ga)]) w36 w'∧aB w' ga 229 (yj (vk t3 53))∧(g=decide (1023≤e3))) ?_ ?_
            ·
             have M37:=aD (aj [(some ga)]) w36;have aRj:=aS (aj [(some ga)]) w36;have OY:∀q9,(aj (oa [])) q9→q9<(World.drew w36).heap.size→(aj [(some ga)]) q9:=fun k h _=>(aj.none_) k h;refine qm (aj [(some ga)]) (aj.grow aj.none_ (ze Ba.lt)) [] [] (fQ [Fx.of (.int .i64 (e3+1)),
              Fx.of (.pointer (some ⟨8,0,none⟩)),
              Fx.of (.pointer (some ⟨8,0,none⟩)),
              Fx.of (.pointer (some ⟨8,2,none⟩)),
              Fx.of (.int .i64 (-1023)),
              Fx.of (.int .i64 ((e3+1)-(-1023))),
              Fx.of (.pointer (some ⟨8,0,none⟩)),
              Fx.of (.pointer (some ⟨8,0,none⟩)),
              Fx.of (.pointer (some ⟨8,1,none⟩)),
              Fx.of (.int .u64 11),
              Fx.of (.int .i64 2048),
              Fx.of (.int .i64 2047),
              Fx.of (.bool (decide (1023≤e3)))]) mixed rfl trivial (fun _ h=>by cases h) ?_ ?_
             · exact am5
             intro vs w39 LE AO AL AF AA;have fP:=Ba;replace Ba:=Ba.drew.ay LE ah.nil;replace E:=E.drew.trans (LE.mono OY);obtain ⟨_,e12,k12⟩:=AL.2.2.2.2.2.2.2.2.2.2.2.2.1;refine ja (τ:=[(0,_),(1,_),(4,_),(5,_),(6,_),(7,_),(172,.bool (decide (1023≤e3)))]) ⟨rfl,rfl,rfl,rfl,rfl,rfl,congrArg some e12,trivial⟩ ?_;clear AL AF AA LE AO OY e12 k12 fP;exact zt (decide (1023≤e3)) ⟨rfl,rfl,rfl,rfl,rfl,rfl,rfl,trivial⟩ ⟨M37.step E aRj,(by exact Ba),rfl⟩
            ·
             have eB:=(ze Ba.lt);clear Ba;rintro g w38 ⟨M37,Ba,hg3⟩;replace E:=E.trans M37;replace HF:=HF.on E;replace M1:=M1.step E dz;replace M3:=M3.step E aV;replace E:=aD (aj [(some ga)]) w38;refine zg rfl (fun h6=>?_) (fun h6=>?_)
             ·
              rw[hg3] at h6;have h6:=of_decide_eq_true h6;rw[if_pos h6] at gU;refine zm ?_;exact yuq rfl ax6 (vk t3 53) ⟨rfl,rfl,trivial⟩ ⟨M3.step E aV,(by exact Ba),gU,hl5,hn5⟩
             ·
              rw[hg3] at h6;have h6:=of_decide_eq_false h6;rw[if_neg h6] at gU;obtain ⟨Kx,hK⟩:∃Kx,Kx=(e3+1+1023).toNat:=⟨_,rfl⟩;rw[←hK] at gU;refine zx ?_;refine zd 7 (.int .u64 ((4503599627370496:Nat):Int)) rfl (rfl) (zl ?_);refine qdk ?_;refine za rfl (gf rfl rfl (Wt (m:=4503599627370496) de) (zn ?_));refine zd 180 (.bool false) rfl (by rw[vm (by decide +kernel)]<;>rfl) (zl ?_);refine zq 6 (.int .i64 (((Kx:Nat):Int)-1023)) rfl ((by congr 1;omega:(.int .i64 (e3+1):Value)=_)) ?_;exact yuq rfl ax3 (4503599627370496,Kx,false,vk t3 53) ⟨rfl,rfl,rfl,rfl,rfl,trivial⟩ ⟨M1.step E dz,(by exact Ba),gU,de,om,hl5,hn5⟩
           ·
            have h5:¬M=9007199254740992:=fun e=>absurd h5 (by rw[e];decide);rw[if_neg h5] at gU;refine zz ?_;refine qdk ?_;refine za rfl (gf rfl rfl (Wt aJj) (zn ?_));refine zg rfl (fun h6=>?_) (fun h6=>?_)
            ·
             have h6:M &&& 4503599627370496=0:=by have h6:=eq_of_beq h6;omega
             rw[if_pos h6] at gU;obtain ⟨Kx,hK⟩:∃Kx:Nat,Kx=0:=⟨_,rfl⟩;rw[←hK] at gU;refine yu ?_;refine zq 6 (.int .i64 (((Kx:Nat):Int)-1023)) rfl ((by rw[hK];rfl:(.int .i64 (-1023):Value)=_)) ?_;exact Wo
            ·
             have h6:¬M &&& 4503599627370496=0:=fun e=>absurd h6 (by rw[e];decide);rw[if_neg h6] at gU;obtain ⟨Kx,hK⟩:∃Kx,Kx=(e3+1023).toNat:=⟨_,rfl⟩;rw[←hK] at gU;refine zu ?_;refine zq 6 (.int .i64 (((Kx:Nat):Int)-1023)) rfl ((by congr 1;omega:(.int .i64 e3:Value)=_)) ?_;exact Wo
  ·
   have eB:=(ze Ba.lt);clear Ba;rintro u w4 ⟨M3,Ba,⟨gU,hl5,hn5⟩⟩;replace E:=E.trans M3;replace HF:=HF.on E;replace LW:=LW.step E ak;replace E:=aD (aj [(some ga)]) w4;refine qd ?_;have OY:∀q9,(aj (oa [])) q9→q9<(World.drew w4).heap.size→(aj [(some ga)]) q9:=fun k h _=>(aj.none_) k h;refine qm (aj [(some ga)]) (aj.grow aj.none_ (ze Ba.lt)) [] [] (fQ [Fx.of (.pointer (some ⟨8,0,none⟩)),
    Fx.of (.pointer (some ⟨8,0,none⟩)),
    Fx.of (.pointer (some ⟨8,1,none⟩)),
    Fx.of (.int .u64 11),
    Fx.of (.int .i64 2048),
    Fx.of (.int .i64 2047),
    Fx.of (.pointer (some ⟨8,0,none⟩)),
    Fx.of (.pointer (some ⟨8,0,none⟩)),
    Fx.of (.pointer (some ⟨8,2,none⟩)),
    Fx.of (.int .i64 (-1023)),
    Fx.of (.int .i64 1024),
    Fx.of (.int .i64 1024)]) mixed rfl trivial (fun _ h=>by cases h) ?_ ?_
   · refine ⟨arm,arm,arm,arm,?_,?_,arm,arm,arm,arm,?_,arm,trivial⟩
     · exact Wq
     · exact Lr
     · refine qq ?_;intro vs X wq K;exact vo (z:=1024) rfl rfl kr ⟨Below.refl _ _,Left.of rfl⟩
   intro vs w40 LE AO AL AF AA;have fP:=Ba;replace Ba:=Ba.drew.ay LE ah.nil;replace E:=E.drew.trans (LE.mono OY);obtain ⟨_,e11,k11⟩:=AL.2.2.2.2.2.2.2.2.2.2.2.1;refine ja (τ:=[(0,_),(1,_),(6,.int .i64 1024),(7,_)]) ⟨rfl,rfl,congrArg some e11,rfl,trivial⟩ ?_;clear AL AF AA LE AO OY e11 k11 fP;refine zp ?_;refine zA (yi ?_);refine qdk ?_;refine za rfl (jg (z:=4503599627370495) rfl rfl kr (qdx ?_));refine zx ?_;have OY:∀q9,(aj (oa [])) q9→q9<(World.drew w40).heap.size→(aj [(some ga)]) q9:=fun k h _=>(aj.none_) k h;refine qm (aj [(some ga)]) (aj.grow aj.none_ (ze Ba.lt)) [] [] (fQ [Fx.of (.int .u64 0),
    Fx.of (.int .i64 1024),
    Fx.of (.pointer (some ⟨8,0,none⟩)),
    Fx.of (.pointer (some ⟨8,0,none⟩)),
    Fx.of (.pointer (some ⟨8,2,none⟩)),
    Fx.of (.int .i64 (-1023)),
    Fx.of (.int .i64 2047),
    Fx.of (.pointer (some ⟨8,0,none⟩)),
    Fx.of (.pointer (some ⟨8,0,none⟩)),
    Fx.of (.pointer (some ⟨8,1,none⟩)),
    Fx.of (.int .u64 11),
    Fx.of (.int .i64 2048),
    Fx.of (.int .i64 2047),
    Fx.of (.int .i64 2047),
    Fx.of (.int .u64 2047),
    Fx.of (.pointer (some ⟨8,0,none⟩)),
    Fx.of (.pointer (some ⟨8,0,none⟩)),
    Fx.of (.pointer (some ⟨8,0,none⟩)),
    Fx.of (.int .u64 52),
    Fx.of (.int .u64 9218868437227405312),
    Fx.of (.int .u64 9218868437227405312),
    Fx.of (.int .u64 9218868437227405312)]) mixed rfl trivial (fun _ h=>by cases h) ?_ ?_
   · refine ⟨arm,arm,arm,arm,arm,arm,?_,arm,arm,arm,arm,?_,?_,?_,?_,arm,arm,arm,arm,?_,?_,arm,trivial⟩
     · exact Lr
     · exact Wq
     · exact Lr
     · refine qq ?_;intro vs X wq K;exact gf (z:=2047) rfl rfl kr ⟨Below.refl _ _,Left.of rfl⟩
     · refine qq ?_;intro vs X wq K;exact jp (z:=2047) u25 underlying3 rfl kr ⟨Below.refl _ _,Left.of rfl⟩
     · refine qq ?_;intro vs X wq K;exact gq (z:=9218868437227405312) rfl rfl de kr ⟨Below.refl _ _,Left.of rfl⟩
     · refine qq ?_;intro vs X wq K;exact qO (z:=9218868437227405312) rfl rfl kr ⟨Below.refl _ _,Left.of rfl⟩
   intro vs w41 LE AO AL AF AA;have fP:=Ba;replace Ba:=Ba.drew.ay LE ah.nil;replace E:=E.drew.trans (LE.mono OY);obtain ⟨_,e21,k21⟩:=AL.2.2.2.2.2.2.2.2.2.2.2.2.2.2.2.2.2.2.2.2.2.1;refine ja (τ:=[(0,_),(1,_),(5,_),(11,.int .u64 9218868437227405312)]) ⟨rfl,rfl,rfl,congrArg some e21,trivial⟩ ?_;clear AL AF AA LE AO OY e21 k21 fP;refine zp ?_;refine za rfl (ye u4 rfl rfl Ba (aJ9 hl5 t.neg hn5) (zm ?_));refine zg rfl (fun hng=>?_) (fun hng=>?_)
   ·
    have OY:∀q9,(aj (oa [])) q9→q9<(World.drew w41).heap.size→(aj [(some ga)]) q9:=fun k h _=>(aj.none_) k h;refine qm (aj [(some ga)]) (aj.grow aj.none_ (ze Ba.lt)) [] [] (fQ [Fx.of (.int .u64 9218868437227405312),
     Fx.of (.pointer (some ⟨8,0,none⟩)),
     Fx.of (.pointer (some ⟨8,0,none⟩)),
     Fx.of (.pointer (some ⟨8,0,none⟩)),
     Fx.of (.int .u64 52),
     Fx.of (.int .u64 4503599627370496),
     Fx.of (.pointer (some ⟨8,0,none⟩)),
     Fx.of (.pointer (some ⟨8,0,none⟩)),
     Fx.of (.pointer (some ⟨8,1,none⟩)),
     Fx.of (.int .u64 11),
     Fx.of (.int .u64 9223372036854775808),
     Fx.of (.int .u64 18442240474082181120),
     Fx.of (.int .u64 18442240474082181120)]) mixed rfl trivial (fun _ h=>by cases h) ?_ ?_
    · refine ⟨arm,arm,arm,arm,arm,?_,arm,arm,arm,arm,?_,?_,arm,trivial⟩
      · exact Wm
      · exact Wn
      · refine qq ?_;intro vs X wq K;exact qO (z:=18442240474082181120) rfl rfl kr ⟨Below.refl _ _,Left.of rfl⟩
    intro vs w42 LE AO AL AF AA;have fP:=Ba;replace Ba:=Ba.drew.ay LE ah.nil;replace E:=E.drew.trans (LE.mono OY);obtain ⟨_,e12,k12⟩:=AL.2.2.2.2.2.2.2.2.2.2.2.2.1;refine ja (τ:=[(5,_),(11,.int .u64 18442240474082181120)]) ⟨rfl,congrArg some e12,trivial⟩ ?_;clear AL AF AA LE AO OY e12 k12 fP;refine zz ?_;refine oe ?_;have e:Lg t=18442240474082181120:=by unfold Lg;rw[gU,hng];decide +kernel
    exact Lp
   ·
    refine yu ?_;refine oe ?_;have e:Lg t=9218868437227405312:=by unfold Lg;rw[gU,hng];decide +kernel
    exact Lp
 ·
  have eB:=(ze Ba.lt);clear Ba;rintro ⟨m,k,ov,u⟩ w2 ⟨M1,Ba,⟨gU,hmm,hee,hl5,hn5⟩⟩;replace E:=E.trans M1;replace HF:=HF.on E;replace LW:=LW.step E ak;replace E:=aD (aj [(some ga)]) w2;refine zz ?_;refine qdk ?_;refine za rfl (jg (z:=4503599627370495) rfl rfl kr (za rfl (gf rfl rfl (ax5 hmm) (zx ?_))));have OY:∀q9,(aj (oa [])) q9→q9<(World.drew w2).heap.size→(aj [(some ga)]) q9:=fun k h _=>(aj.none_) k h;refine qm (aj [(some ga)]) (aj.grow aj.none_ (ze Ba.lt)) [] [] (fQ [Fx.of (.int .u64 ((m &&& 4503599627370495:Nat):Int)),
   Fx.of (.int .i64 (((k:Nat):Int)-1023)),
   Fx.of (.pointer (some ⟨8,0,none⟩)),
   Fx.of (.pointer (some ⟨8,0,none⟩)),
   Fx.of (.pointer (some ⟨8,2,none⟩)),
   Fx.of (.int .i64 (-1023)),
   Fx.of (.int .i64 ((k:Nat):Int)),
   Fx.of (.pointer (some ⟨8,0,none⟩)),
   Fx.of (.pointer (some ⟨8,0,none⟩)),
   Fx.of (.pointer (some ⟨8,1,none⟩)),
   Fx.of (.int .u64 11),
   Fx.of (.int .i64 2048),
   Fx.of (.int .i64 2047),
   Fx.of (.int .i64 ((k:Nat):Int)),
   Fx.of (.int .u64 ((k:Nat):Int)),
   Fx.of (.pointer (some ⟨8,0,none⟩)),
   Fx.of (.pointer (some ⟨8,0,none⟩)),
   Fx.of (.pointer (some ⟨8,0,none⟩)),
   Fx.of (.int .u64 52),
   Fx.of (.int .u64 ((k*4503599627370496:Nat):Int)),
   Fx.of (.int .u64 ((IU m k:Nat):Int)),
   Fx.of (.int .u64 ((IU m k:Nat):Int))]) mixed rfl trivial (fun _ h=>by cases h) ?_ ?_
  · refine ⟨arm,arm,arm,arm,arm,arm,?_,arm,arm,arm,arm,?_,?_,?_,?_,arm,arm,arm,arm,?_,?_,arm,trivial⟩
    · refine qq ?_;intro vs X wq K;exact jg rfl rfl (yx om) ⟨Below.refl _ _,Left.of ((by congr 1;omega:(.int .i64 ((((k:Nat):Int)-1023)-(-1023)):Value)=_))⟩
    · exact Wq
    · exact Lr
    · refine qq ?_;intro vs X wq K;exact gf rfl rfl (O5 hee) ⟨Below.refl _ _,Left.of rfl⟩
    · refine qq ?_;intro vs X wq K;exact jp u25 underlying3 rfl (wrap_u64 om) ⟨Below.refl _ _,Left.of rfl⟩
    · refine qq ?_;intro vs X wq K;exact gq rfl rfl de (ax4 hee) ⟨Below.refl _ _,Left.of rfl⟩
    · refine qq ?_;intro vs X wq K;exact qO rfl rfl (Wv hee) ⟨Below.refl _ _,Left.of rfl⟩
  intro vs w43 LE AO AL AF AA;have fP:=Ba;replace Ba:=Ba.drew.ay LE ah.nil;replace E:=E.drew.trans (LE.mono OY);obtain ⟨_,e21,k21⟩:=AL.2.2.2.2.2.2.2.2.2.2.2.2.2.2.2.2.2.2.2.2.2.1;refine ja (τ:=[(0,_),(1,_),(5,_),(11,.int .u64 ((IU m k:Nat):Int))]) ⟨rfl,rfl,rfl,congrArg some e21,trivial⟩ ?_;clear AL AF AA LE AO OY e21 k21 fP;refine zp ?_;refine za rfl (ye u4 rfl rfl Ba (aJ9 hl5 t.neg hn5) (zm ?_));refine zg rfl (fun hng=>?_) (fun hng=>?_)
  ·
   have OY:∀q9,(aj (oa [])) q9→q9<(World.drew w43).heap.size→(aj [(some ga)]) q9:=fun k h _=>(aj.none_) k h;refine qm (aj [(some ga)]) (aj.grow aj.none_ (ze Ba.lt)) [] [] (fQ [Fx.of (.int .u64 ((IU m k:Nat):Int)),
    Fx.of (.pointer (some ⟨8,0,none⟩)),
    Fx.of (.pointer (some ⟨8,0,none⟩)),
    Fx.of (.pointer (some ⟨8,0,none⟩)),
    Fx.of (.int .u64 52),
    Fx.of (.int .u64 4503599627370496),
    Fx.of (.pointer (some ⟨8,0,none⟩)),
    Fx.of (.pointer (some ⟨8,0,none⟩)),
    Fx.of (.pointer (some ⟨8,1,none⟩)),
    Fx.of (.int .u64 11),
    Fx.of (.int .u64 9223372036854775808),
    Fx.of (.int .u64 ((IU m k ||| 9223372036854775808:Nat):Int)),
    Fx.of (.int .u64 ((IU m k ||| 9223372036854775808:Nat):Int))]) mixed rfl trivial (fun _ h=>by cases h) ?_ ?_
   · refine ⟨arm,arm,arm,arm,arm,?_,arm,arm,arm,arm,?_,?_,arm,trivial⟩
     · exact Wm
     · exact Wn
     · refine qq ?_;intro vs X wq K;exact qO rfl rfl (O6 hee) ⟨Below.refl _ _,Left.of rfl⟩
   intro vs w44 LE AO AL AF AA;have fP:=Ba;replace Ba:=Ba.drew.ay LE ah.nil;replace E:=E.drew.trans (LE.mono OY);obtain ⟨_,e12,k12⟩:=AL.2.2.2.2.2.2.2.2.2.2.2.2.1;refine ja (τ:=[(5,_),(11,.int .u64 ((IU m k ||| 9223372036854775808:Nat):Int))]) ⟨rfl,congrArg some e12,trivial⟩ ?_;clear AL AF AA LE AO OY e12 k12 fP;refine zz ?_;refine oe ?_;have e:Lg t=IU m k ||| 9223372036854775808:=by unfold Lg tH IU;rw[gU,if_pos hng]
   exact Lp
  ·
   refine yu ?_;refine oe ?_;have e:Lg t=IU m k:=by unfold Lg tH IU;rw[gU,if_neg (by rw[hng];decide)]
   exact Lp
end
end Go.Proofs.YtmnmebdmpigddaaGreatDoor
namespace Go.Proofs.YtmnmebdmpigddaaGreatDoor
open Go.RowKit Proofs.Tryz
theorem Dx {P Q:Prop} (k:Q) (h:(Unit→Q)→P:=by
 intro zK;refine zm ?_;refine bO rfl (yn (j:=k) (b:=aJ s (k)) u9 rfl rfl rfl (qh om) ?_);exact zK ()):P:=h fun _=>k
theorem Dy {P Q:Prop} (k:Q) (h:(Unit→Q)→P:=by
 intro zK;refine zm ?_;refine bO rfl (yn (j:=y.i) (b:=aJ s (y.i)) u9 rfl rfl rfl (qh om) ?_);exact zK ()):P:=h fun _=>k
theorem Dz {P Q:Prop} (k:Q) (h:(Unit→Q)→P:=by
 intro zK;refine za rfl (ye underlying3 rfl rfl Ba (yJ hlx (x.t.nd) rfl) (zm ?_));refine zk (qr J6 rfl rfl Ba rfl rfl (yK hlx (by decide:801<804)) (qrv hlx (x.t.nd:Int)) ?_);exact zK ()):P:=h fun _=>k
theorem DC {P Q:Prop} (k:Q) (h:(Unit→Q)→P:=by
 intro zK;refine ja (τ:=[(0,_),(1,_),(4,_),(5,_),(6,_),(7,_),(99,.int .u8 ((aJ s x.i:Nat):Int)),(102,.pointer (some ⟨ga,x.t.nd,none⟩))]) ⟨rfl,rfl,rfl,rfl,rfl,rfl,congrArg some e7,congrArg some e10,trivial⟩ ?_;exact zK ()):P:=h fun _=>k
theorem nI {P Q:Prop} (k:Q) (h:(Unit→Q)→P:=by
 intro zK;refine zm ?_;refine bO rfl (yn (j:=x.i) (b:=aJ s (x.i)) u9 rfl rfl rfl (qh om) ?_);exact zK ()):P:=h fun _=>k
theorem DF {P Q:Prop} (k:Q) (h:(Unit→Q)→P:=by
 intro zK;refine zl ?_;refine za rfl (ye underlying3 rfl rfl Ba (yJ vL (x.t.nd) rfl) (yo ?_));refine zm ?_;refine zf 107 (.int .i64 ((x.t.nd+1:Nat):Int)) rfl (rfl) (zk (qr J6 rfl rfl Ba rfl rfl (yK vL (by decide:800<804)) (mD vL (x.t.nd+1)) ?_));exact zK ()):P:=h fun _=>k
theorem zkk {P Q:Prop} (k:Q) (h:(Unit→Q)→P:=by
 intro zK;refine za rfl (yn (j:=x.i) (b:=aJ s (x.i)) u9 rfl rfl rfl (qh om) ?_);exact zK ()):P:=h fun _=>k
theorem WA {P:Prop} (h:P:=by
 exact zt () ⟨rfl,rfl,rfl,rfl,trivial⟩ ⟨M3.step E aV,(by exact Ba),trivial⟩):P:=h
theorem WB {P:Prop} (h:P:=by
 exact zt x ⟨rfl,rfl,rfl,rfl,rfl,rfl,trivial⟩ ⟨M6.step E mW,(by exact Ba),hu⟩):P:=h
theorem am6 {P:Prop} (h:P:=by
 refine ⟨arm,arm,arm,arm,?_,arm,arm,?_,arm,arm,?_,trivial⟩
 · refine qq ?_;intro vs X wq K;have LE:=K.1;exact ye underlying3 rfl rfl (Ba.drew.ay LE ah.nil) (yJ hlx x.t.nd rfl) ⟨Below.refl _ _,Left.of rfl⟩
 · refine qq ?_;intro vs X wq K;exact yn (j:=x.i) (b:=aJ s x.i) u9 rfl rfl rfl (qh om) ⟨Below.refl _ _,Left.of rfl⟩
 · refine qq ?_;intro vs X wq K;exact vc (j:=x.t.nd) gF iL rfl rfl rfl om ⟨Below.refl _ _,Left.of rfl⟩):P:=h
theorem am7 {P:Prop} (h:P:=by
 replace E:=E.step1 Ea aj.head;refine zn ?_;refine qa rfl (zu ?_);refine za rfl (vo rfl rfl (yx om) (zm ?_));refine zq 5 (.int .i64 ((x.i+1:Nat):Int)) rfl (rfl) ?_;exact zo ({ x with i:=x.i+1,bR:=true,t:={ x.t with tr:=true } }) (by show Z-(x.i+1)<Z-x.i;omega) ⟨rfl,rfl,rfl,rfl,rfl,rfl,trivial⟩ ⟨M8.step E lJ,(by exact Ba),hkeep,hu2⟩):P:=h
theorem am8 {P:Prop} (h:P:=by
 replace E:=E.step1 Ea aj.head;refine zn ?_;refine qa rfl (zu ?_);refine za rfl (vo rfl rfl (yx om) (zm ?_));refine zq 5 (.int .i64 ((x.i+1:Nat):Int)) rfl (rfl) ?_;exact zo ({ x with i:=x.i+1,bR:=true,t:={ x.t with d:=x.t.d.set x.t.nd (aJ s x.i),nd:=x.t.nd+1 } }) (by show Z-(x.i+1)<Z-x.i;omega) ⟨rfl,rfl,rfl,rfl,rfl,rfl,trivial⟩ ⟨M8.step E lJ,(by exact Ba),hkeep,hu2⟩):P:=h
theorem am9 {P:Prop} (h:P:=by
 have h6:aJ s x.i=48:=by
  rcases Nat.decEq (aJ s x.i) 48 with h7 | h7
  · rw[bne_iff_ne.2 om] at h6;cases h6
  · exact h7
 rw[if_neg (fun h=>h h6)] at hst;rw[hst] at hkeep hu2;refine zn ?_;refine qa rfl (zu ?_);refine za rfl (vo rfl rfl (yx om) (zm ?_));refine zq 5 (.int .i64 ((x.i+1:Nat):Int)) rfl (rfl) ?_;exact zo ({ x with i:=x.i+1,bR:=true,t:={ x.t with tr:=x.t.tr } }) (by show Z-(x.i+1)<Z-x.i;omega) ⟨rfl,rfl,rfl,rfl,rfl,rfl,trivial⟩ ⟨M8.step E lJ,(by exact Ba),hkeep,hu2⟩):P:=h
attribute [local irreducible] OW RS CW EW
theorem amq {s:ByteArray} {a:Lh} (h1:aJ s a.i≠46) (h2:¬(aJ s a.i=48∧a.t.nd=0)) (h3:a.t.nd<800):xa s a= { a with i:=a.i+1,bR:=true,t:={ a.t with d:=a.t.d.set a.t.nd (aJ s a.i),nd:=a.t.nd+1 } }:=by
 unfold xa;rw[if_neg h1,if_neg h2,if_pos h3]
theorem WC {s:ByteArray} {a:Lh} (h1:aJ s a.i≠46) (h2:¬(aJ s a.i=48∧a.t.nd=0)) (h3:¬a.t.nd<800):xa s a= { a with i:=a.i+1,bR:=true,t:={ a.t with tr:=if aJ s a.i≠48 then true else a.t.tr } }:=by
 unfold xa;rw[if_neg h1,if_neg h2,if_neg h3]
theorem ae0:Gives 180 #[.int .u8 101] (.int .u8 101):=by
 exact alz
section
variable (w:World)
theorem ae1 (ga:Nat) (s:ByteArray) (f:Nat) (neg:Bool) {p Z q:Nat} (hsg:eu s f neg) (hs:Nm s f p Z q) (hl:s.size<100000) (hB:aB w ga 229 (yj (xE false))) :
 Calls prog 222 #[.pointer (some ⟨ga,0,none⟩),.string s] w fun e w'=>e= .returned (.bool true)∧aB w' ga 229 (yj (fO s f neg))∧Ext (aj [some ga]) w w':=by
 have hfs:f<s.size:=hs.size;have hfd:=hs.first;have hl0:(xE false).d.length=800:=(Li false).len;refine zc func222 rfl ntmps222 rfl ?_;have Ba:=hB;have LW:=aD (aj [(some ga)]) w;have ak:=aS (aj [(some ga)]) w;have E:=aD (aj [(some ga)]) w;refine kz ?_;refine zk (qr Ri rfl rfl Ba rfl rfl (yK hl0 (by decide:802<804)) (K6 hl0 false) ?_);intro w1 Bx Ea;replace Ba:aB w1 ga 229 (yj (xE false)):=Bx;replace E:=E.step1 Ea aj.head;refine zp ?_;refine zk (qr Ri rfl rfl Ba rfl rfl (yK hl0 (by decide:803<804)) (Ip hl0 false) ?_);intro w2 Bx Ea;replace Ba:aB w2 ga 229 (yj (xE false)):=Bx;replace E:=E.step1 Ea aj.head;refine zp ?_;refine zy ?_;refine zn ?_;refine zd 19 (.bool false) rfl (by rw[decide_eq_false om]<;>rfl) (yi ?_);refine qfx ?_;refine zm ?_;replace LW:=LW.step E ak;replace E:=aD (aj [(some ga)]) w2;refine yh (ι:=Unit) (fun _=>[(0,.pointer (some ⟨ga,0,none⟩)),(1,.string s),(4,.bool false),(5,.int .i64 ((f:Nat):Int))]) (fun _ w'=>Ext (aj [(some ga)]) w2 w'∧aB w' ga 229 (yj (xE neg))∧(True)) ?_ ?_
 ·
  have M3:=aD (aj [(some ga)]) w2;have aV:=aS (aj [(some ga)]) w2;refine zp ?_;by_cases hneg:neg=true
  ·
   obtain ⟨hf1,h45⟩:=hsg.neg hneg;refine zd 23 (.bool false) rfl (by rw[h45];rfl) (zp ?_);refine zd 27 (.bool true) rfl (by rw[h45];rfl) (zx ?_);refine za rfl (vo (z:=1) rfl rfl kr (zp ?_));refine zk (qr Ri rfl rfl Ba rfl rfl (yK hl0 (by decide:802<804)) (K6 hl0 true) ?_);intro w5 Bx Ea;replace Ba:aB w5 ga 229 (yj (xE true)):=Bx;replace E:=E.step1 Ea aj.head;refine zm ?_;refine zq 5 (.int .i64 ((f:Nat):Int)) rfl ((by rw[hf1];rfl:(.int .i64 1:Value)=_)) ?_;replace Ba:aB w5 ga 229 (yj (xE neg)):=by rw[hneg];exact Ba
   exact WA
  ·
   have hf0:=hsg.pos hneg;rw[hf0] at hfd;refine zd 23 (.bool false) rfl (by rw[vm om]<;>rfl) (zp ?_);refine zd 27 (.bool false) rfl (by rw[vm om]<;>rfl) (zn ?_);refine zq 5 (.int .i64 ((f:Nat):Int)) rfl ((by rw[hf0];rfl:(.int .i64 0:Value)=_)) ?_;replace Ba:aB w2 ga 229 (yj (xE neg)):=by rw[Bool.eq_false_iff.2 hneg];exact Ba
   exact WA
 ·
  have eB:=(ze Ba.lt);clear Ba;rintro _ w4 ⟨M3,Ba,_⟩;replace E:=E.trans M3;replace LW:=LW.step E ak;replace E:=aD (aj [(some ga)]) w4;refine yu ?_;replace LW:=LW.step E ak;replace E:=aD (aj [(some ga)]) w4;refine yh (ι:=Lh) (fun x=>[(0,.pointer (some ⟨ga,0,none⟩)),(1,.string s),(4,.bool false),(5,.int .i64 (x.i:Int)),(6,.bool x.dot),(7,.bool x.bR)]) (fun x w'=>Ext (aj [(some ga)]) w4 w'∧aB w' ga 229 (yj x.t)∧(x=stA s f neg)) ?_ ?_
  ·
   have M6:=aD (aj [(some ga)]) w4;have mW:=aS (aj [(some ga)]) w4;refine aN ?_;replace M6:=M6.step E mW;replace E:=aD (aj [(some ga)]) w4;refine yw (ι:=Lh) (fun x=>[(0,.pointer (some ⟨ga,0,none⟩)),(1,.string s),(4,.bool false),(5,.int .i64 (x.i:Int)),(6,.bool x.dot),(7,.bool x.bR)]) (fun x w'=>Ext (aj [(some ga)]) w4 w'∧aB w' ga 229 (yj x.t)∧(StN s f p Z q x∧qk (OU s) (xa s) x=stA s f neg)) (fun x=>Z-x.i) (⟨f,false,false,xE neg⟩) ⟨rfl,rfl,rfl,rfl,rfl,rfl,trivial⟩ ⟨Ext.refl _ _,(by exact Ba),qrq neg hs,rfl⟩ ?_;have eB:=(ze Ba.lt);clear Ba;rintro x w9 ⟨M8,Ba,⟨hI,hu⟩⟩;have lJ:eD (aj [(some ga)]) (aj [(some ga)]) w4:=(aj.grow aj.none_ (fun k e=>Or.inl (aj.head k e)));replace E:=E.trans M8;replace M6:=M6.step E mW;replace E:=aD (aj [(some ga)]) w9;have hlx:=hI.dec.len;have hnx:=hI.dec.hn;have hsE:=hs.hE;have hiE:=hI.iE;have hfi:=hI.fi;have hpp:=hI.hp;refine zu ?_;refine zy ?_;refine zn ?_;refine zg rfl (fun h1=>?_) (fun h1=>?_)
   ·
    have h1:x.i<s.size:=by have h1:=of_decide_eq_true h1;omega
    refine zz ?_;refine zkk ?_;by_cases hE2:x.i<Z
    ·
     have hdone:=Dj hs hI hE2;have hkeep:=(qrk hs hI hdone).1;have hu2:=hu;rw[qp hdone] at hu2;have hc:=hs.at_ hfi hE2;have hb:=Iy s x.i;refine zx ?_;refine zd 40 (.bool false) rfl (by rw[vm om]<;>rfl) (zu ?_);refine zkk ?_;refine zx ?_;by_cases iF:aJ s x.i=46
     ·
      have hstep:xa s x= { x with i:=x.i+1,dot:=true,t:={ x.t with dp:=(x.t.nd:Int) } }:=by unfold xa;rw[if_pos iF]
      have IG:x.dot=false:=by
       rcases hc with ⟨_,h3⟩ | ⟨h3,_⟩
       · omega
       · cases h4:x.dot with
         | false=>rfl
         | true=>have:=hI.dt h4;omega
      rw[hstep] at hkeep hu2;refine zd 45 (.bool true) rfl (by rw[iF];rfl) (zp ?_);refine zd 50 (.bool false) rfl (by rw[IG]<;>rfl) (jm ?_);refine Dz ?_;intro dH Bx Ea;replace Ba:aB dH ga 229 (yj { x.t with dp:=(x.t.nd:Int) }):=Bx;replace E:=E.step1 Ea aj.head;refine zn ?_;refine qa rfl (je ?_);refine zq 5 (.int .i64 ((x.i+1:Nat):Int)) rfl (rfl) ?_;exact zo ({ x with i:=x.i+1,dot:=true,t:={ x.t with dp:=(x.t.nd:Int) } }) (by show Z-(x.i+1)<Z-x.i;omega) ⟨rfl,rfl,rfl,rfl,rfl,rfl,trivial⟩ ⟨M8.step E lJ,(by exact Ba),hkeep,hu2⟩
     ·
      have hc:48≤aJ s x.i∧aJ s x.i≤57:=om;refine zd 45 (.bool false) rfl (by rw[vm om]<;>rfl) (zu ?_);refine zkk ?_;refine zm ?_;refine zf 63 (.bool true) rfl (by rw[decide_eq_true om]<;>rfl) (nI ?_);refine zu ?_;refine zd 58 (.bool true) rfl (by rw[decide_eq_true om]<;>rfl) (yu ?_);refine zkk ?_;refine zm ?_;refine zj 73 rfl (fun h3=>?_) (fun h3=>?_)
      ·
       have h3:aJ s x.i=48:=by have h3:=eq_of_beq h3;omega
       refine zn ?_;refine bO rfl (ye underlying3 rfl rfl Ba (yJ hlx (x.t.nd) rfl) (zx ?_));refine zg rfl (fun h4=>?_) (fun h4=>?_)
       ·
        have h4:x.t.nd=0:=by have h4:=eq_of_beq h4;omega
        have hstep:xa s x= { x with i:=x.i+1,bR:=true,t:={ x.t with dp:=x.t.dp-1 } }:=by unfold xa;rw[if_neg iF,if_pos ⟨h3,h4⟩]
        rw[hstep] at hkeep hu2;refine zu ?_;refine za rfl (ye underlying3 rfl rfl Ba (xJ hlx x.t.dp rfl) (yl ?_));refine zm ?_;refine zk (qr J6 rfl rfl Ba rfl rfl (yK hlx (by decide:801<804)) (qrv hlx (x.t.dp-1)) ?_);intro dQ Bx Ea;replace Ba:aB dQ ga 229 (yj { x.t with dp:=x.t.dp-1 }):=Bx;replace E:=E.step1 Ea aj.head;refine zx ?_;refine qa rfl (je ?_);refine zq 5 (.int .i64 ((x.i+1:Nat):Int)) rfl (rfl) ?_;exact zo ({ x with i:=x.i+1,bR:=true,t:={ x.t with dp:=x.t.dp-1 } }) (by show Z-(x.i+1)<Z-x.i;omega) ⟨rfl,rfl,rfl,rfl,rfl,rfl,trivial⟩ ⟨M8.step E lJ,(by exact Ba),hkeep,hu2⟩
       ·
        have hnz:¬(aJ s x.i=48∧x.t.nd=0):=fun h=>absurd h4 (by rw[h.2];decide);refine yi ?_;refine za rfl (ye underlying3 rfl rfl Ba (yJ hlx (x.t.nd) rfl) (zn ?_));refine zg rfl (fun h5=>?_) (fun h5=>?_)
        ·
         have h5:x.t.nd<800:=by have h5:=of_decide_eq_true h5;omega
         have hst:=amq iF hnz h5;have ax8:(x.t.d.set x.t.nd (aJ s x.i)).length=800:=by rw[List.length_set];exact hlx
         have vL:({ x.t with d:=x.t.d.set x.t.nd (aJ s x.i) }:Dec).d.length=800:=ax8;rw[hst] at hkeep hu2;refine aN ?_;have OY:∀q9,(aj (oa [])) q9→q9<(World.drew w9).heap.size→(aj [(some ga)]) q9:=fun k h _=>(aj.none_) k h;refine QZ mixed (Q5 11 rfl ?_);refine yZ (aj [(some ga)]) (aj.grow aj.none_ (ze Ba.lt)) [] [] (fQ [Fx.of (.pointer (some ⟨ga,0,none⟩)),
          Fx.of (.pointer (some ⟨ga,0,none⟩)),
          Fx.of (.pointer (some ⟨ga,0,none⟩)),
          Fx.of (.pointer (some ⟨ga,800,none⟩)),
          Fx.of (.int .i64 (x.t.nd:Int)),
          Fx.of (.string s),
          Fx.of (.int .i64 (x.i:Int)),
          Fx.of (.int .u8 ((aJ s x.i:Nat):Int)),
          Fx.of (.pointer (some ⟨ga,0,none⟩)),
          Fx.of (.pointer (some ⟨ga,0,none⟩)),
          Fx.of (.pointer (some ⟨ga,x.t.nd,none⟩))]) rfl trivial (fun _ h=>by cases h) ?_ ?_
         · exact am6
         intro vs eG LE AO AL AF AA;have fP:=Ba;replace Ba:=Ba.drew.ay LE ah.nil;replace E:=E.drew.trans (LE.mono OY);obtain ⟨_,e7,k7⟩:=AL.2.2.2.2.2.2.2.1;obtain ⟨_,e10,k10⟩:=AL.2.2.2.2.2.2.2.2.2.2.1;refine DC ?_;clear AL AF AA LE AO OY e7 e10 k7 k10 fP;refine ah4 (yY kr (fun _ _ d_ _ _ h=>by cases d_<;>exact h) (ykv ?_));intro yD Bx Ea;replace Ba:aB yD ga 229 (yj { x.t with d:=x.t.d.set x.t.nd (aJ s x.i) }):=Bx;replace E:=E.step1 Ea aj.head;refine DF ?_;intro dU Bx Ea;replace Ba:aB dU ga 229 (yj { x.t with d:=x.t.d.set x.t.nd (aJ s x.i),nd:=x.t.nd+1 }):=Bx;exact am8
        ·
         have h5:¬x.t.nd<800:=by have h5:=of_decide_eq_false h5;omega
         have hst:=WC iF hnz h5;refine zx ?_;refine zkk ?_;refine zn ?_;refine zg rfl (fun h6=>?_) (fun h6=>?_)
         ·
          have h6:aJ s x.i≠48:=fun e=>absurd h6 (by rw[e];decide);rw[if_pos h6] at hst;rw[hst] at hkeep hu2;refine qfq ?_;intro fG Bx Ea;replace Ba:aB fG ga 229 (yj { x.t with tr:=true }):=Bx;exact am7
         ·
          exact am9
      ·
       have hnz:¬(aJ s x.i=48∧x.t.nd=0):=fun h=>absurd h3 (by rw[h.1];decide);refine Mq ?_;refine za rfl (ye underlying3 rfl rfl Ba (yJ hlx (x.t.nd) rfl) (zn ?_));refine zg rfl (fun h5=>?_) (fun h5=>?_)
       ·
        have h5:x.t.nd<800:=by have h5:=of_decide_eq_true h5;omega
        have hst:=amq iF hnz h5;have ax8:(x.t.d.set x.t.nd (aJ s x.i)).length=800:=by rw[List.length_set];exact hlx
        have vL:({ x.t with d:=x.t.d.set x.t.nd (aJ s x.i) }:Dec).d.length=800:=ax8;rw[hst] at hkeep hu2;refine aN ?_;have OY:∀q9,(aj (oa [])) q9→q9<(World.drew w9).heap.size→(aj [(some ga)]) q9:=fun k h _=>(aj.none_) k h;refine QZ mixed (Q5 11 rfl ?_);refine yZ (aj [(some ga)]) (aj.grow aj.none_ (ze Ba.lt)) [] [] (fQ [Fx.of (.pointer (some ⟨ga,0,none⟩)),
         Fx.of (.pointer (some ⟨ga,0,none⟩)),
         Fx.of (.pointer (some ⟨ga,0,none⟩)),
         Fx.of (.pointer (some ⟨ga,800,none⟩)),
         Fx.of (.int .i64 (x.t.nd:Int)),
         Fx.of (.string s),
         Fx.of (.int .i64 (x.i:Int)),
         Fx.of (.int .u8 ((aJ s x.i:Nat):Int)),
         Fx.of (.pointer (some ⟨ga,0,none⟩)),
         Fx.of (.pointer (some ⟨ga,0,none⟩)),
         Fx.of (.pointer (some ⟨ga,x.t.nd,none⟩))]) rfl trivial (fun _ h=>by cases h) ?_ ?_
        · exact am6
        intro vs w16 LE AO AL AF AA;have fP:=Ba;replace Ba:=Ba.drew.ay LE ah.nil;replace E:=E.drew.trans (LE.mono OY);obtain ⟨_,e7,k7⟩:=AL.2.2.2.2.2.2.2.1;obtain ⟨_,e10,k10⟩:=AL.2.2.2.2.2.2.2.2.2.2.1;refine DC ?_;clear AL AF AA LE AO OY e7 e10 k7 k10 fP;refine ah4 (yY kr (fun _ _ d_ _ _ h=>by cases d_<;>exact h) (ykv ?_));intro vX Bx Ea;replace Ba:aB vX ga 229 (yj { x.t with d:=x.t.d.set x.t.nd (aJ s x.i) }):=Bx;replace E:=E.step1 Ea aj.head;refine DF ?_;intro yE Bx Ea;replace Ba:aB yE ga 229 (yj { x.t with d:=x.t.d.set x.t.nd (aJ s x.i),nd:=x.t.nd+1 }):=Bx;exact am8
       ·
        have h5:¬x.t.nd<800:=by have h5:=of_decide_eq_false h5;omega
        have hst:=WC iF hnz h5;refine zx ?_;refine zkk ?_;refine zn ?_;refine zg rfl (fun h6=>?_) (fun h6=>?_)
        ·
         have h6:aJ s x.i≠48:=fun e=>absurd h6 (by rw[e];decide);rw[if_pos h6] at hst;rw[hst] at hkeep hu2;refine qfq ?_;intro E8 Bx Ea;replace Ba:aB E8 ga 229 (yj { x.t with tr:=true }):=Bx;exact am7
        ·
         exact am9
    ·
     have e:x.i=Z:=om;have hb:aJ s x.i=101:=by rw[e];exact (hs.exp om).1
     have hdone:OU s x=true:=by
      unfold OU;rw[Bool.or_eq_true];right
      rw[hb];rfl
     rw[yp hdone] at hu;refine zx ?_;refine zd 40 (.bool false) rfl (by rw[hb];rfl) (zu ?_);refine zkk ?_;refine zx ?_;refine zd 45 (.bool false) rfl (by rw[hb];rfl) (zu ?_);refine zkk ?_;refine zm ?_;refine zf 63 (.bool true) rfl (by rw[hb];rfl) (nI ?_);refine zu ?_;refine zd 58 (.bool false) rfl (by rw[hb];rfl) (zu ?_);refine qa rfl (zn ?_);exact WB
   ·
    have h1:¬x.i<s.size:=by have h1:=of_decide_eq_false h1;omega
    have hdone:OU s x=true:=by
     unfold OU;rw[decide_eq_true om];rfl
    rw[yp hdone] at hu;refine zx ?_;exact WB
  ·
   have eB:=(ze Ba.lt);clear Ba;rintro x w7 ⟨M6,Ba,hx⟩;replace E:=E.trans M6;replace LW:=LW.step E ak;replace E:=aD (aj [(some ga)]) w7;obtain ⟨hR,VO⟩:=mR neg hs;rw[←hx] at hR VO;have hfp:=hs.fp;have hpE:=hs.pE;have hsE:=hs.hE;have hdig:x.bR=true:=hR.dg om;have hlx:=hR.dec.len;have hnx:=hR.dec.hn;have hpp:=hR.hp;have hti:=hR.iE;refine zp ?_;refine zd 118 (.bool false) rfl (by rw[hdig];rfl) (zz ?_);replace LW:=LW.step E ak;replace E:=aD (aj [(some ga)]) w7;refine yh (ι:=Int) (fun d2=>[(0,.pointer (some ⟨ga,0,none⟩)),(1,.string s),(4,.bool false),(5,.int .i64 (x.i:Int))]) (fun d2 w'=>Ext (aj [(some ga)]) w7 w'∧aB w' ga 229 (yj { x.t with dp:=d2 })∧(d2=(if x.dot then x.t.dp else (x.t.nd:Int)))) ?_ ?_
   ·
    have Ym:=aD (aj [(some ga)]) w7;have O7:=aS (aj [(some ga)]) w7;by_cases hdd:x.dot=true
    ·
     refine zd 120 (.bool false) rfl (by rw[hdd];rfl) (zm ?_);replace Ba:aB w7 ga 229 (yj { x.t with dp:=x.t.dp }):=Ba;exact zt x.t.dp ⟨rfl,rfl,rfl,rfl,trivial⟩ ⟨Ym.step E O7,(by exact Ba),by rw[hdd,if_pos rfl]⟩
    ·
     refine zd 120 (.bool true) rfl (by rw[Bool.eq_false_iff.2 hdd];rfl) (zl ?_);refine Dz ?_;intro w22 Bx Ea;replace Ba:aB w22 ga 229 (yj { x.t with dp:=(x.t.nd:Int) }):=Bx;replace E:=E.step1 Ea aj.head;refine aN ?_;exact zt (x.t.nd:Int) ⟨rfl,rfl,rfl,rfl,trivial⟩ ⟨Ym.step E O7,(by exact Ba),by rw[if_neg hdd]⟩
   ·
    have eB:=(ze Ba.lt);clear Ba;rintro d2 yF ⟨Ym,Ba,hd2⟩;replace E:=E.trans Ym;replace LW:=LW.step E ak;replace E:=aD (aj [(some ga)]) yF;have hb2:-100000≤d2∧d2≤100000:=by rw[hd2];split<;>omega
    have hl2:({ x.t with dp:=d2 }:Dec).d.length=800:=hlx;have hP0:fO s f neg= { x.t with dp:=d2+pG s Z }:=by unfold fO;rw[←hx,VO,hd2]
    by_cases he:Z<s.size
    ·
     obtain ⟨hx1,hx2,hx3,hx4⟩:=hs.exp he;have hb:aJ s x.i=101:=by rw[VO];exact hx1
     refine zjq ?_;refine zf 132 (.bool true) rfl (by rw[decide_eq_true om]<;>rfl) (nI ?_);refine zf 135 (.int .u8 101) rfl (by rw[hb];rfl) (bO rfl (zb Rv rfl ((ae0 _).mono ?_)));rintro e iW ⟨rfl,hb⟩;refine ⟨_,rfl,?_⟩;have Ec:=Ext.of_below hb No;replace Ba:=Ba.ay Ec ah.nil;replace E:=E.trans Ec.no;refine yi ?_;refine yo ?_;refine yi ?_;refine zy ?_;refine zn ?_;refine zd 144 (.bool false) rfl (by rw[decide_eq_false om]<;>rfl) (jt ?_);refine za rfl (yn (j:=x.i+1) (b:=aJ s (x.i+1)) u9 rfl rfl rfl (qh om) ?_);rw[←VO] at hx2;refine zm ?_;replace LW:=LW.step E ak;replace E:=aD (aj [(some ga)]) iW;refine yh (ι:=Nat×Int) (fun (k,g)=>[(0,.pointer (some ⟨ga,0,none⟩)),(1,.string s),(4,.bool false),(5,.int .i64 ((k:Nat):Int)),(8,.int .i64 g)]) (fun (k,g) w'=>Ext (aj [(some ga)]) iW w'∧aB w' ga 229 (yj { x.t with dp:=d2 })∧(k=q∧g=(if aJ s (x.i+1)=45 then -1 else 1))) ?_ ?_
     ·
      have M24:=aD (aj [(some ga)]) iW;have ax9:=aS (aj [(some ga)]) iW;refine zp ?_;by_cases c43:aJ s (x.i+1)=43
      ·
       refine zd 148 (.bool true) rfl (by rw[c43];rfl) (zn ?_);refine yo ?_;refine zn ?_;exact zt (x.i+2,1) ⟨rfl,rfl,rfl,rfl,rfl,trivial⟩ ⟨M24.step E ax9,(by exact Ba),om,by rw[if_neg om]⟩
      ·
       refine zd 148 (.bool false) rfl (by rw[vm om]<;>rfl) (zp ?_);by_cases c45:aJ s (x.i+1)=45
       ·
        refine zd 152 (.bool true) rfl (by rw[c45];rfl) (zx ?_);refine yo ?_;refine zp ?_;exact zt (x.i+2,-1) ⟨rfl,rfl,rfl,rfl,rfl,trivial⟩ ⟨M24.step E ax9,(by exact Ba),om,by rw[if_pos c45]⟩
       ·
        refine zd 152 (.bool false) rfl (by rw[vm om]<;>rfl) (zn ?_);exact zt (x.i+1,1) ⟨rfl,rfl,rfl,rfl,rfl,trivial⟩ ⟨M24.step E ax9,(by exact Ba),om,by rw[if_neg c45]⟩
     ·
      have eB:=(ze Ba.lt);clear Ba;rintro ⟨k,g⟩ Yn ⟨M24,Ba,⟨hk,hg⟩⟩;replace E:=E.trans M24;replace LW:=LW.step E ak;replace E:=aD (aj [(some ga)]) Yn;subst hk;have hdq:=hx4 k (Nat.le_refl _) hx3;refine zjq ?_;refine zf 160 (.bool false) rfl (by rw[decide_eq_false om]<;>rfl) (Dx ?_);refine zn ?_;refine zf 166 (.bool false) rfl (by rw[decide_eq_false om]<;>rfl) (Dx ?_);refine zx ?_;refine zd 171 (.bool false) rfl (by rw[decide_eq_false om]<;>rfl) (qd ?_);replace LW:=LW.step E ak;replace E:=aD (aj [(some ga)]) Yn;refine yh (ι:=Vv) (fun y=>[(0,.pointer (some ⟨ga,0,none⟩)),(1,.string s),(4,.bool false),(5,.int .i64 (y.i:Int)),(8,.int .i64 g),(9,.int .i64 (y.e:Int))]) (fun y w'=>Ext (aj [(some ga)]) Yn w'∧aB w' ga 229 (yj { x.t with dp:=d2 })∧(y=exA s k)) ?_ ?_
      ·
       have M26:=aD (aj [(some ga)]) Yn;have axq:=aS (aj [(some ga)]) Yn;refine aN ?_;replace M26:=M26.step E axq;replace E:=aD (aj [(some ga)]) Yn;refine yw (ι:=Vv) (fun y=>[(0,.pointer (some ⟨ga,0,none⟩)),(1,.string s),(4,.bool false),(5,.int .i64 (y.i:Int)),(8,.int .i64 g),(9,.int .i64 (y.e:Int))]) (fun y w'=>Ext (aj [(some ga)]) Yn w'∧aB w' ga 229 (yj { x.t with dp:=d2 })∧(ExI s k y∧qk (oj s) (Qo s) y=exA s k)) (fun y=>s.size-y.i) (⟨k,0⟩) ⟨rfl,rfl,rfl,rfl,rfl,rfl,trivial⟩ ⟨Ext.refl _ _,(by exact Ba),⟨⟨Nat.le_refl _,Nat.le_of_lt hx3⟩,by show 0<100000;decide⟩,rfl⟩ ?_;have eB:=(ze Ba.lt);clear Ba;rintro y w29 ⟨M28,Ba,⟨hI,hu⟩⟩;have aK2:eD (aj [(some ga)]) (aj [(some ga)]) Yn:=(aj.grow aj.none_ (fun k e=>Or.inl (aj.head k e)));replace E:=E.trans M28;replace M26:=M26.step E axq;replace E:=aD (aj [(some ga)]) w29;have hhi:=hI.hi;have hhe:=hI.he;refine zjq ?_;refine zj 176 rfl (fun h7=>?_) (fun h7=>?_)
       ·
        have h7:y.i<s.size:=by have h7:=of_decide_eq_true h7;omega
        have hc:=hx4 y.i hhi.1 h7;have hdone:oj s y=false:=by unfold oj;rw[decide_eq_false om,qlk hc];rfl
        have hkeep:=(mQ hI hdone).1;rw[qp hdone] at hu;refine Dy ?_;refine zm ?_;refine zf 181 (.bool true) rfl (by rw[decide_eq_true om]<;>rfl) (Dy ?_);refine zn ?_;refine zf 187 (.bool true) rfl (by rw[decide_eq_true om]<;>rfl) (Qa ?_);refine za rfl (yn (j:=y.i) (b:=aJ s (y.i)) u9 rfl rfl rfl (qh om) (zn ?_));refine zd 199 (.bool false) rfl (by rw[vm om]<;>rfl) (qd ?_);refine zg rfl (fun h8=>?_) (fun h8=>?_)
        ·
         have h8:y.e<10000:=by have h8:=of_decide_eq_true h8;omega
         have hstep:Qo s y= ⟨y.i+1,y.e*10+(aJ s y.i-48)⟩:=by unfold Qo;rw[if_pos h8]
         rw[hstep] at hkeep hu;refine zm ?_;refine qck ?_;refine zm ?_;refine za rfl (yn (j:=y.i) (b:=aJ s (y.i)) u9 rfl rfl rfl (qh om) (qfz ?_));refine yl ?_;refine zwv ?_;refine zq 9 (.int .i64 ((y.e*10+(aJ s y.i-48):Nat):Int)) rfl ((by congr 1;omega:(.int .i64 ((((y.e:Int)*10)+((aJ s (y.i):Nat):Int))-48):Value)=_)) ?_;exact zo (⟨y.i+1,y.e*10+(aJ s y.i-48)⟩) (by show s.size-(y.i+1)<s.size-y.i;omega) ⟨rfl,rfl,rfl,rfl,rfl,rfl,trivial⟩ ⟨M28.step E aK2,(by exact Ba),hkeep,hu⟩
        ·
         have h8:¬y.e<10000:=by have h8:=of_decide_eq_false h8;omega
         have hstep:Qo s y= ⟨y.i+1,y.e⟩:=by unfold Qo;rw[if_neg h8]
         rw[hstep] at hkeep hu;refine je ?_;exact zo (⟨y.i+1,y.e⟩) (by show s.size-(y.i+1)<s.size-y.i;omega) ⟨rfl,rfl,rfl,rfl,rfl,rfl,trivial⟩ ⟨M28.step E aK2,(by exact Ba),hkeep,hu⟩
       ·
        have h7:¬y.i<s.size:=by have h7:=of_decide_eq_false h7;omega
        have hdone:oj s y=true:=by unfold oj;rw[decide_eq_true om];rfl
        rw[yp hdone] at hu;refine RF ?_;exact zt y ⟨rfl,rfl,rfl,rfl,rfl,rfl,trivial⟩ ⟨M26.step E axq,(by exact Ba),hu⟩
      ·
       have eB:=(ze Ba.lt);clear Ba;rintro y w27 ⟨M26,Ba,hy⟩;replace E:=E.trans M26;replace LW:=LW.step E ak;replace E:=aD (aj [(some ga)]) w27;obtain ⟨hI,hdx⟩:=yok (s:=s) (q:=k) om;rw[←hy] at hI hdx;have hxi:=Vw hx4 hI hdx;have hxe:=hI.he;have hX:IntKind.i64.wrap ((y.e:Int)*g)=pG s Z:=by
        have e9:pG s Z=(y.e:Int)*g:=by
         unfold pG;rw[if_neg om,←VO,hg,hy];exact alq
        have h12:=qnq hs;rw[←e9];exact yx om
       have h12:=qnq hs;refine zx ?_;refine za rfl (ye underlying3 rfl rfl Ba (xJ hl2 d2 rfl) (zm ?_));refine za rfl (xr rfl rfl hX (yo ?_));refine zm ?_;refine zk (qr J6 rfl rfl Ba rfl rfl (yK hl2 (by decide:801<804)) (qrv hl2 (d2+pG s Z)) ?_);intro w30 Bx Ea;replace Ba:aB w30 ga 229 (yj { x.t with dp:=d2+pG s Z }):=Bx;replace E:=E.step1 Ea aj.head;refine zp ?_;refine zy ?_;refine zn ?_;refine zd 223 (.bool false) rfl (by rw[hxi];simp) (zz ?_);exact ⟨rfl,by rw[hP0];exact Ba,(LW.step E ak)⟩
    ·
     have hz:pG s Z=0:=by unfold pG;rw[if_pos om]
     refine zjq ?_;refine zf 132 (.bool false) rfl (by rw[decide_eq_false om]<;>rfl) (oh ?_);refine zy ?_;refine zn ?_;refine zd 223 (.bool false) rfl (by rw[show x.i=s.size from om];simp) (zz ?_);exact ⟨rfl,by rw[hP0,hz,Int.add_zero];exact Ba,(LW.step E ak)⟩
end
end Go.Proofs.YtmnmebdmpigddaaGreatDoor
namespace Go.Proofs.YtmnmebdmpigddaaGreatDoor
open Go.RowKit
attribute [local irreducible] OW RS CW EW
def aL8 (W:World) (A0:Option Addr) (xs0:List Nat) (v f:Int) (e:Ending) (w':World):Prop:=∃A c,e= .returned (.tuple #[.agg #[.bool (decide (v<0)),.slice A (av v).length c],.int .i64 f])∧aL w' A (av v)∧((∀q,A=some q→W.heap.size≤q.block)∨(A=A0∧av v=xs0))∧Below W.heap.size W w'
section
variable (i j:Int) (A B:Option Addr) (c d:Nat) (w:World) (hi:i.natAbs<au^30) (hj:j.natAbs<au^30) (hx:aL w A (av i)) (hy:aL w B (av j))
include hi hj hx hy
end
end Go.Proofs.YtmnmebdmpigddaaGreatDoor
namespace Go.Proofs.YtmnmebdmpigddaaGreatDoor
open Go.RowKit Proofs.Tryz
theorem DK {P Q:Prop} (k:Q) (h:(Unit→Q)→P:=by
 intro zK;refine zm ?_;refine bO rfl (gu (j:=s.size-1-k) u9 rfl rfl om hat (zx ?_));exact zK ()):P:=h fun _=>k
theorem DL {P Q:Prop} (k:Q) (h:(Unit→Q)→P:=by
 intro zK;refine Mq ?_;refine zy ?_;refine zm ?_;refine zf 11 (.bool true) rfl (by rw[decide_eq_true hpos]) (qfv ?_);exact zK ()):P:=h fun _=>k
theorem DN {P Q:Prop} (k:Q) (h:(Unit→Q)→P:=by
 intro zK;refine zd 19 (.bool false) rfl (by rw[beq_eq_false_iff_ne.2 om]) (vp ?_);refine zy ?_;refine yl ?_;refine zx ?_;exact zK ()):P:=h fun _=>k
theorem DR {P Q:Prop} (k:Q) (h:(Unit→Q)→P:=by
 intro zK;refine za rfl (jg rfl rfl (ybz om) (za rfl (ou (cs:=#[.int .u8 ((b.toNat:Int)-48)]) u46 iL zr5 de rfl (by rw[zqk];rfl) ?_)));exact zK ()):P:=h fun _=>k
theorem qex {P Q:Prop} (k:Q) (h:(Unit→Q)→P:=by
 intro zK;refine za rfl (gu (j:=s.size-1-k) u9 rfl rfl om hat ?_);exact zK ()):P:=h fun _=>k
theorem DT {P Q:Prop} (k:Q) (h:(Unit→Q)→P:=by
 intro zK;refine za rfl (zyk (news:=[.int .u8 ((b.toNat:Int)-48)]) u46 Rk rfl de rfl Od rfl (yrv (HF.on E).here.2 ((HF.on E).here.2).lt rfl) (by simp[Value.oneCell']) (by unfold maxLen;omega) om (by exact Nat.le_trans LW.size E.size) ?_);exact zK ()):P:=h fun _=>k
theorem DU {P Q:Prop} (k:Q) (h:(Unit→Q)→P:=by
 intro zK;refine zl ?_;refine yl ?_;refine zm ?_;refine zq 7 (.int .i64 ((s.size:Int)-1-((k+1:Nat):Int))) rfl ((by rw[show (s.size:Int)-1-(k:Int)-1=(s.size:Int)-1-((k+1:Nat):Int) from om]:(.int .i64 (((s.size:Int)-1-(k:Int))-1):Value)=_)) ?_;exact zK ()):P:=h fun _=>k
theorem qfv {P Q:Prop} (k:Q) (h:(Unit→Q)→P:=by
 intro zK;refine aN ?_;refine bO rfl (gu (j:=0) u9 rfl rfl rfl O9 ?_);exact zK ()):P:=h fun _=>k
theorem amx {P:Prop} (h:P:=by
 refine zm ?_;refine za rfl (qn (cs:=#[.bool false,.slice none 0 0]) zG FT rfl rfl (zk (yb pX rfl rfl aA rfl rfl (Nat.le_of_ble_eq_true rfl) ?_)));intro w6 Bx aK;exact amj):P:=h
theorem an0 {P:Prop} (h:P:=by
 refine zz ?_;refine za rfl (qn (cs:=#[.bool false,.slice none 0 0]) zG FT rfl rfl (zk (yb pX rfl rfl aA rfl rfl (Nat.le_of_ble_eq_true rfl) ?_)));intro w5 Bx aK;exact amj):P:=h
theorem an1 {P:Prop} (h:P:=by
 have e:((Pb (r.reverse.take k)):List Value)++([.int .u8 ((b.toNat:Int)-48)]:List Value)=Pb (r.reverse.take (k+1)):=by rw[tX];exact IX (by simpa using hk1)
 rw[←e];exact On):P:=h
theorem an2 {P:Prop} (h:P:=by
 refine zm ?_;refine za rfl (qn (cs:=#[.bool false,.slice none 0 0]) zG FT rfl rfl (zk (yb pX rfl rfl aA rfl rfl (Nat.le_of_ble_eq_true rfl) ?_)));intro dQ Bx aK;replace aA:=Bx;replace E:=E.step1 aK aj.head;refine zl ?_;exact by rw[e1,e2];exact yck (LW.step E ak).toBelow):P:=h
theorem an3 {P:Prop} (h:P:=by
 refine za rfl (qjv u9 rfl (zn ?_));refine zd 19 (.bool true) rfl (by rw[hz];rfl) (zn ?_);refine za rfl (qn (cs:=#[.bool false,.slice none 0 0]) zG FT rfl rfl (zk (yb pX rfl rfl aA rfl rfl (Nat.le_of_ble_eq_true rfl) ?_)));intro w3 Bx aK;replace aA:=Bx;replace E:=E.step1 aK aj.head;refine zl ?_;exact yck (LW.step E ak).toBelow):P:=h
theorem amj {P:Prop} (h:P:=by
 replace aA:=Bx;replace Od:=vt Od aK (ah.cons cK ah.nil);replace E:=E.step1 aK (aj.tail aj.head);refine yu ?_;exact by rw[e1,e2];exact yck (LW.step E ak).toBelow):P:=h
attribute [local irreducible] OW RS CW EW
theorem Apart.re {A:Option Addr} {n c m d:Nat} {r:Option Nat} (h:Apart (Value.slice A n c).ownBlock r):Apart (Value.slice A m d).ownBlock r:=by cases A<;>exact h
def vd (b:UInt8):Bool:=decide (48≤b.toNat)&&decide (b.toNat≤57)
def dv (b:UInt8):Nat:=b.toNat-48
def ya (r:List UInt8):Nat:=val 10 (r.reverse.map dv)
def qz (neg:Bool) (r:List UInt8):Int:=if r≠ []∧r.all vd=true∧ya r<au^30 then bL neg (ya r) else 0
def qy (r:List UInt8):Int:=if r≠ []∧r.all vd=true then (if ya r<au^30 then 0 else 2) else 4
def Qr (bs:List UInt8):Bool:=decide (bs.head? =some 45)
def ky (bs:List UInt8):List UInt8:=if bs.head? =some 45 then bs.tail else bs
theorem qnk {r:List UInt8} (h:r.all vd=true):small 10 (r.map dv):=by
 intro x hx;obtain ⟨b,hb,rfl⟩:=List.mem_map.1 hx;have h1:=List.all_eq_true.1 h b hb;unfold vd at h1;unfold dv;simp at h1
 omega
theorem nK (s:ByteArray) (j:Nat):s[j]? =s.data.toList[j]? :=by
 show (if h:j<s.size then some s[j] else none)=_
 by_cases h:j<s.size
 · rw[dif_pos h,List.getElem?_eq_getElem (by simpa using h)];rfl
 · rw[dif_neg h,List.getElem?_eq_none (by simpa using h)]
theorem Lx {s:ByteArray} {pre r:List UInt8} (h:s.data.toList=pre++r) {k:Nat} (hk:k<r.length):s[s.size-1-k]? =some (r.reverse.getD k 0):=by
 have hsz:s.size=pre.length+r.length:=by have:=congrArg List.length h;simpa using this
 rw[nK,h,List.getElem?_append_right om,List.getD_eq_getElem?_getD,List.getElem?_reverse hk,show s.size-1-k-pre.length=r.length-1-k from om,List.getElem?_eq_getElem om];rfl
def Pb (l:List UInt8):List Value:=l.map fun b=>.int .u8 ((b.toNat:Int)-48)
theorem IX {l:List UInt8} {k:Nat} (hk:k<l.length):Pb (l.take k)++ [.int .u8 (((l.getD k 0).toNat:Int)-48)]=Pb (l.take (k+1)):=by
 rw[List.take_add_one,Pb,Pb,List.map_append,List.getElem?_eq_getElem hk,List.getD_eq_getElem?_getD,List.getElem?_eq_getElem hk];rfl
theorem xL {b:UInt8} (h1:48≤b.toNat) (h2:b.toNat≤57):vd b=true:=by unfold vd;simp[h1,h2]
theorem vjx {r:List UInt8} {k:Nat} (hk:k<r.length) (h:vd (r.reverse.getD k 0)=false):r.all vd=false:=by
 rw[Bool.eq_false_iff];intro ha;have hm:r.reverse.getD k 0∈r:=by
  rw[List.getD_eq_getElem?_getD,List.getElem?_eq_getElem (by simpa using hk)];exact List.mem_reverse.1 (List.getElem_mem _)
 rw[List.all_eq_true.1 ha _ hm] at h;cases h
theorem tY {w:World} {base n c:Nat} {A:Option Addr} {r:List UInt8} (h:w.ownsRow base 5 1 (.slice A n c) n (Pb r.reverse)) (hr:r.all vd=true) (hn:n=r.length):aQ w base A c (r.reverse.map dv):=by
 subst hn;have hall:(r.reverse).all vd=true:=by rw[List.all_reverse];exact hr
 have e:Pb r.reverse=(r.reverse.map dv).map fun x:Nat=>Value.int .u8 (x:Int):=by
  rw[Pb,List.map_map];apply List.map_congr_left
  intro b hb;have h1:=List.all_eq_true.1 hall b hb;unfold vd at h1;simp at h1
  simp only[Function.comp_apply,dv]
  congr 1
  omega
 refine ⟨?_,fun x hx=>Nat.lt_trans (qnk hall x hx) de⟩;rw[←e];simpa using h
def yvk (W:World) (v f:Int) (e:Ending) (w':World):Prop:=∃A c,e= .returned (.tuple #[.agg #[.bool (decide (v<0)),.slice A (av v).length c],.int .i64 f])∧aQ w' W.heap.size A c (av v)∧Below W.heap.size W w'
theorem WL (w:World) (base:Nat):aQ w base none 0 []:=⟨⟨by simp,Or.inl ⟨rfl,rfl⟩⟩,fun x hx=>by cases hx⟩
theorem yck {W w':World} {f:Int} (hb:Below W.heap.size W w'):yvk W 0 f (.returned (.tuple #[.agg #[.bool false,.slice none 0 0],.int .i64 f])) w':=
 ⟨none,0,by rw[zaq];rfl,by rw[zaq];exact WL _ _,hb⟩
theorem zjz {neg:Bool} {r:List UInt8} (h:r.all vd=false):qz neg r=0∧qy r=4:=by
 unfold qz qy;simp[h]
theorem DV {p:UInt8→Bool} {l:List UInt8} {k:Nat} (hk:k<l.length) (h:(l.take k).all p=true) (hp:p (l.getD k 0)=true):(l.take (k+1)).all p=true:=by
 rw[List.take_add_one,List.all_append,h,List.getElem?_eq_getElem hk];rw[List.getD_eq_getElem?_getD,List.getElem?_eq_getElem hk] at hp;simpa using hp
section
variable (s:ByteArray) (r:List UInt8) (w:World)
theorem WM (hr:r≠ []) (hbs:s.data.toList= [45]++r) (hs:s.size≤140737488355328):Calls prog 54 #[.string s] w (yvk w (qz true r) (qy r)):=by
 have O9:s[0]? =some 45:=by rw[nK,hbs];rfl
 have hpos:(0:Int)<(s.size:Int):=by have:=congrArg List.length hbs;simp at this;omega
 refine zc func54 rfl ntmps54 rfl ?_;obtain ⟨HF,LW,ak,E⟩:=bg w;refine zm ?_;refine gj ?_;intro aG w2 aA aK aP;obtain ⟨aP,HF,E,ak⟩:=bJ HF LW E ak aK aP;refine DL ?_;refine rA ?_;refine zy ?_;refine zn ?_;have hsz:s.size=1+r.length:=by have:=congrArg List.length hbs;simpa [Nat.add_comm] using this
 have hrl:0<r.length:=List.length_pos_iff.2 hr;refine DN ?_;have Od:World.ownsRow w2 w.heap.size 5 1 (.slice none 0 0) 0 ([]):=Yz;have cK:Apart ((Value.slice none 0 0).ownBlock) (some aG):=fun _ e=>by cases e
 have nL:=cK.symm;replace HF:=HF.cons (gh);replace E:=E.cons ((Value.slice none 0 0).ownBlock);replace ak:=aj.grow ak (fun k e=>Or.inr (Nat.le_trans LW.size ((gh) k e)));refine zd 7 (.int .i64 ((s.size:Int)-1-((0:Nat):Int))) rfl (by simp) ?_;replace HF:=HF.on E;replace LW:=LW.step E ak;replace E:=aD (aj [((Value.slice none 0 0).ownBlock),(some aG)]) w2;refine yw (ι:=Nat×Option Addr×Nat) (fun (k,A1,c1)=>[(0,.string s),(2,.pointer (some ⟨aG,0,none⟩)),(4,.bool true),(5,.int .i64 1),(6,.slice A1 k c1),(7,.int .i64 ((s.size:Int)-1-(k:Int)))]) (fun (k,A1,c1) w'=>Ext (aj [((Value.slice none 0 0).ownBlock),(some aG)]) w2 w'∧World.ownsRow w' w.heap.size 5 1 (.slice A1 k c1) k (Pb (r.reverse.take k))∧aB w' aG 48 (#[.bool false,.slice none 0 0])∧(∀q9,((Value.slice A1 k c1).ownBlock)=some q9→((Value.slice none 0 0).ownBlock)=some q9∨w2.heap.size≤q9)∧(k≤r.length∧(r.reverse.take k).all vd=true)) (fun (k,A1,c1)=>r.length-k) (0,none,0) ⟨rfl,rfl,rfl,rfl,rfl,rfl,trivial⟩ ⟨Ext.refl _ _,(by exact Od),(by exact aA),(fun _ e=>Or.inl e),⟨Nat.zero_le _,rfl⟩⟩ ?_;have LTd:=(jx Od);have bE:=(ze aA.lt);clear Od;rintro ⟨k,A1,c1⟩ w4 ⟨M3,Od,aA,nM,⟨hk,hall⟩⟩;replace cK:Apart ((Value.slice A1 k c1).ownBlock) (some aG):=cK.turn nM bE;replace nL:=cK.symm;have aV:eD (aj [((Value.slice A1 k c1).ownBlock),(some aG)]) (aj [((Value.slice none 0 0).ownBlock),(some aG)]) w2:=(aj.grow (aj.grow aj.none_ (fun k e=>Or.inl ((aj.tail aj.head) k e))) (fun k e=>(nM k e).elim (fun e=>Or.inl (aj.head k e)) Or.inr));replace E:=E.trans M3;replace HF:=HF.turn E aV;have IY:=LW.size;have XT:=fun q9 (h:(aj [((Value.slice A1 k c1).ownBlock),(some aG)]) q9)=>(aV q9 h).elim (ak q9) (fun h=>Or.inr (Nat.le_trans LW.size h));replace LW:=LW.step E ak;replace ak:=XT;clear IY;replace E:=aD (aj [((Value.slice A1 k c1).ownBlock),(some aG)]) w4;clear LTd;clear bE;refine yi ?_;refine zg rfl (fun q=>?_) (fun q=>?_)
 ·
  have q:=of_decide_eq_true q;have hk1:k<r.length:=om;have hat:=Lx hbs hk1;obtain ⟨b,tX⟩:∃b,b=r.reverse.getD k 0:=⟨_,rfl⟩;rw[←tX] at hat;refine qd ?_;refine qex ?_;refine zm ?_;refine zj 33 rfl (fun h=>?_) (fun h=>?_)
  ·
   have h:=of_decide_eq_true h;obtain ⟨e1,e2⟩:=zjz (neg:=true) (vjx hk1 (by rw[←tX];unfold vd;simp;omega));exact an0
  ·
   have h:=of_decide_eq_false h;refine DK ?_;refine zg rfl (fun h2=>?_) (fun h2=>?_)
   ·
    have h2:=of_decide_eq_true h2;obtain ⟨e1,e2⟩:=zjz (neg:=true) (vjx hk1 (by rw[←tX];unfold vd;simp;omega));exact amx
   ·
    have h2:=of_decide_eq_false h2;refine zl ?_;refine qex ?_;have hdig:vd (r.reverse.getD k 0)=true:=by rw[←tX];exact xL om om
    refine DR ?_;intro pq w8 fT fq gG;have DW:Apart (some pq) ((Value.slice A1 k c1).ownBlock):=Apart.of_lt (jx Od) gG;have aK5:=DW.symm;have dX:Apart (some pq) (some aG):=Apart.of_lt (ze aA.lt) gG;have lK:=dX.symm;have gG:_≤pq:=Nat.le_trans E.size gG;have aS3:=Nat.le_trans LW.size gG;replace Od:=vt Od fq ah.nil;replace aA:=aA.ay fq ah.nil;replace E:=E.trans fq.no;replace HF:=HF.cons (ym gG);replace E:=E.cons (some pq);replace ak:=aj.grow ak (fun k e=>Or.inr (Nat.le_trans LW.size ((ym gG) k e)));replace aV:=aj.grow aV (fun k e=>Or.inr (Nat.le_trans M3.size ((ym gG) k e)));replace HF:=HF.on E;replace LW:=LW.step E ak;replace M3:=M3.step E aV;have SB:∀q9,aj [((Value.slice A1 k c1).ownBlock),(some aG)] q9→aj [(some pq),((Value.slice A1 k c1).ownBlock),(some aG)] q9:=(aj.skip (aj.keep (aj.keep aj.aU)));replace HF:=HF.less SB;replace ak:=fun k h=>ak k (SB k h);replace aV:=fun k h=>aV k (SB k h);clear SB;replace E:=aD (aj [((Value.slice A1 k c1).ownBlock),(some aG)]) w8;replace HF:=HF.and (Per.aW fT (ah.cons DW (ah.cons dX ah.nil)));refine DT ?_;intro v0 w9 On En KN;obtain ⟨A2,c2,rfl⟩:=gl On;replace KN:∀q9,((Value.slice A2 (k+1) c2).ownBlock)=some q9→((Value.slice A1 k c1).ownBlock)=some q9∨w8.heap.size≤q9:=KN;have bE:=(ze aA.lt);replace aA:=aA.ay En (ah.cons nL ah.nil);replace cK:Apart ((Value.slice A2 (k+1) c2).ownBlock) (some aG):=cK.turn KN bE;replace nL:=cK.symm;clear bE;have HY:eD (aj [((Value.slice A2 (k+1) c2).ownBlock),(some aG)]) (aj [((Value.slice A1 k c1).ownBlock),(some aG)]) w8:=(aj.grow (aj.grow aj.none_ (fun k e=>Or.inl ((aj.tail aj.head) k e))) (fun k e=>(KN k e).elim (fun e=>Or.inl (aj.head k e)) (fun h=>Or.inr (Nat.le_trans E.size h))));replace nM:∀q9,((Value.slice A2 (k+1) c2).ownBlock)=some q9→((Value.slice none 0 0).ownBlock)=some q9∨w2.heap.size≤q9:=fun k e=>(KN k e).elim (nM k) (fun h=>Or.inr (Nat.le_trans M3.size (Nat.le_trans E.size h)));replace E:=E.step1 En aj.head;have XT:=fun q9 (h:(aj [((Value.slice A2 (k+1) c2).ownBlock),(some aG)]) q9)=>(HY q9 h).elim (ak q9) (fun h=>Or.inr (Nat.le_trans LW.size h));have XT:=fun q9 (h:(aj [((Value.slice A2 (k+1) c2).ownBlock),(some aG)]) q9)=>(HY q9 h).elim (aV q9) (fun h=>Or.inr (Nat.le_trans M3.size h));replace M3:=M3.step E aV;replace aV:=XT;replace E:=aD (aj [((Value.slice A2 (k+1) c2).ownBlock),(some aG)]) w9;clear HY;replace Od:World.ownsRow w9 w.heap.size 5 1 (.slice A2 (k+1) c2) (k+1) (Pb (r.reverse.take (k+1))):=by
     exact an1
    clear On KN En;refine DU ?_;exact zo (k+1,A2,c2) (by show r.length-(k+1)<r.length-k;omega) ⟨rfl,rfl,rfl,rfl,rfl,rfl,trivial⟩ ⟨M3.step E aV,(by exact Od),(by exact aA),nM,om,DV (by simpa using hk1) hall hdig⟩
 ·
  have q:=of_decide_eq_false q;have hkr:k=r.length:=om;have hxs:r.reverse.take k=r.reverse:=by rw[hkr,←List.length_reverse,List.take_length]
  rw[hxs] at hall;rw[List.all_reverse] at hall;have Od9:=Od;rw[hxs] at Od9;have o8:=tY Od9 hall hkr;have hsv:val 10 (r.reverse.map dv)=(bL true (ya r)).natAbs:=by rw[qt];rfl
  have hsm:small 10 (r.reverse.map dv):=qnk (by rw[List.all_reverse];exact hall);have hlen:(r.reverse.map dv).length=r.length:=by simp
  have hcut:∀w',aQ w' w.heap.size A1 c1 (r.reverse.map dv)→Calls prog 106 #[.slice A1 k c1] w' fun e w2=>e= .returned (.slice A1 (av (bL true (ya r))).length c1)∧aQ w' w.heap.size A1 c1 (av (bL true (ya r)))∧w'=w2:=fun w' h=>by
   have h9:=qtk w.heap.size A1 c1 _ _ w' h hsm hsv (by rw[hlen];omega);rwa [hlen,←hkr] at h9
  refine yi ?_;refine za rfl (zb ai0 rfl ((hcut _ o8).mono ?_));rintro e dH ⟨rfl,o9,rfl⟩;refine ⟨_,rfl,?_⟩;have o9s:=o9.2;obtain ⟨HF,LW,ak,E⟩:=dx HF LW E ak (Y:=aj [(some aG)]) (aj.skip (aj.keep aj.aU)) (Per.qW Od (ah.cons cK ah.nil));clear Od;obtain ⟨HF,LW,E⟩:=cO HF LW E ak (Per.qW o9.1 (ah.cons cK.re ah.nil));have iq:ya r<au^30↔(av (bL true (ya r))).length≤540:=by rw[ot,qt]
  refine yu ?_;refine zg rfl (fun h3=>?_) (fun h3=>?_)
  ·
   have h3:=of_decide_eq_true h3;have e1:qy r=2:=by unfold qy;rw[if_pos ⟨hr,hall⟩,if_neg om]
   have e2:qz true r=0:=by unfold qz;rw[if_neg (by rintro ⟨_,_,h⟩;omega)]
   exact an2
  ·
   have h3:=of_decide_eq_false h3;have e1:qy r=0:=by unfold qy;rw[if_pos ⟨hr,hall⟩,if_pos om]
   have e2:qz true r=bL true (ya r):=by unfold qz;rw[if_pos ⟨hr,hall,om⟩]
   refine yu ?_;refine za rfl (qn (cs:=#[.bool (decide (0<((((av (bL true (ya r))).length:Nat)):Int))),.slice A1 (av (bL true (ya r))).length c1]) zG FT rfl rfl (zkz ?_));intro eG Bx aK;replace aA:=Bx;replace E:=E.step1 aK aj.head;obtain ⟨HF,LW,ak,E⟩:=dx HF LW E ak (Y:=No) (aj.skip aj.aU) (Per.aW aA ah.nil);refine zx ?_;have hlv:decide ((0:Int)<((av (bL true (ya r))).length:Int))=decide (ya r≠0):=by
    rcases Nat.eq_zero_or_pos (ya r) with h | h
    · rw[h];cases hq:true<;>simp[bL,zaq]
    · have:=Yd (j:=bL true (ya r)) (by intro e;have:=qt true (ya r);rw[e] at this;simp at this;omega);exact G7
   refine aN ?_;exact by rw[e1,e2];exact ⟨A1,c1,by rw[qhq,Bool.true_and,←hlv];rfl,⟨(HF.on E).here.1.2,o9s⟩,(LW.step E ak).toBelow⟩
theorem WO (hr:r≠ []) (hbs:s.data.toList= []++r) (h45:r.head? ≠some 45) (hs:s.size≤140737488355328):Calls prog 54 #[.string s] w (yvk w (qz false r) (qy r)):=by
 obtain ⟨b0,hb0⟩:∃b,r.head? =some b:=by cases r with | nil=>exact absurd rfl hr | cons b _=>exact ⟨b,rfl⟩
 have O9:s[0]? =some b0:=by rw[nK,hbs,List.nil_append];cases r with | nil=>cases hb0 | cons b _=>simpa using hb0
 have hne:b0.toNat≠45:=fun e=>h45 (by rw[hb0,show b0=45 from UInt8.toNat_inj.1 e]);have hpos:(0:Int)<(s.size:Int):=by have h1:=congrArg List.length hbs;have h2:=List.length_pos_iff.2 hr;simp at h1;omega
 refine zc func54 rfl ntmps54 rfl ?_;obtain ⟨HF,LW,ak,E⟩:=bg w;refine zm ?_;refine gj ?_;intro aG w2 aA aK aP;obtain ⟨aP,HF,E,ak⟩:=bJ HF LW E ak aK aP;refine DL ?_;refine zx ?_;refine zd 15 (.bool false) rfl (by rw[beq_eq_false_iff_ne.2 om]<;>rfl) (yi ?_);refine zy ?_;refine zn ?_;have hsz:s.size=0+r.length:=by have:=congrArg List.length hbs;simpa [Nat.add_comm] using this
 have hrl:0<r.length:=List.length_pos_iff.2 hr;refine DN ?_;have Od:World.ownsRow w2 w.heap.size 5 1 (.slice none 0 0) 0 ([]):=Yz;have cK:Apart ((Value.slice none 0 0).ownBlock) (some aG):=fun _ e=>by cases e
 have nL:=cK.symm;replace HF:=HF.cons (gh);replace E:=E.cons ((Value.slice none 0 0).ownBlock);replace ak:=aj.grow ak (fun k e=>Or.inr (Nat.le_trans LW.size ((gh) k e)));refine zd 7 (.int .i64 ((s.size:Int)-1-((0:Nat):Int))) rfl (by simp) ?_;replace HF:=HF.on E;replace LW:=LW.step E ak;replace E:=aD (aj [((Value.slice none 0 0).ownBlock),(some aG)]) w2;refine yw (ι:=Nat×Option Addr×Nat) (fun (k,A1,c1)=>[(0,.string s),(2,.pointer (some ⟨aG,0,none⟩)),(4,.bool false),(5,.int .i64 0),(6,.slice A1 k c1),(7,.int .i64 ((s.size:Int)-1-(k:Int)))]) (fun (k,A1,c1) w'=>Ext (aj [((Value.slice none 0 0).ownBlock),(some aG)]) w2 w'∧World.ownsRow w' w.heap.size 5 1 (.slice A1 k c1) k (Pb (r.reverse.take k))∧aB w' aG 48 (#[.bool false,.slice none 0 0])∧(∀q9,((Value.slice A1 k c1).ownBlock)=some q9→((Value.slice none 0 0).ownBlock)=some q9∨w2.heap.size≤q9)∧(k≤r.length∧(r.reverse.take k).all vd=true)) (fun (k,A1,c1)=>r.length-k) (0,none,0) ⟨rfl,rfl,rfl,rfl,rfl,rfl,trivial⟩ ⟨Ext.refl _ _,(by exact Od),(by exact aA),(fun _ e=>Or.inl e),⟨Nat.zero_le _,rfl⟩⟩ ?_;have LTd:=(jx Od);have bE:=(ze aA.lt);clear Od;rintro ⟨k,A1,c1⟩ w4 ⟨M3,Od,aA,nM,⟨hk,hall⟩⟩;replace cK:Apart ((Value.slice A1 k c1).ownBlock) (some aG):=cK.turn nM bE;replace nL:=cK.symm;have aV:eD (aj [((Value.slice A1 k c1).ownBlock),(some aG)]) (aj [((Value.slice none 0 0).ownBlock),(some aG)]) w2:=(aj.grow (aj.grow aj.none_ (fun k e=>Or.inl ((aj.tail aj.head) k e))) (fun k e=>(nM k e).elim (fun e=>Or.inl (aj.head k e)) Or.inr));replace E:=E.trans M3;replace HF:=HF.turn E aV;have IY:=LW.size;have XT:=fun q9 (h:(aj [((Value.slice A1 k c1).ownBlock),(some aG)]) q9)=>(aV q9 h).elim (ak q9) (fun h=>Or.inr (Nat.le_trans LW.size h));replace LW:=LW.step E ak;replace ak:=XT;clear IY;replace E:=aD (aj [((Value.slice A1 k c1).ownBlock),(some aG)]) w4;clear LTd;clear bE;refine yi ?_;refine zg rfl (fun q=>?_) (fun q=>?_)
 ·
  have q:=of_decide_eq_true q;have hk1:k<r.length:=om;have hat:=Lx hbs hk1;obtain ⟨b,tX⟩:∃b,b=r.reverse.getD k 0:=⟨_,rfl⟩;rw[←tX] at hat;refine qd ?_;refine qex ?_;refine zm ?_;refine zj 33 rfl (fun h=>?_) (fun h=>?_)
  ·
   have h:=of_decide_eq_true h;obtain ⟨e1,e2⟩:=zjz (neg:=false) (vjx hk1 (by rw[←tX];unfold vd;simp;omega));exact an0
  ·
   have h:=of_decide_eq_false h;refine DK ?_;refine zg rfl (fun h2=>?_) (fun h2=>?_)
   ·
    have h2:=of_decide_eq_true h2;obtain ⟨e1,e2⟩:=zjz (neg:=false) (vjx hk1 (by rw[←tX];unfold vd;simp;omega));exact amx
   ·
    have h2:=of_decide_eq_false h2;refine zl ?_;refine qex ?_;have hdig:vd (r.reverse.getD k 0)=true:=by rw[←tX];exact xL om om
    refine DR ?_;intro pq w8 fT fq gG;have DW:Apart (some pq) ((Value.slice A1 k c1).ownBlock):=Apart.of_lt (jx Od) gG;have aK5:=DW.symm;have dX:Apart (some pq) (some aG):=Apart.of_lt (ze aA.lt) gG;have lK:=dX.symm;have gG:_≤pq:=Nat.le_trans E.size gG;have aS3:=Nat.le_trans LW.size gG;replace Od:=vt Od fq ah.nil;replace aA:=aA.ay fq ah.nil;replace E:=E.trans fq.no;replace HF:=HF.cons (ym gG);replace E:=E.cons (some pq);replace ak:=aj.grow ak (fun k e=>Or.inr (Nat.le_trans LW.size ((ym gG) k e)));replace aV:=aj.grow aV (fun k e=>Or.inr (Nat.le_trans M3.size ((ym gG) k e)));replace HF:=HF.on E;replace LW:=LW.step E ak;replace M3:=M3.step E aV;have SB:∀q9,aj [((Value.slice A1 k c1).ownBlock),(some aG)] q9→aj [(some pq),((Value.slice A1 k c1).ownBlock),(some aG)] q9:=(aj.skip (aj.keep (aj.keep aj.aU)));replace HF:=HF.less SB;replace ak:=fun k h=>ak k (SB k h);replace aV:=fun k h=>aV k (SB k h);clear SB;replace E:=aD (aj [((Value.slice A1 k c1).ownBlock),(some aG)]) w8;replace HF:=HF.and (Per.aW fT (ah.cons DW (ah.cons dX ah.nil)));refine DT ?_;intro v0 w9 On En KN;obtain ⟨A2,c2,rfl⟩:=gl On;replace KN:∀q9,((Value.slice A2 (k+1) c2).ownBlock)=some q9→((Value.slice A1 k c1).ownBlock)=some q9∨w8.heap.size≤q9:=KN;have bE:=(ze aA.lt);replace aA:=aA.ay En (ah.cons nL ah.nil);replace cK:Apart ((Value.slice A2 (k+1) c2).ownBlock) (some aG):=cK.turn KN bE;replace nL:=cK.symm;clear bE;have HY:eD (aj [((Value.slice A2 (k+1) c2).ownBlock),(some aG)]) (aj [((Value.slice A1 k c1).ownBlock),(some aG)]) w8:=(aj.grow (aj.grow aj.none_ (fun k e=>Or.inl ((aj.tail aj.head) k e))) (fun k e=>(KN k e).elim (fun e=>Or.inl (aj.head k e)) (fun h=>Or.inr (Nat.le_trans E.size h))));replace nM:∀q9,((Value.slice A2 (k+1) c2).ownBlock)=some q9→((Value.slice none 0 0).ownBlock)=some q9∨w2.heap.size≤q9:=fun k e=>(KN k e).elim (nM k) (fun h=>Or.inr (Nat.le_trans M3.size (Nat.le_trans E.size h)));replace E:=E.step1 En aj.head;have XT:=fun q9 (h:(aj [((Value.slice A2 (k+1) c2).ownBlock),(some aG)]) q9)=>(HY q9 h).elim (ak q9) (fun h=>Or.inr (Nat.le_trans LW.size h));have XT:=fun q9 (h:(aj [((Value.slice A2 (k+1) c2).ownBlock),(some aG)]) q9)=>(HY q9 h).elim (aV q9) (fun h=>Or.inr (Nat.le_trans M3.size h));replace M3:=M3.step E aV;replace aV:=XT;replace E:=aD (aj [((Value.slice A2 (k+1) c2).ownBlock),(some aG)]) w9;clear HY;replace Od:World.ownsRow w9 w.heap.size 5 1 (.slice A2 (k+1) c2) (k+1) (Pb (r.reverse.take (k+1))):=by
     exact an1
    clear On KN En;refine DU ?_;exact zo (k+1,A2,c2) (by show r.length-(k+1)<r.length-k;omega) ⟨rfl,rfl,rfl,rfl,rfl,rfl,trivial⟩ ⟨M3.step E aV,(by exact Od),(by exact aA),nM,om,DV (by simpa using hk1) hall hdig⟩
 ·
  have q:=of_decide_eq_false q;have hkr:k=r.length:=om;have hxs:r.reverse.take k=r.reverse:=by rw[hkr,←List.length_reverse,List.take_length]
  rw[hxs] at hall;rw[List.all_reverse] at hall;have Od9:=Od;rw[hxs] at Od9;have o8:=tY Od9 hall hkr;have hsv:val 10 (r.reverse.map dv)=(bL false (ya r)).natAbs:=by rw[qt];rfl
  have hsm:small 10 (r.reverse.map dv):=qnk (by rw[List.all_reverse];exact hall);have hlen:(r.reverse.map dv).length=r.length:=by simp
  have hcut:∀w',aQ w' w.heap.size A1 c1 (r.reverse.map dv)→Calls prog 106 #[.slice A1 k c1] w' fun e w2=>e= .returned (.slice A1 (av (bL false (ya r))).length c1)∧aQ w' w.heap.size A1 c1 (av (bL false (ya r)))∧w'=w2:=fun w' h=>by
   have h9:=qtk w.heap.size A1 c1 _ _ w' h hsm hsv (by rw[hlen];omega);rwa [hlen,←hkr] at h9
  refine yi ?_;refine za rfl (zb ai0 rfl ((hcut _ o8).mono ?_));rintro e dH ⟨rfl,o9,rfl⟩;refine ⟨_,rfl,?_⟩;have o9s:=o9.2;obtain ⟨HF,LW,ak,E⟩:=dx HF LW E ak (Y:=aj [(some aG)]) (aj.skip (aj.keep aj.aU)) (Per.qW Od (ah.cons cK ah.nil));clear Od;obtain ⟨HF,LW,E⟩:=cO HF LW E ak (Per.qW o9.1 (ah.cons cK.re ah.nil));have iq:ya r<au^30↔(av (bL false (ya r))).length≤540:=by rw[ot,qt]
  refine yu ?_;refine zg rfl (fun h3=>?_) (fun h3=>?_)
  ·
   have h3:=of_decide_eq_true h3;have e1:qy r=2:=by unfold qy;rw[if_pos ⟨hr,hall⟩,if_neg om]
   have e2:qz false r=0:=by unfold qz;rw[if_neg (by rintro ⟨_,_,h⟩;omega)]
   exact an2
  ·
   have h3:=of_decide_eq_false h3;have e1:qy r=0:=by unfold qy;rw[if_pos ⟨hr,hall⟩,if_pos om]
   have e2:qz false r=bL false (ya r):=by unfold qz;rw[if_pos ⟨hr,hall,om⟩]
   refine yu ?_;refine za rfl (qn (cs:=#[.bool false,.slice A1 (av (bL false (ya r))).length c1]) zG FT rfl rfl (zkz ?_));intro eG Bx aK;replace aA:=Bx;replace E:=E.step1 aK aj.head;obtain ⟨HF,LW,ak,E⟩:=dx HF LW E ak (Y:=No) (aj.skip aj.aU) (Per.aW aA ah.nil);refine zx ?_;have hlv:decide ((0:Int)<((av (bL false (ya r))).length:Int))=decide (ya r≠0):=by
    rcases Nat.eq_zero_or_pos (ya r) with h | h
    · rw[h];cases hq:false<;>simp[bL,zaq]
    · have:=Yd (j:=bL false (ya r)) (by intro e;have:=qt false (ya r);rw[e] at this;simp at this;omega);exact G7
   refine aN ?_;exact by rw[e1,e2];exact ⟨A1,c1,by rw[qhq,Bool.false_and];rfl,⟨(HF.on E).here.1.2,o9s⟩,(LW.step E ak).toBelow⟩
end
section
variable (s:ByteArray) (w:World)
theorem nN (neg:Bool) (hbs:s.data.toList=(if neg then [45] else [])) (hs:s.size≤140737488355328):Calls prog 54 #[.string s] w (yvk w 0 4):=by
 have _:=hs;cases neg
 · have hz:(s.size:Int)=0:=by have h9:s.data.toList.length=s.size:=Array.length_toList;rw[hbs] at h9;rw[←h9];rfl
   refine zc func54 rfl ntmps54 rfl ?_;have LW:=aD (No) w;have ak:=aS (No) w;have E:=aD (No) w;refine zm ?_;refine gj ?_;intro aG w2 aA aK aP;have aP:_≤aG:=Nat.le_trans E.size aP;have Ho:=Nat.le_trans LW.size aP;replace E:=E.trans aK.no;replace E:=E.cons (some aG);replace ak:=aj.grow ak (fun k e=>Or.inr (Nat.le_trans LW.size ((ym aP) k e)));refine Mq ?_;refine zy ?_;refine zm ?_;refine zf 11 (.bool false) rfl (by rw[hz];rfl) (jm ?_);exact an3
 · have hz:(s.size:Int)=1:=by have h9:s.data.toList.length=s.size:=Array.length_toList;rw[hbs] at h9;rw[←h9];rfl
   have O9:s[0]? =some 45:=by rw[nK,hbs];rfl
   refine zc func54 rfl ntmps54 rfl ?_;have LW:=aD (No) w;have ak:=aS (No) w;have E:=aD (No) w;refine zm ?_;refine gj ?_;intro aG w2 aA aK aP;have aP:_≤aG:=Nat.le_trans E.size aP;have Ho:=Nat.le_trans LW.size aP;replace E:=E.trans aK.no;replace E:=E.cons (some aG);replace ak:=aj.grow ak (fun k e=>Or.inr (Nat.le_trans LW.size ((ym aP) k e)));refine Mq ?_;refine zy ?_;refine zm ?_;refine zf 11 (.bool true) rfl (by rw[hz];rfl) (qfv ?_);refine rA ?_;exact an3
theorem ybv {neg:Bool}:qz neg []=0∧qy []=4:=by unfold qz qy;simp
theorem WQ (hs:s.size≤140737488355328):Calls prog 54 #[.string s] w (yvk w (qz (Qr s.data.toList) (ky s.data.toList)) (qy (ky s.data.toList))):=by
 generalize hbs:s.data.toList=bs
 unfold Qr ky;by_cases h:bs.head? =some 45
 · rw[decide_eq_true h,if_pos h];obtain ⟨r,rfl⟩:∃r,bs=45::r:=by cases bs with | nil=>cases h | cons b r=>exact ⟨r,by rw[Option.some.inj h]⟩
   by_cases hr:r= []
   · subst hr;obtain ⟨e1,e2⟩:=ybv (neg:=true);show Calls _ _ _ _ (yvk w (qz true []) (qy []))
     rw[e1,e2];exact nN s w true hbs hs
   · exact WM s r w hr hbs hs
 · rw[decide_eq_false h,if_neg h];by_cases hr:bs= []
   · subst hr;obtain ⟨e1,e2⟩:=ybv (neg:=false);rw[e1,e2];exact nN s w false hbs hs
   · exact WO s bs w hr hbs h hs
end
end Go.Proofs.YtmnmebdmpigddaaGreatDoor

/- Texts of this claim. -/
import Derived.Test.YtmnmebdmpigddaaGreatDoorL17
set_option maxRecDepth 100000
set_option maxHeartbeats 20000000
namespace Go.Proofs.YtmnmebdmpigddaaGreatDoor
open Go.RowKit Proofs.Tryz
theorem Cj {P Q:Prop} (k:Q) (h:(Unit→Q)→P:=by
 intro zK;refine ye ?_;refine mQ ?_;refine za rfl (vb (j:=x.w-1) fJ oH rfl rfl om om ?_);exact zK ()):P:=h fun _=>k
theorem mR {P Q:Prop} (k:Q) (h:(Unit→Q)→P:=by
 intro zK;refine zr ?_;refine yy 6 (.int .i64 ((x.w-1:Nat):Int)) rfl ((by congr 1;omega:(.int .i64 ((x.w:Int)-1):Value)=_)) ?_;exact zK ()):P:=h fun _=>k
theorem qaz {P Q:Prop} (k:Q) (h:(Unit→Q)→P:=by
 intro zK;refine ye ?_;refine zp (qq sz4 rfl rfl Ba rfl rfl (xA hlx (by decide:803<804)) (FP hlx true) ?_);exact zK ()):P:=h fun _=>k
theorem mU {P Q:Prop} (k:Q) (h:(Unit→Q)→P:=by
 intro zK;refine zy ?_;refine yt ?_;refine zu ?_;refine yy 6 (.int .i64 ((x.w-1:Nat):Int)) rfl ((by congr 1;omega:(.int .i64 ((x.w:Int)-1):Value)=_)) (yy 5 (.int .i64 (((x.r-1:Nat):Int)-1)) rfl ((by congr 1;omega:(.int .i64 (((x.r:Int)-1)-1):Value)=_)) ?_);exact zK ()):P:=h fun _=>k
theorem SX {P:Prop} (h:P:=by
 exact yk () ⟨rfl,rfl,trivial⟩ ⟨M19.step E aM8,(by exact Ba),trivial⟩):P:=h
theorem SY {P:Prop} (h:P:=by
 exact yk () ⟨rfl,rfl,rfl,trivial⟩ ⟨M4.step E Xx,(by exact Ba),trivial⟩):P:=h
theorem Ta {P:Prop} (h:P:=by
 rcases Nat.decEq R 0 with h | h
 · rw[bne_iff_ne.2 om] at h3;cases h3
 · exact h):P:=h
attribute [local irreducible] OW RS CW EW
theorem Ck {k:Nat} (h:wX k):(lcB k).size=(rQ k).length:=by
 rw[←(vS h).2.1,List.length_map];show (Go.Pinned.cheatRows.getD k (0,[])).2.toArray.size=_
 rw[List.size_toArray]
theorem ao5 {k:Nat} (h:wX k) (i:Nat) (hi:i<(rQ k).length):(rQ k)[i]? =some (aL (lcB k) i):=by
 rw[←Ck h] at hi;rw[←va hi,←(vS h).2.1,List.getElem?_map];show _=((Go.Pinned.cheatRows.getD k (0,[])).2.toArray[i]?).map _
 rw[List.getElem?_toArray]
theorem aDx {c k C:Nat} (hc:c≤9) (hk:k≤60) (hC:C=c*2^k):IntKind.u64.wrap (((c:Nat):Int)*2^(min ((k:Nat):Int).toNat IntKind.u64.bits))=((C:Nat):Int):=by
 rw[hC,WQ c k om];have h1:2^k≤2^60:=Nat.pow_le_pow_right de hk;have h2:(2:Nat)^60=1152921504606846976:=de;have h3:c*2^k≤9*2^k:=Nat.mul_le_mul_right _ hc;rw[Nat.mod_eq_of_lt om]
theorem ae4 (n D:Nat) (h:n<18446744073709551616) (hD:D=n/10):IntKind.u64.wrap (((n:Nat):Int).tdiv 10)=((D:Nat):Int):=by
 rw[hD,Int.tdiv_eq_ediv_of_nonneg om];exact wrap_u64 om
theorem Tc {d:List Nat} {w x:Nat} (h:w<800):rR d w x=d.set w (x+48):=by unfold rR;rw[if_pos h]
theorem quv {d:List Nat} {w x:Nat} (h:¬w<800):rR d w x=d:=by unfold rR;rw[if_neg h]
theorem ae5 {b:Bool} {w x:Nat} (h:w<800):oW b w x=b:=by unfold oW;rw[if_pos h]
theorem Td {b:Bool} {w x:Nat} (h:¬w<800) (hx:x≠0):oW b w x=true:=by unfold oW;rw[if_neg h,if_pos hx]
theorem Te {b:Bool} {w x:Nat} (hx:x=0):oW b w x=b:=by
 unfold oW;split
 · rfl
 · rw[if_neg (fun h=>h hx)]
section
variable (w:World) {bp op cp bf of cf bl ol cl:Nat}
theorem Tf (ga k:Nat) (t:Dec) (hk:wX k) (ht:bH t) (h0:0<t.nd) (hdp:-20000000≤t.dp∧t.dp≤20000000) (hB:aB w ga 229 (yg t)) (hT:dK bp op cp bf of cf bl ol cl w) (hg:gV bp bf bl ga) :
 Calls prog 270 #[.pointer (some ⟨ga,0,none⟩),.int .u64 ((k:Nat):Int)] w fun e w'=>e= .returned (.tuple #[])∧aB w' ga 229 (yg (vp t k))∧Ext (ak [some ga]) w w':=by
 have hl:=ht.len;have hnd:=ht.hn;have hS:=vQ hk;have Yp:=hS.k1;have aDj:=(vS hk).2.2;have aD2:=hS.d1;obtain ⟨hdl,_⟩:=qhz ht h0 hk;obtain ⟨L,hL⟩:∃L,L=qe t k:=⟨_,rfl⟩;rw[←hL] at hdl;refine zc func270 rfl ntmps270 rfl ?_;have Ba:=hB;have HF:Per (ak [(some ga)]) w (fun _=>True):=Per.xE;have LW:=aF (ak [(some ga)]) w;have aj:=bD (ak [(some ga)]) w;have E:=aF (ak [(some ga)]) w;obtain ⟨HF,LW,E⟩:=cZ HF LW E aj (Per.I4 hT hg (fun q h=>h.elim (fun e=>Nat.le_of_eq (Option.some.inj e).symm) (fun e=>e.elim)));refine zu ?_;refine za rfl (jj Eb rfl rfl (HF.on E).here.2.fZ.head (aQ ?_));refine za rfl (jx (j:=k) Eb ZW rfl rfl rfl aDj (aQ ?_));refine za rfl (jj underlying3 rfl rfl ((HF.on E).here.2.fZ.delta k hk) (zv ?_));replace HF:=HF.on E;replace LW:=LW.step E aj;replace E:=aF (ak [(some ga)]) w;refine yw (ι:=Unit) (fun _=>[(0,.pointer (some ⟨ga,0,none⟩)),(1,.int .u64 ((k:Nat):Int)),(4,.int .i64 ((nU k:Nat):Int)),(30,.bool (jh (t.d.take t.nd) (rQ k)))]) (fun _ w'=>Ext (ak [(some ga)]) w w'∧aB w' ga 229 (yg t)∧(True)) ?_ ?_
 ·
  have M1:=aF (ak [(some ga)]) w;have dM:=bD (ak [(some ga)]) w;have OY:∀q9,(ak (km [])) q9→q9<(World.drew w).heap.size→(ak [(some ga)]) q9:=fun k h _=>(ak.none_) k h;refine yx (ak [(some ga)]) (ak.grow ak.none_ (zg Ba.lt)) [] [] (xq [Fx.of (.pointer (some ⟨ga,0,none⟩)),
   Fx.of (.pointer (some ⟨ga,0,none⟩)),
   Fx.of (.pointer (some ⟨ga,0,none⟩)),
   Fx.of (.pointer (some ⟨ga,0,none⟩)),
   Fx.of (.pointer (some ⟨ga,0,none⟩)),
   Fx.of (.pointer (some ⟨ga,800,none⟩)),
   Fx.of (.int .i64 (t.nd:Int)),
   Fx.of (.slice (some ⟨ga,0,none⟩) t.nd 800),
   Fx.of (.slice (some ⟨bl,ol,none⟩) 61 cl),
   Fx.of (.int .u64 ((k:Nat):Int)),
   Fx.of (.pointer (some ⟨bl,ol+k*2,none⟩)),
   Fx.of (.pointer (some ⟨bl,ol+k*2+1,none⟩)),
   Fx.of (.string (lcB k)),
   Fx.of (.bool (jh (t.d.take t.nd) (rQ k)))]) mixed rfl trivial (fun _ h=>by cases h) ?_ ?_
  · refine ⟨arm,arm,arm,arm,arm,arm,?_,?_,?_,arm,?_,arm,?_,?_,trivial⟩
    · refine qh ?_;intro vs X wq K;have LE:=K.1;exact ya underlying3 rfl rfl (Ba.drew.av LE ah.nil) (wZ hl t.nd rfl) ⟨Below.refl _ _,Left.of rfl⟩
    · refine qh ?_;intro vs X wq K;exact D6 (h:=t.nd) fJ oH rfl rfl rfl rfl hnd ⟨Below.refl _ _,Left.of rfl⟩
    · intro vs X wq K;have LE:=K.1;exact jj Eb rfl rfl (HF.on (E.drew.trans (LE.mono OY))).here.2.fZ.head ⟨Below.refl _ _,Left.of rfl⟩
    · refine qh ?_;intro vs X wq K;exact jx (j:=k) Eb ZW rfl rfl rfl aDj ⟨Below.refl _ _,Left.of rfl⟩
    · refine qh ?_;intro vs X wq K;have LE:=K.1;exact jj u9 rfl rfl ((HF.on (E.drew.trans (LE.mono OY))).here.2.fZ.cut k hk) ⟨Below.refl _ _,Left.of rfl⟩
    · refine qh ?_;intro vs X wq K;have LE:=K.1;refine zb ax9 rfl ((F9 _ ga t t.nd (lcB k) (rQ k) hl hnd (Ck hk) (ao5 hk) (Ba.drew.av LE ah.nil)).mono ?_);exact II
  intro vs w3 LE AO AL AF AA;have fC:=Ba;replace Ba:=Ba.drew.av LE ah.nil;replace E:=E.drew.trans (LE.mono OY);obtain ⟨_,e13,k13⟩:=AL.2.2.2.2.2.2.2.2.2.2.2.2.2.1;refine vo (τ:=[(0,_),(1,_),(4,_),(30,.bool (jh (t.d.take t.nd) (rQ k)))]) ⟨rfl,rfl,rfl,congrArg some e13,trivial⟩ ?_;clear AL AF AA LE AO OY e13 k13 fC;exact yk () ⟨rfl,rfl,rfl,rfl,trivial⟩ ⟨M1.step E dM,(by exact Ba),trivial⟩
 ·
  have d9:=(zg Ba.lt);clear Ba;rintro _ w2 ⟨M1,Ba,_⟩;replace E:=E.trans M1;replace LW:=LW.step E aj;replace E:=aF (ak [(some ga)]) w2;replace LW:=LW.step E aj;replace E:=aF (ak [(some ga)]) w2;refine yw (ι:=Unit) (fun _=>[(0,.pointer (some ⟨ga,0,none⟩)),(1,.int .u64 ((k:Nat):Int)),(4,.int .i64 ((L:Nat):Int))]) (fun _ w'=>Ext (ak [(some ga)]) w2 w'∧aB w' ga 229 (yg t)∧(True)) ?_ ?_
  ·
   have M4:=aF (ak [(some ga)]) w2;have Xx:=bD (ak [(some ga)]) w2;refine zj rfl (fun hb=>?_) (fun hb=>?_)
   ·
    have e:L=nU k-1:=by rw[hL];unfold qe;rw[if_pos hb]
    refine zu ?_;refine yt ?_;refine zu ?_;refine yy 4 (.int .i64 ((L:Nat):Int)) rfl ((by congr 1;omega:(.int .i64 (((nU k:Nat):Int)-1):Value)=_)) ?_;exact SY
   ·
    have e:L=nU k:=by rw[hL];unfold qe;rw[if_neg (by rw[hb];decide)]
    refine aQ ?_;refine yy 4 (.int .i64 ((L:Nat):Int)) rfl ((by rw[e]:(.int .i64 ((nU k:Nat):Int):Value)=_)) ?_;exact SY
  ·
   have d9:=(zg Ba.lt);clear Ba;rintro _ w5 ⟨M4,Ba,_⟩;replace E:=E.trans M4;replace LW:=LW.step E aj;replace E:=aF (ak [(some ga)]) w5;refine zv ?_;refine mM ?_;refine yu ?_;refine mM ?_;refine aQ ?_;refine yo ?_;refine jm ?_;refine yt ?_;refine zq ?_;replace LW:=LW.step E aj;replace E:=aF (ak [(some ga)]) w5;refine yw (ι:=BG) (fun x=>[(0,.pointer (some ⟨ga,0,none⟩)),(4,.int .i64 ((L:Nat):Int)),(6,.int .i64 (x.w:Int)),(7,.int .u64 (x.n:Int))]) (fun x w'=>Ext (ak [(some ga)]) w5 w'∧aB w' ga 229 (yg { t with d:=x.d,tr:=x.tr })∧(x=lsA t k)) ?_ ?_
   ·
    have M6:=aF (ak [(some ga)]) w5;have SG:=bD (ak [(some ga)]) w5;refine aQ ?_;replace M6:=M6.step E SG;replace E:=aF (ak [(some ga)]) w5;refine jd (ι:=BG) (fun x=>[(0,.pointer (some ⟨ga,0,none⟩)),(1,.int .u64 ((k:Nat):Int)),(4,.int .i64 ((L:Nat):Int)),(5,.int .i64 ((x.r:Int)-1)),(6,.int .i64 (x.w:Int)),(7,.int .u64 (x.n:Int))]) (fun x w'=>Ext (ak [(some ga)]) w5 w'∧aB w' ga 229 (yg { t with d:=x.d,tr:=x.tr })∧(LU t k x∧qm yov (qwk k) x=lsA t k)) (fun x=>x.r) (⟨t.d,t.nd,t.nd+L,0,t.tr⟩) ⟨rfl,rfl,rfl,rfl,rfl,rfl,trivial⟩ ⟨Ext.refl _ _,(by exact Ba),by rw[hL];exact rU ht,by rw[hL];rfl⟩ ?_;have d9:=(zg Ba.lt);clear Ba;rintro x w9 ⟨M8,Ba,⟨hI,hu⟩⟩;have wh:GR (ak [(some ga)]) (ak [(some ga)]) w5:=(ak.grow ak.none_ (fun k e=>Or.inl (ak.head k e)));replace E:=E.trans M8;replace M6:=M6.step E SG;replace E:=aF (ak [(some ga)]) w9;have hlx:({ t with d:=x.d,tr:=x.tr }:Dec).d.length=800:=hI.len;have hxw:=hI.hw;rw[←hL] at hxw;have hxr:=hI.hr;refine zr ?_;refine zj rfl (fun h1=>?_) (fun h1=>?_)
    ·
     have h1:0<x.r:=by have h1:=of_decide_eq_true h1;omega
     have hdone:yov x=false:=decide_eq_false om;obtain ⟨hkeep,_,hN⟩:=rT ht hI hdone;have aM9:=sw hN Yp.2;have hdg:=ht.dh (x.r-1) om;rw[←hI.old (x.r-1) om] at hdg;obtain ⟨C,hC⟩:∃C,C=(dg x.d (x.r-1)-48)*2^k:=⟨_,rfl⟩;obtain ⟨V,hV⟩:∃V,V=Ni k x:=⟨_,rfl⟩;have hVC:V=x.n+C:=by rw[hV,hC];rfl
     rw[←hV] at aM9;obtain ⟨D,hD⟩:∃D,D=V/10:=⟨_,rfl⟩;obtain ⟨R,hR⟩:∃R,R=V%10:=⟨_,rfl⟩;have hst:qwk k x= ⟨rR x.d (x.w-1) R,x.r-1,x.w-1,D,oW x.tr (x.w-1) R⟩:=by rw[hR,hD,hV];rfl
     rw[qx hdone] at hu;rw[hst] at hkeep hu;refine yq ?_;refine za rfl (vb (j:=x.r-1) fJ oH rfl rfl om om (za rfl (ya u5 rfl rfl Ba (Yn hlx (dg x.d (x.r-1)) (x.r-1) rfl om) (mO ?_))));refine zhk ?_;refine aQ ?_;refine zd 57 (.int .u64 ((dg x.d (x.r-1)-48:Nat):Int)) rfl (by congr 1;omega) (za rfl (gk rfl rfl om (aDx om Yp.2 hC) (oh ?_)));refine zt ?_;refine zd 61 (.int .u64 ((V:Nat):Int)) rfl (by congr 1;omega) (za rfl (yvx rfl rfl de (ae4 V D om hD) (zr ?_)));refine WR ?_;refine zhk ?_;refine zt ?_;refine yt ?_;refine zy ?_;refine ze 9 (.int .u64 ((R:Nat):Int)) rfl (by congr 1;omega) (zj rfl (fun h2=>?_) (fun h2=>?_))
     ·
      have h2:x.w-1<800:=by have h2:=of_decide_eq_true h2;omega
      rw[Tc h2,ae5 h2] at hu hkeep;refine Cj ?_;refine zd 75 (.int .u8 ((R+48:Nat):Int)) rfl (rfl) (ygk ?_);intro dI Bx Ea;replace Ba:aB dI ga 229 (yg { t with d:=x.d.set (x.w-1) (R+48),tr:=x.tr }):=Bx;replace E:=E.step1 Ea ak.head;refine mU ?_;exact yc (⟨x.d.set (x.w-1) (R+48),x.r-1,x.w-1,D,x.tr⟩) (by show x.r-1<x.r;omega) ⟨rfl,rfl,rfl,rfl,rfl,rfl,trivial⟩ ⟨M8.step E wh,(by exact Ba),hkeep,hu⟩
     ·
      have h2:¬x.w-1<800:=by have h2:=of_decide_eq_false h2;omega
      refine zt ?_;refine zj rfl (fun h3=>?_) (fun h3=>?_)
      ·
       have h3:R≠0:=fun e=>absurd h3 (by rw[e];decide);rw[quv h2,Td h2 h3] at hu hkeep;refine qaz ?_;intro dS Bx Ea;replace Ba:aB dS ga 229 (yg { t with d:=x.d,tr:=true }):=Bx;replace E:=E.step1 Ea ak.head;refine mU ?_;exact yc (⟨x.d,x.r-1,x.w-1,D,true⟩) (by show x.r-1<x.r;omega) ⟨rfl,rfl,rfl,rfl,rfl,rfl,trivial⟩ ⟨M8.step E wh,(by exact Ba),hkeep,hu⟩
      ·
       have h3:R=0:=by
        exact Ta
       rw[quv h2,Te h3] at hu hkeep;refine mU ?_;exact yc (⟨x.d,x.r-1,x.w-1,D,x.tr⟩) (by show x.r-1<x.r;omega) ⟨rfl,rfl,rfl,rfl,rfl,rfl,trivial⟩ ⟨M8.step E wh,(by exact Ba),hkeep,hu⟩
    ·
     have h1:x.r=0:=by have h1:=of_decide_eq_false h1;omega
     have hdone:yov x=true:=decide_eq_true h1;rw[yv hdone] at hu;refine ye ?_;exact yk x ⟨rfl,rfl,rfl,rfl,trivial⟩ ⟨M6.step E SG,(by exact Ba),hu⟩
   ·
    have d9:=(zg Ba.lt);clear Ba;rintro x w7 ⟨M6,Ba,hx⟩;replace E:=E.trans M6;replace LW:=LW.step E aj;replace E:=aF (ak [(some ga)]) w7;refine aQ ?_;replace LW:=LW.step E aj;replace E:=aF (ak [(some ga)]) w7;refine yw (ι:=BG) (fun x=>[(0,.pointer (some ⟨ga,0,none⟩)),(4,.int .i64 ((L:Nat):Int))]) (fun x w'=>Ext (ak [(some ga)]) w7 w'∧aB w' ga 229 (yg { t with d:=x.d,tr:=x.tr })∧(x=lsB t k)) ?_ ?_
    ·
     have IK:=aF (ak [(some ga)]) w7;have Tg:=bD (ak [(some ga)]) w7;have hS2:=rV ht h0 hk;refine aQ ?_;replace IK:=IK.step E Tg;replace E:=aF (ak [(some ga)]) w7;refine jd (ι:=BG) (fun x=>[(0,.pointer (some ⟨ga,0,none⟩)),(4,.int .i64 ((L:Nat):Int)),(6,.int .i64 (x.w:Int)),(7,.int .u64 (x.n:Int))]) (fun x w'=>Ext (ak [(some ga)]) w7 w'∧aB w' ga 229 (yg { t with d:=x.d,tr:=x.tr })∧(LV t k x∧qm yok qwq x=lsB t k)) (fun x=>x.w) x ⟨rfl,rfl,rfl,rfl,trivial⟩ ⟨Ext.refl _ _,(by exact Ba),by rw[hx];exact hS2,by rw[hx];rfl⟩ ?_;have d9:=(zg Ba.lt);clear Ba;rintro x fM ⟨M14,Ba,⟨hI,hu⟩⟩;have ao6:GR (ak [(some ga)]) (ak [(some ga)]) w7:=(ak.grow ak.none_ (fun k e=>Or.inl (ak.head k e)));replace E:=E.trans M14;replace IK:=IK.step E Tg;replace E:=aF (ak [(some ga)]) fM;have hlx:({ t with d:=x.d,tr:=x.tr }:Dec).d.length=800:=hI.len;have aQ3:=su hI.small Yp.2;refine zr ?_;refine zj rfl (fun h1=>?_) (fun h1=>?_)
     ·
      have h1:0<x.n:=by have h1:=of_decide_eq_true h1;omega
      have hdone:yok x=false:=decide_eq_false om;obtain ⟨hkeep,hw1,hw2⟩:=rW ht hk h0 hI hdone;obtain ⟨D,hD⟩:∃D,D=x.n/10:=⟨_,rfl⟩;obtain ⟨R,hR⟩:∃R,R=x.n%10:=⟨_,rfl⟩;have hst:qwq x= ⟨rR x.d (x.w-1) R,x.r,x.w-1,D,oW x.tr (x.w-1) R⟩:=by rw[hR,hD];rfl
      rw[qx hdone] at hu;rw[hst] at hkeep hu;refine zt ?_;refine za rfl (yvx rfl rfl de (ae4 x.n D om hD) (zr ?_));refine WR ?_;refine zhk ?_;refine zt ?_;refine yt ?_;refine zy ?_;refine ze 11 (.int .u64 ((R:Nat):Int)) rfl (by congr 1;omega) (zj rfl (fun h2=>?_) (fun h2=>?_))
      ·
       have h2:x.w-1<800:=by have h2:=of_decide_eq_true h2;omega
       rw[Tc h2,ae5 h2] at hu hkeep;refine Cj ?_;refine zd 101 (.int .u8 ((R+48:Nat):Int)) rfl (rfl) (ygk ?_);intro w16 Bx Ea;replace Ba:aB w16 ga 229 (yg { t with d:=x.d.set (x.w-1) (R+48),tr:=x.tr }):=Bx;replace E:=E.step1 Ea ak.head;refine mR ?_;exact yc (⟨x.d.set (x.w-1) (R+48),x.r,x.w-1,D,x.tr⟩) (by show x.w-1<x.w;omega) ⟨rfl,rfl,rfl,rfl,trivial⟩ ⟨M14.step E ao6,(by exact Ba),hkeep,hu⟩
      ·
       have h2:¬x.w-1<800:=by have h2:=of_decide_eq_false h2;omega
       refine zt ?_;refine zj rfl (fun h3=>?_) (fun h3=>?_)
       ·
        have h3:R≠0:=fun e=>absurd h3 (by rw[e];decide);rw[quv h2,Td h2 h3] at hu hkeep;refine qaz ?_;intro nS Bx Ea;replace Ba:aB nS ga 229 (yg { t with d:=x.d,tr:=true }):=Bx;replace E:=E.step1 Ea ak.head;refine mR ?_;exact yc (⟨x.d,x.r,x.w-1,D,true⟩) (by show x.w-1<x.w;omega) ⟨rfl,rfl,rfl,rfl,trivial⟩ ⟨M14.step E ao6,(by exact Ba),hkeep,hu⟩
       ·
        have h3:R=0:=by
         exact Ta
        rw[quv h2,Te h3] at hu hkeep;refine mR ?_;exact yc (⟨x.d,x.r,x.w-1,D,x.tr⟩) (by show x.w-1<x.w;omega) ⟨rfl,rfl,rfl,rfl,trivial⟩ ⟨M14.step E ao6,(by exact Ba),hkeep,hu⟩
     ·
      have h1:x.n=0:=by have h1:=of_decide_eq_false h1;omega
      have hdone:yok x=true:=decide_eq_true h1;rw[yv hdone] at hu;refine ye ?_;exact yk x ⟨rfl,rfl,trivial⟩ ⟨IK.step E Tg,(by exact Ba),hu⟩
    ·
     have d9:=(zg Ba.lt);clear Ba;rintro x fK ⟨IK,Ba,hx⟩;replace E:=E.trans IK;replace LW:=LW.step E aj;replace E:=aF (ak [(some ga)]) fK;obtain ⟨hE,_⟩:=BH ht h0 hk;rw[←hx] at hE;have hlx:({ t with d:=x.d,tr:=x.tr }:Dec).d.length=800:=hE.len;refine zv ?_;refine za rfl (ya underlying3 rfl rfl Ba (wZ hlx (t.nd) rfl) (aQ ?_));refine yo ?_;refine zu ?_;refine zd 116 (.int .i64 ((t.nd+L:Nat):Int)) rfl (rfl) (zp (qq G9 rfl rfl Ba rfl rfl (xA hlx (by decide:800<804)) (l6 hlx (t.nd+L)) ?_));intro fF Bx Ea;replace Ba:aB fF ga 229 (yg { t with d:=x.d,nd:=t.nd+L,tr:=x.tr }):=Bx;replace E:=E.step1 Ea ak.head;have qH:({ t with d:=x.d,nd:=t.nd+L,tr:=x.tr }:Dec).d.length=800:=hE.len;refine yu ?_;refine za rfl (ya underlying3 rfl rfl Ba (wZ qH (t.nd+L) rfl) (zq ?_));replace LW:=LW.step E aj;replace E:=aF (ak [(some ga)]) fF;refine yw (ι:=Unit) (fun _=>[(0,.pointer (some ⟨ga,0,none⟩)),(4,.int .i64 ((L:Nat):Int))]) (fun _ w'=>Ext (ak [(some ga)]) fF w'∧aB w' ga 229 (yg { t with d:=x.d,nd:=if 800≤t.nd+L then 800 else t.nd+L,tr:=x.tr })∧(True)) ?_ ?_
     ·
      have M19:=aF (ak [(some ga)]) fF;have aM8:=bD (ak [(some ga)]) fF;refine zj rfl (fun h1=>?_) (fun h1=>?_)
      ·
       have h1:800≤t.nd+L:=by have h1:=of_decide_eq_true h1;omega
       refine ye ?_;refine zp (qq G9 rfl rfl Ba rfl rfl (xA qH (by decide:800<804)) (l6 qH 800) ?_);intro Aj Bx Ea;replace Ba:aB Aj ga 229 (yg { t with d:=x.d,nd:=800,tr:=x.tr }):=Bx;replace E:=E.step1 Ea ak.head;refine aQ ?_;replace Ba:aB Aj ga 229 (yg { t with d:=x.d,nd:=if 800≤t.nd+L then 800 else t.nd+L,tr:=x.tr }):=by rw[if_pos h1];exact Ba
       exact SX
      ·
       have h1:¬800≤t.nd+L:=by have h1:=of_decide_eq_false h1;omega
       refine aQ ?_;replace Ba:aB fF ga 229 (yg { t with d:=x.d,nd:=if 800≤t.nd+L then 800 else t.nd+L,tr:=x.tr }):=by rw[if_neg h1];exact Ba
       exact SX
     ·
      have d9:=(zg Ba.lt);clear Ba;rintro _ Qz ⟨M19,Ba,_⟩;replace E:=E.trans M19;replace LW:=LW.step E aj;replace E:=aF (ak [(some ga)]) Qz;have hlz:({ t with d:=x.d,nd:=if 800≤t.nd+L then 800 else t.nd+L,tr:=x.tr }:Dec).d.length=800:=hE.len;have aMq:({ t with d:=x.d,nd:=if 800≤t.nd+L then 800 else t.nd+L,dp:=t.dp+((L:Nat):Int),tr:=x.tr }:Dec).d.length=800:=hE.len;refine zv ?_;refine za rfl (ya underlying3 rfl rfl Ba (wm hlz t.dp rfl) (aQ ?_));refine yo ?_;refine zu ?_;refine zp (qq G9 rfl rfl Ba rfl rfl (xA hlz (by decide:801<804)) (qkk hlz (t.dp+((L:Nat):Int))) ?_);intro Fb Bx Ea;replace Ba:aB Fb ga 229 (yg { t with d:=x.d,nd:=if 800≤t.nd+L then 800 else t.nd+L,dp:=t.dp+((L:Nat):Int),tr:=x.tr }):=Bx;replace E:=E.step1 Ea ak.head;refine ye ?_;refine za rfl (zb aa6 rfl ((Ci _ ga _ aMq (by show (if 800≤t.nd+L then 800 else t.nd+L)≤800;split<;>omega) Ba).mono ?_));rintro e wU ⟨rfl,hB,hE⟩;refine ⟨_,rfl,?_⟩;replace Ba:=hB;clear hB;replace E:=E.step1 hE ak.head;clear hE;refine aQ ?_;refine Vo rfl ?_;exact ⟨rfl,by unfold vp;rw[←hx,←hL];exact Ba,(LW.step E aj)⟩
end
end Go.Proofs.YtmnmebdmpigddaaGreatDoor
namespace Go.Proofs.YtmnmebdmpigddaaGreatDoor
open Go.RowKit Proofs.Tryz
theorem Cm {P Q:Prop} (k:Q) (h:(Unit→Q)→P:=by
 intro zK;refine zt ?_;refine za rfl (ya underlying3 rfl rfl Ba (wZ hl t.nd rfl) (ye ?_));refine ze 4 (.bool false) rfl (by rw[jw om]<;>rfl) (yu ?_);exact zK ()):P:=h fun _=>k
theorem mV {P Q:Prop} (k:Q) (h:(Unit→Q)→P:=by
 intro zK;refine bV rfl (ya underlying3 rfl rfl (HF.on E).here.2 (wZ hl t.nd rfl) (ye ?_));exact zK ()):P:=h fun _=>k
theorem yzz {P Q:Prop} (k:Q) (h:(Unit→Q)→P:=by
 intro zK;refine za rfl (ya underlying3 rfl rfl (HF.on E).here.2 (wm hl t.dp rfl) ?_);exact zK ()):P:=h fun _=>k
theorem ae6 {P:Prop} (h:P:=by
 refine za rfl (vb (j:=p.toNat) fJ oH rfl rfl om om (za rfl (ya u5 rfl rfl (HF.on E).here.2 (Yn hl (dg t.d (p.toNat)) (p.toNat) rfl om) (zv ?_))));refine yy 4 (.bool (decide (53≤dg t.d p.toNat))) rfl (xr om) (aQ ?_);exact ⟨by rw[e];rfl,(LW.step E aj).toBelow⟩):P:=h
attribute [local irreducible] OW RS CW EW
theorem Ti {t:Dec} {k:Nat} (h:k≤60):gB t k=js t k:=by
 unfold gB Nk;rw[yv (done:=yhq) (step:=yux) (s:=⟨t,k⟩) (decide_eq_true h)]
theorem Tj (n:Nat):IntKind.u64.wrap (((n:Nat):Int)*10)=((n*10%18446744073709551616:Nat):Int):=by
 have e:((n:Nat):Int)*10=((n*10:Nat):Int):=om;rw[e];exact yez _
theorem aE0 (n m:Nat):IntKind.u64.wrap (((n:Nat):Int)+((m:Nat):Int))=(((n+m)%18446744073709551616:Nat):Int):=by
 have e:((n:Nat):Int)+((m:Nat):Int)=((n+m:Nat):Int):=om;rw[e];exact yez _
theorem ao7 (c:Nat):((.bool (((c:Nat):Int)%2 !=0)):Value)= .bool (decide (c%2≠0)):=by
 congr 1
 by_cases h:c%2=0
 · rw[decide_eq_false (fun e=>e h),show ((c:Nat):Int)%2=0 from om];rfl
 · rw[decide_eq_true h];exact bne_iff_ne.2 om
section
variable (w:World) {bp op cp bf of cf bl ol cl:Nat}
theorem mW (ga k:Nat) (t:Dec) (hk:wX k) (ht:bH t) (h0:0<t.nd) (hdp:-20000000≤t.dp∧t.dp≤20000000) (hB:aB w ga 229 (yg t)) (hT:dK bp op cp bf of cf bl ol cl w) (hg:gV bp bf bl ga) :
 Calls prog 241 #[.pointer (some ⟨ga,0,none⟩),.int .i64 ((k:Nat):Int)] w fun e w'=>e= .returned (.tuple #[])∧aB w' ga 229 (yg (vp t k))∧Ext (ak [some ga]) w w':=by
 have hl:=ht.len;have Yp:=(vQ hk).k1;refine zc func241 rfl ntmps241 rfl ?_;have Ba:=hB;have HF:Per (ak [(some ga)]) w (fun _=>True):=Per.xE;have LW:=aF (ak [(some ga)]) w;have aj:=bD (ak [(some ga)]) w;have E:=aF (ak [(some ga)]) w;obtain ⟨HF,LW,E⟩:=cZ HF LW E aj (Per.I4 hT hg (fun q h=>h.elim (fun e=>Nat.le_of_eq (Option.some.inj e).symm) (fun e=>e.elim)));refine Cm ?_;refine ze 10 (.bool true) rfl (by rw[decide_eq_true om]<;>rfl) (zq ?_);refine zlq (zr ?_);refine ze 14 (.bool false) rfl (by rw[decide_eq_false om]<;>rfl) (qo ?_);refine za rfl (jl Oo underlying3 rfl (wrap_u64 om) (za rfl (zb ax7 rfl ((Tf _ ga k t hk ht h0 hdp Ba (HF.on E).here.2 hg).mono ?_))));rintro e w1 ⟨rfl,hB,hE⟩;refine ⟨_,rfl,?_⟩;replace Ba:=hB;clear hB;replace E:=E.step1 hE ak.head;clear hE;refine zu ?_;refine Vo rfl ?_;exact ⟨rfl,Ba,(LW.step E aj)⟩
theorem mX (ga k:Nat) (t:Dec) (h:Nl ⟨t,k⟩) (hB:aB w ga 229 (yg t)) :
 Calls prog 241 #[.pointer (some ⟨ga,0,none⟩),.int .i64 (-((k:Nat):Int))] w fun e w'=>e= .returned (.tuple #[])∧aB w' ga 229 (yg (gB t k))∧Ext (ak [some ga]) w w':=by
 have hl:t.d.length=800:=h.dec.len;have h0:0<t.nd:=h.pos;have hk1:1≤k∧k≤300000:=h.k1;refine zc func241 rfl ntmps241 rfl ?_;have Ba:=hB;have LW:=aF (ak [(some ga)]) w;have aj:=bD (ak [(some ga)]) w;have E:=aF (ak [(some ga)]) w;refine Cm ?_;refine ze 10 (.bool false) rfl (by rw[decide_eq_false om]<;>rfl) (yu ?_);refine ze 23 (.bool true) rfl (by rw[decide_eq_true om]<;>rfl) (zu ?_);replace LW:=LW.step E aj;replace E:=aF (ak [(some ga)]) w;refine yw (ι:=ShS) (fun s=>[(0,.pointer (some ⟨ga,0,none⟩)),(1,.int .i64 (-(s.k:Int)))]) (fun s w'=>Ext (ak [(some ga)]) w w'∧aB w' ga 229 (yg s.t)∧(s=Nk t k)) ?_ ?_
 ·
  have M1:=aF (ak [(some ga)]) w;have dM:=bD (ak [(some ga)]) w;refine aQ ?_;replace M1:=M1.step E dM;replace E:=aF (ak [(some ga)]) w;refine jd (ι:=ShS) (fun s=>[(0,.pointer (some ⟨ga,0,none⟩)),(1,.int .i64 (-(s.k:Int)))]) (fun s w'=>Ext (ak [(some ga)]) w w'∧aB w' ga 229 (yg s.t)∧(Nl s∧qm yhq yux s=Nk t k)) (fun s=>s.k) (⟨t,k⟩) ⟨rfl,rfl,trivial⟩ ⟨Ext.refl _ _,(by exact Ba),h,rfl⟩ ?_;have d9:=(zg Ba.lt);clear Ba;rintro s w4 ⟨M3,Ba,⟨hI,hu⟩⟩;have fA:GR (ak [(some ga)]) (ak [(some ga)]) w:=(ak.grow ak.none_ (fun k e=>Or.inl (ak.head k e)));replace E:=E.trans M3;replace M1:=M1.step E dM;replace E:=aF (ak [(some ga)]) w4;have hk2:=hI.k1;have aMz:=hI.dp;refine zr ?_;refine zj rfl (fun h1=>?_) (fun h1=>?_)
  ·
   have h1:60<s.k:=by have h1:=of_decide_eq_true h1;omega
   have hdone:yhq s=false:=decide_eq_false om;obtain ⟨hkeep,hlt⟩:=mG hI hdone;have hst:yux s= ⟨js s.t 60,s.k-60⟩:=rfl;rw[qx hdone] at hu;rw[hst] at hu hkeep;refine zt ?_;refine za rfl (zb aa7 rfl ((sD _ ga 60 s.t de hI.dec hI.pos om Ba).mono ?_));rintro e w5 ⟨rfl,hB,hE⟩;refine ⟨_,rfl,?_⟩;replace Ba:=hB;clear hB;replace E:=E.step1 hE ak.head;clear hE;refine ye ?_;refine yo ?_;refine zq ?_;refine yy 1 (.int .i64 (-((s.k-60:Nat):Int))) rfl ((by congr 1;omega:(.int .i64 ((-(s.k:Int))+60):Value)=_)) ?_;exact yc (⟨js s.t 60,s.k-60⟩) (by show s.k-60<s.k;omega) ⟨rfl,rfl,trivial⟩ ⟨M3.step E fA,(by exact Ba),hkeep,hu⟩
  ·
   have h1:s.k≤60:=by have h1:=of_decide_eq_false h1;omega
   have hdone:yhq s=true:=decide_eq_true h1;rw[yv hdone] at hu;refine ye ?_;exact yk s ⟨rfl,rfl,trivial⟩ ⟨M1.step E dM,(by exact Ba),hu⟩
 ·
  have d9:=(zg Ba.lt);clear Ba;rintro s w2 ⟨M1,Ba,hs⟩;replace E:=E.trans M1;replace LW:=LW.step E aj;replace E:=aF (ak [(some ga)]) w2;obtain ⟨hE0,hd0⟩:=I9 h;rw[←hs] at hE0 hd0;have hd0:s.k≤60:=of_decide_eq_true hd0;have hk2:=hE0.k1;have aMz:=hE0.dp;refine zq ?_;refine zhq ?_;refine za rfl (jl Oo underlying3 rfl (wrap_u64 om) (zd 35 (.int .u64 (s.k:Int)) rfl (by congr 1;omega) (za rfl (zb aa7 rfl ((sD _ ga s.k s.t om hE0.dec hE0.pos om Ba).mono ?_)))));rintro e w6 ⟨rfl,hB,hE⟩;refine ⟨_,rfl,?_⟩;replace Ba:=hB;clear hB;replace E:=E.step1 hE ak.head;clear hE;refine zu ?_;refine Vo rfl ?_;exact ⟨rfl,by unfold gB;rw[←hs];exact Ba,(LW.step E aj)⟩
theorem Yq (ga:Nat) (t:Dec) (p:Int) (ht:bH t) (hp:-20000000≤p∧p≤20000000) (hB:aB w ga 229 (yg t)) :
 Calls prog 272 #[.pointer (some ⟨ga,0,none⟩),.int .i64 p] w (aH w (.bool (rup t p))):=by
 have hl:=ht.len;have hnd:=ht.hn;refine zc func272 rfl ntmps272 rfl ?_;obtain ⟨HF,LW,aj,E⟩:=bg w;replace HF:=HF.and (Per.blk hB (fun h=>h.elim));refine yq ?_;refine zz 7 rfl (fun h1=>?_) (fun h1=>?_)
 ·
  have h1:=of_decide_eq_true h1;have e:rup t p=false:=by unfold rup;rw[if_pos (.inl h1)]
  refine Dt ?_;exact qtk
 ·
  have h1:=of_decide_eq_false h1;refine ye ?_;refine mV ?_;refine zj rfl (fun h2=>?_) (fun h2=>?_)
  ·
   have h2:=of_decide_eq_true h2;have e:rup t p=false:=by unfold rup;rw[if_pos (.inr h2)]
   refine yu ?_;exact qtk
  ·
   have h2:=of_decide_eq_false h2;have hno:¬(p<0∨(t.nd:Int)≤p):=om;have hg:=ht.dh p.toNat om;refine qo ?_;refine za rfl (vb (j:=p.toNat) fJ oH rfl rfl om om (za rfl (ya u5 rfl rfl (HF.on E).here.2 (Yn hl (dg t.d (p.toNat)) (p.toNat) rfl om) (zu ?_))));refine zz 22 rfl (fun h3=>?_) (fun h3=>?_)
   ·
    have h3:dg t.d p.toNat=53:=by have h3:=eq_of_beq h3;omega
    refine aQ ?_;refine bV rfl (jc rfl rfl (yr om) (zq ?_));refine mV ?_;refine zj rfl (fun h4=>?_) (fun h4=>?_)
    ·
     have h4:p+1=(t.nd:Int):=eq_of_beq h4;have e0:rup t p=(if t.tr then true else if 0<p then decide ((dg t.d (p.toNat-1)-48)%2≠0) else false):=by unfold rup;rw[if_neg hno,if_pos ⟨h3,h4⟩]
     refine zt ?_;refine za rfl (ya u4 rfl rfl (HF.on E).here.2 (aM5 hl t.tr rfl) (zu ?_));refine zj rfl (fun h5=>?_) (fun h5=>?_)
     ·
      have e:rup t p=true:=by rw[e0,if_pos h5]
      refine qo ?_;exact qtk
     ·
      refine zr ?_;refine zz 37 rfl (fun h6=>?_) (fun h6=>?_)
      ·
       have h6:=of_decide_eq_true h6;have hg2:=ht.dh (p.toNat-1) om;have e:rup t p=decide ((dg t.d (p.toNat-1)-48)%2≠0):=by rw[e0,if_neg (by rw[h5];decide),if_pos h6]
       refine zu ?_;refine bV rfl (jn rfl rfl (yr om) (zu ?_));refine bV rfl (vb (j:=p.toNat-1) fJ oH rfl rfl om om (bV rfl (ya u5 rfl rfl (HF.on E).here.2 (Yn hl (dg t.d (p.toNat-1)) (p.toNat-1) rfl om) (bV rfl (jn rfl rfl (ywz om) (zd 45 (.int .u8 ((dg t.d (p.toNat-1)-48:Nat):Int)) rfl (by congr 1;omega) (bV rfl (MV rfl rfl de (Int.tmod_eq_emod_of_nonneg om) (zr ?_)))))))));refine yy 4 (.bool (decide ((dg t.d (p.toNat-1)-48)%2≠0))) rfl (ao7 _) (aQ ?_);exact qtk
      ·
       have h6:=of_decide_eq_false h6;have e:rup t p=false:=by rw[e0,if_neg (by rw[h5];decide),if_neg h6]
       refine Ed ?_;exact qtk
    ·
     have h4:¬p+1=(t.nd:Int):=fun e=>absurd h4 (by rw[e];simp);have e:rup t p=decide (53≤dg t.d p.toNat):=by unfold rup;rw[if_neg hno,if_neg (fun h=>h4 h.2)]
     refine yu ?_;exact ae6
   ·
    have h3:¬dg t.d p.toNat=53:=fun e=>absurd h3 (by rw[e];decide);have e:rup t p=decide (53≤dg t.d p.toNat):=by unfold rup;rw[if_neg hno,if_neg (fun h=>h3 h.1)]
    refine qrq ?_;exact ae6
theorem wu (ga:Nat) (t:Dec) (ht:bH t) (hp:-20000000≤t.dp∧t.dp≤20000000) (hB:aB w ga 229 (yg t)) :
 Calls prog 258 #[.pointer (some ⟨ga,0,none⟩)] w (aH w (.int .u64 ((Ja t:Nat):Int))):=by
 have hl:=ht.len;have hnd:=ht.hn;refine zc func258 rfl ntmps258 rfl ?_;obtain ⟨HF,LW,aj,E⟩:=bg w;replace HF:=HF.and (Per.blk hB (fun h=>h.elim));refine yq ?_;refine yzz ?_;refine zq ?_;refine zj rfl (fun h1=>?_) (fun h1=>?_)
 ·
  have h1:=of_decide_eq_true h1;have e:Ja t=18446744073709551615:=by unfold Ja;rw[if_pos h1]
  refine yu ?_;exact qtk
 ·
  have h1:=of_decide_eq_false h1;have Yr:t.dp≤20:=om;refine Dt ?_;replace HF:=HF.on E;replace LW:=LW.step E aj;replace E:=aF (No) w;refine yw (ι:=eU) (fun s=>[(0,.pointer (some ⟨ga,0,none⟩)),(3,.int .i64 (s.r:Int)),(4,.int .u64 (s.n:Int))]) (fun s w'=>Ext (No) w w'∧(s=riA t)) ?_ ?_
  ·
   have M1:=aF (No) w;have dM:=bD (No) w;refine aQ ?_;replace HF:=HF.on E;replace M1:=M1.step E dM;replace E:=aF (No) w;refine jd (ι:=eU) (fun s=>[(0,.pointer (some ⟨ga,0,none⟩)),(3,.int .i64 (s.r:Int)),(4,.int .u64 (s.n:Int))]) (fun s w'=>Ext (No) w w'∧(Vb s∧qm (ymq t) (qck t) s=riA t)) (fun s=>20-s.r) (⟨0,0⟩) ⟨rfl,rfl,rfl,trivial⟩ ⟨Ext.refl _ _,⟨Nat.zero_le _,de⟩,rfl⟩ ?_;rintro s w4 ⟨M3,⟨hI,hu⟩⟩;have fA:=bD (No) w;replace E:=E.trans M3;replace HF:=HF.on E;replace M1:=M1.step E dM;replace E:=aF (No) w4;have hr:=hI.hr;have hn:=hI.hn;refine zr ?_;refine yzz ?_;refine zu ?_;refine zz 16 rfl (fun h2=>?_) (fun h2=>?_)
   ·
    have h2:=of_decide_eq_true h2;refine ye ?_;refine mV ?_;refine zj rfl (fun h3=>?_) (fun h3=>?_)
    ·
     have h3:=of_decide_eq_true h3;have hdone:ymq t s=false:=decide_eq_false (fun h=>h ⟨h2,om⟩);have hkeep:=qlq Yr hI hdone;have hst:qck t s= ⟨s.r+1,(s.n*10%18446744073709551616+(dg t.d s.r-48))%18446744073709551616⟩:=rfl;have hg:=ht.dh s.r om;rw[qx hdone] at hu;rw[hst] at hu hkeep;have hk1:=hkeep.hr;have hk1:s.r+1≤20:=hk1;refine zt ?_;refine za rfl (xn rfl rfl (Tj s.n) (ye ?_));refine za rfl (vb (j:=s.r) fJ oH rfl rfl om om (za rfl (ya u5 rfl rfl (HF.on E).here.2 (Yn hl (dg t.d (s.r)) (s.r) rfl om) (za rfl (jn rfl rfl (ywz om) (za rfl (jl u25 u5 rfl (wrap_u64 om) (zd 35 (.int .u64 ((dg t.d s.r-48:Nat):Int)) rfl (by congr 1;omega) (za rfl (jc rfl rfl (aE0 _ _) (zsq ?_)))))))))));exact yc (⟨s.r+1,(s.n*10%18446744073709551616+(dg t.d s.r-48))%18446744073709551616⟩) (by show 20-(s.r+1)<20-s.r;omega) ⟨rfl,rfl,rfl,trivial⟩ ⟨M3.step E fA,hkeep,hu⟩
    ·
     have h3:=of_decide_eq_false h3;have hdone:ymq t s=true:=decide_eq_true om;rw[yv hdone] at hu;refine ye ?_;exact yk s ⟨rfl,rfl,rfl,trivial⟩ ⟨M1.step E dM,hu⟩
   ·
    have h2:=of_decide_eq_false h2;have hdone:ymq t s=true:=decide_eq_true om;rw[yv hdone] at hu;refine go ?_;exact yk s ⟨rfl,rfl,rfl,trivial⟩ ⟨M1.step E dM,hu⟩
  ·
   rintro s w2 ⟨M1,hs⟩;replace E:=E.trans M1;replace HF:=HF.on E;replace LW:=LW.step E aj;replace E:=aF (No) w2;have hA:=BQ Yr;refine aQ ?_;replace HF:=HF.on E;replace LW:=LW.step E aj;replace E:=aF (No) w2;refine yw (ι:=eU) (fun x=>[(0,.pointer (some ⟨ga,0,none⟩)),(4,.int .u64 (x.n:Int))]) (fun x w'=>Ext (No) w2 w'∧(x=riB t)) ?_ ?_
   ·
    have M5:=aF (No) w2;have Ng:=bD (No) w2;refine aQ ?_;replace HF:=HF.on E;replace M5:=M5.step E Ng;replace E:=aF (No) w2;refine jd (ι:=eU) (fun x=>[(0,.pointer (some ⟨ga,0,none⟩)),(3,.int .i64 (x.r:Int)),(4,.int .u64 (x.n:Int))]) (fun x w'=>Ext (No) w2 w'∧(Vb x∧qm (qcv t) qcq x=riB t)) (fun x=>20-x.r) s ⟨rfl,rfl,rfl,trivial⟩ ⟨Ext.refl _ _,by rw[hs];exact hA,by rw[hs];rfl⟩ ?_;rintro x w8 ⟨M7,⟨hI,hu⟩⟩;have XM7:=bD (No) w2;replace E:=E.trans M7;replace HF:=HF.on E;replace M5:=M5.step E Ng;replace E:=aF (No) w8;have hr:=hI.hr;have hn:=hI.hn;refine zr ?_;refine yzz ?_;refine zq ?_;refine zj rfl (fun h2=>?_) (fun h2=>?_)
    ·
     have h2:=of_decide_eq_true h2;have hdone:qcv t x=false:=decide_eq_false (fun h=>h h2);have hkeep:=qlz Yr hI hdone;have hst:qcq x= ⟨x.r+1,x.n*10%18446744073709551616⟩:=rfl;rw[qx hdone] at hu;rw[hst] at hu hkeep;have hk1:x.r+1≤20:=hkeep.hr;refine zt ?_;refine za rfl (xn rfl rfl (Tj x.n) (zsq ?_));exact yc (⟨x.r+1,x.n*10%18446744073709551616⟩) (by show 20-(x.r+1)<20-x.r;omega) ⟨rfl,rfl,rfl,trivial⟩ ⟨M7.step E XM7,hkeep,hu⟩
    ·
     have h2:=of_decide_eq_false h2;have hdone:qcv t x=true:=decide_eq_true h2;rw[yv hdone] at hu;refine ye ?_;exact yk x ⟨rfl,rfl,trivial⟩ ⟨M5.step E Ng,hu⟩
   ·
    rintro x w6 ⟨M5,hx⟩;replace E:=E.trans M5;replace HF:=HF.on E;replace LW:=LW.step E aj;replace E:=aF (No) w6;have hB2:=(BR Yr).hn;refine zr ?_;refine yzz ?_;refine zh rfl ax8 rfl (Yq _ ga t t.dp ht hp (HF.on E).here.2) E fun w9 E=>(zu ?_);refine zj rfl (fun h3=>?_) (fun h3=>?_)
    ·
     have e:Ja t=((riB t).n+1)%18446744073709551616:=by unfold Ja;rw[if_neg h1,if_pos h3]
     refine zu ?_;refine za rfl (jc rfl rfl (aE0 x.n 1) (yq ?_));exact ⟨by rw[e,←hx];rfl,(LW.step E aj).toBelow⟩
    ·
     have e:Ja t=(riB t).n:=by unfold Ja;rw[if_neg h1,if_neg (by rw[h3];decide)]
     refine zy ?_;exact ⟨by rw[e,←hx];rfl,(LW.step E aj).toBelow⟩
end
end Go.Proofs.YtmnmebdmpigddaaGreatDoor
namespace Go.Proofs.YtmnmebdmpigddaaGreatDoor
open Go.RowKit Proofs.Tryz
theorem yyv {P Q:Prop} (k:Q) (h:(Unit→Q)→P:=by
 intro zK;refine za rfl (gk (z:=4503599627370496) rfl rfl de kr ?_);exact zK ()):P:=h fun _=>k
theorem Tk {P:Prop} (h:P:=by
 refine qh ?_;intro vs X wq K;exact sW rfl (yr om) ⟨Below.refl _ _,Left.of rfl⟩):P:=h
theorem Tm {P:Prop} (h:P:=by
 exact yk () ⟨rfl,rfl,rfl,rfl,rfl,rfl,rfl,trivial⟩ ⟨M25.step E aMx,(by exact Ba),trivial⟩):P:=h
theorem Tn {P:Prop} (h:P:=by
 exact yk () ⟨rfl,rfl,rfl,rfl,rfl,rfl,rfl,trivial⟩ ⟨IK.step E Tg,(by exact Ba),trivial⟩):P:=h
theorem Tp {P:Prop} (h:P:=by
 refine qh ?_;intro vs X wq K;exact gk (z:=4503599627370496) rfl rfl de kr ⟨Below.refl _ _,Left.of rfl⟩):P:=h
theorem ae7 {P:Prop} (h:P:=by
 refine qh ?_;intro vs X wq K;exact gk (z:=9223372036854775808) rfl rfl de kr ⟨Below.refl _ _,Left.of rfl⟩):P:=h
theorem ae8 {P:Prop} (h:P:=by
 exact ypv rfl ao8 (M,Kx,false,vp t3 53) ⟨rfl,rfl,rfl,rfl,rfl,trivial⟩ ⟨M1.step E dM,(by exact Ba),gD,aE1,om,hl5,hn5⟩):P:=h
theorem ae9 {P:Prop} (h:P:=by
 refine qA ?_;exact ypv rfl ao8 (0,0,false,t) ⟨rfl,rfl,rfl,rfl,rfl,trivial⟩ ⟨M1.step E dM,(by exact Ba),gD,de,de,hl,rfl⟩):P:=h
theorem Jh {P:Prop} (h:P:=by
 refine aQ ?_;exact ⟨by rw[e,gD];rfl,⟨_,Ba⟩,(LW.step E aj)⟩):P:=h
theorem aez {P:Prop} (h:P:=by
 intro vs X wq K;have LE:=K.1;exact jj underlying3 rfl rfl (by rw[Nat.mul_one];exact (HF.on (E.drew.trans (LE.mono OY))).here.1.1.1.2.powtab.cells _ _ (Mi om)) ⟨Below.refl _ _,Left.of rfl⟩):P:=h
theorem Tq {P:Prop} (h:P:=by
 refine qh ?_;intro vs X wq K;exact gk (z:=2048) rfl rfl de kr ⟨Below.refl _ _,Left.of rfl⟩):P:=h
theorem Ji {P:Prop} (h:P:=by
 refine qh ?_;intro vs X wq K;exact jn (z:=2047) rfl rfl kr ⟨Below.refl _ _,Left.of rfl⟩):P:=h
theorem Jj {P:Prop} (h:P:=by
 have LE:=K.1;exact jj JM rfl rfl (HF.on (E.drew.trans (LE.mono OY))).here.1.1.1.2.powtab.head ⟨Below.refl _ _,Left.of rfl⟩):P:=h
theorem Jk {P:Prop} (h:P:=by
 refine qh ?_;intro vs X wq K;have LE:=K.1;exact ya underlying3 rfl rfl (Ba.drew.av LE ah.nil) (wm hls s.t.dp rfl) ⟨Below.refl _ _,Left.of rfl⟩):P:=h
theorem aex {P:Prop} (h:P:=by
 refine ⟨arm,arm,arm,arm,arm,?_,arm,arm,arm,arm,?_,?_,?_,trivial⟩
 · refine qh ?_;intro vs X wq K;exact jn rfl rfl (yr om) ⟨Below.refl _ _,Left.of rfl⟩
 · refine qh ?_;intro vs X wq K;exact gk (z:=2048) rfl rfl de kr ⟨Below.refl _ _,Left.of rfl⟩
 · refine qh ?_;intro vs X wq K;exact jn (z:=2047) rfl rfl kr ⟨Below.refl _ _,Left.of rfl⟩
 · refine qh ?_;intro vs X wq K;exact NQ rfl rfl ⟨Below.refl _ _,Left.of (xr om)⟩):P:=h
attribute [local irreducible] OW RS CW EW
theorem Mi {j:Nat} (h:j<9):(RJ.map (fun z=>Value.int .i64 z))[j]? =some (.int .i64 ((pt j:Nat):Int)):=by
 have key:∀i:Fin 9,RJ[i.val]? =some ((pt i.val:Nat):Int):=by decide +kernel
 rw[List.getElem?_map,key ⟨j,h⟩];rfl
theorem Tt {j:Nat} (h:9≤j):pt j=27:=by unfold pt;rw[if_pos h]
theorem Mj {k:Nat} (h:k≤2047):IntKind.i64.wrap (BitVec.ofInt IntKind.i64.bits ((k:Nat):Int) &&& BitVec.ofInt IntKind.i64.bits 2047).toNat=((k:Nat):Int):=by
 have key:∀v:Fin 2048,IntKind.i64.wrap (BitVec.ofInt IntKind.i64.bits (v.val:Int) &&& BitVec.ofInt IntKind.i64.bits 2047).toNat=(v.val:Int):=by decide +kernel
 exact key ⟨k,om⟩
theorem ao9 {k:Nat} (h:k≤2047):IntKind.u64.wrap (((k:Nat):Int)*2^(min ((52:Int)).toNat IntKind.u64.bits))=((k*4503599627370496:Nat):Int):=by
 have e:=WQ k 52 de;have e2:k*2^52%18446744073709551616=k*4503599627370496:=Nat.mod_eq_of_lt (by show k*4503599627370496<18446744073709551616;omega);rw[e2] at e;exact e
theorem aoq {m:Nat} (h:m<18446744073709551616):IntKind.u64.wrap (BitVec.ofInt IntKind.u64.bits ((m:Nat):Int) &&& BitVec.ofInt IntKind.u64.bits 4503599627370495).toNat=((m &&& 4503599627370495:Nat):Int):=kt (n:=4503599627370495) h de
theorem Tv {m:Nat} (h:m<18446744073709551616):IntKind.u64.wrap (BitVec.ofInt IntKind.u64.bits ((m:Nat):Int) &&& BitVec.ofInt IntKind.u64.bits 4503599627370496).toNat=((m &&& 4503599627370496:Nat):Int):=kt (n:=4503599627370496) h de
theorem Yt {t:Dec} (ht:bH t) (h0:0<t.nd) (hd:-330≤t.dp∧t.dp≤310):(fbR t).t.neg=t.neg:=by
 have h:=vr (done:=zqk) (step:=zqz) (fun s=>BP s∧s.t.neg=t.neg) (fun s=>Sc s.t) (fun s h hd=>?_) ⟨qnq ht h0 hd,rfl⟩
 · exact h.1.2
 · obtain ⟨h1,h2⟩:=qnk h.1 hd;obtain ⟨_,_,_,_,h5⟩:=xv (k:=pt s.t.dp.toNat) h.1.dec (BO _).1 h.1.pos;exact ⟨⟨h1,h5.trans h.2⟩,h2⟩
theorem Yu {t:Dec} (ht:bH t) (h0:0<t.nd) (hd:-330≤t.dp∧t.dp≤310):(Ye t).t.neg=t.neg:=by
 obtain ⟨h1,h2⟩:=mE ht h0 hd;have h:=vr (done:=yaz) (step:=zqq) (fun s=>FX s∧s.t.neg=t.neg) (fun s=>Sd s.t) (fun s h hd=>?_) ⟨qnv h1 h2,Yt ht h0 hd⟩
 · exact h.1.2
 · obtain ⟨h3,h4⟩:=qox h.1 hd;obtain ⟨_,_,_,_,_,h5⟩:=zzx (k:=pt (-s.t.dp).toNat) h.1.dec h.1.pos (FW _);exact ⟨⟨h3,h5.trans h.2⟩,h4⟩
theorem Tw {t:Dec} {k:Nat} (h:Nl ⟨t,k⟩):(gB t k).neg=t.neg:=by
 have h1:=vr (done:=yhq) (step:=yux) (fun s=>Nl s∧s.t.neg=t.neg) (fun s=>s.k) (fun s h hd=>?_) ⟨h,rfl⟩
 · have h2:Nl (Nk t k)∧(Nk t k).t.neg=t.neg:=h1.1;obtain ⟨_,_,_,_,h5⟩:=xv (k:=(Nk t k).k) h2.1.dec h2.1.k1.1 h2.1.pos;exact h5.trans h2.2
 · obtain ⟨h3,h4⟩:=mG h.1 hd;obtain ⟨_,_,_,_,h5⟩:=xv (k:=60) h.1.dec de h.1.pos;exact ⟨⟨h3,h5.trans h.2⟩,h4⟩
def Gd (m k:Nat):Nat:=(m &&& 4503599627370495) ||| k*4503599627370496
theorem Tx {m k:Nat} (hk:k≤2047):IntKind.u64.wrap (BitVec.ofInt IntKind.u64.bits ((m &&& 4503599627370495:Nat):Int) ||| BitVec.ofInt IntKind.u64.bits ((k*4503599627370496:Nat):Int)).toNat=((Gd m k:Nat):Int):=
 gz (Nat.lt_of_le_of_lt Nat.and_le_right de) om
theorem Tz {m k:Nat} (hk:k≤2047):Gd m k<18446744073709551616:=
 rA (k:=64) (Nat.lt_of_le_of_lt Nat.and_le_right de) (by show k*4503599627370496<18446744073709551616;omega)
theorem Mk {m k:Nat} (hk:k≤2047):IntKind.u64.wrap (BitVec.ofInt IntKind.u64.bits ((Gd m k:Nat):Int) ||| BitVec.ofInt IntKind.u64.bits 9223372036854775808).toNat=((Gd m k ||| 9223372036854775808:Nat):Int):=
 gz (n:=9223372036854775808) (Tz hk) de
section
variable (w:World) {bp op cp bf of cf bl ol cl:Nat}
theorem TA (ga:Nat) (t:Dec) (ht:bH t) (aQ4:-20000000≤t.dp∧t.dp≤20000000) (hB:aB w ga 229 (yg t)) (hT:dK bp op cp bf of cf bl ol cl w) (hg:gV bp bf bl ga) :
 Calls prog 223 #[.pointer (some ⟨ga,0,none⟩),.pointer (some ⟨8,0,none⟩)] w fun e w'=>e= .returned (.tuple #[.int .u64 ((Jc t:Nat):Int),.bool (vV t).2.2])∧(∃t',aB w' ga 229 (yg t'))∧Ext (ak [some ga]) w w':=by
 have hl:=ht.len;have hnd:=ht.hn;refine zc func223 rfl ntmps223 rfl ?_;have Ba:=hB;have HF:Per (ak [(some ga)]) w (fun _=>True):=Per.xE;have LW:=aF (ak [(some ga)]) w;have aj:=bD (ak [(some ga)]) w;have E:=aF (ak [(some ga)]) w;obtain ⟨HF,LW,E⟩:=cZ HF LW E aj (Per.I4 hT hg (fun q h=>h.elim (fun e=>Nat.le_of_eq (Option.some.inj e).symm) (fun e=>e.elim)));obtain ⟨HF,LW,E⟩:=cZ HF LW E aj (Per.dP (HF.on E).here.2.man hg.info (fun q h=>h.elim (fun e=>Nat.le_of_eq (Option.some.inj e).symm) (fun e=>e.elim)));obtain ⟨HF,LW,E⟩:=cZ HF LW E aj (Per.dP (HF.on E).here.1.2.exp hg.info (fun q h=>h.elim (fun e=>Nat.le_of_eq (Option.some.inj e).symm) (fun e=>e.elim)));obtain ⟨HF,LW,E⟩:=cZ HF LW E aj (Per.dP (HF.on E).here.1.1.2.bias hg.info (fun q h=>h.elim (fun e=>Nat.le_of_eq (Option.some.inj e).symm) (fun e=>e.elim)));refine zt ?_;refine xY 4 ?_;replace HF:=HF.on E;replace LW:=LW.step E aj;replace E:=aF (ak [(some ga)]) w;refine Jg (l:=0) (ι:=Nat×Nat×Bool×Dec) (fun (m,k,ov,u)=>[(0,.pointer (some ⟨ga,0,none⟩)),(1,.pointer (some ⟨8,0,none⟩)),(5,.bool ov),(6,.int .i64 (((k:Nat):Int)-1023)),(7,.int .u64 ((m:Nat):Int))]) (fun (m,k,ov,u) w'=>Ext (ak [(some ga)]) w w'∧aB w' ga 229 (yg u)∧(vV t=(m,k,ov)∧m<18446744073709551616∧k≤2047∧u.d.length=800∧u.neg=t.neg)) rfl ?_ ?_
 ·
  intro ao8;have M1:=aF (ak [(some ga)]) w;have dM:=bD (ak [(some ga)]) w;replace HF:=HF.on E;replace LW:=LW.step E aj;replace M1:=M1.step E dM;replace E:=aF (ak [(some ga)]) w;refine Jg (l:=1) (ι:=Dec) (fun u=>[(0,.pointer (some ⟨ga,0,none⟩)),(1,.pointer (some ⟨8,0,none⟩))]) (fun u w'=>Ext (ak [(some ga)]) w w'∧aB w' ga 229 (yg u)∧(vV t=(0,2047,true)∧u.d.length=800∧u.neg=t.neg)) rfl ?_ ?_
  ·
   intro aoz;have M3:=aF (ak [(some ga)]) w;have fA:=bD (ak [(some ga)]) w;refine qA ?_;refine za rfl (ya underlying3 rfl rfl Ba (wZ hl t.nd rfl) (zq ?_));refine zj rfl (fun h1=>?_) (fun h1=>?_)
   ·
    have h1:t.nd=0:=by have h1:=eq_of_beq h1;omega
    have gD:vV t=(0,0,false):=by unfold vV;rw[if_pos h1]
    exact ae9
   ·
    have h1:t.nd≠0:=fun e=>absurd h1 (by rw[e];decide);refine yu ?_;refine mK ?_;refine zq ?_;refine zj rfl (fun h2=>?_) (fun h2=>?_)
    ·
     have h2:=of_decide_eq_true h2;have gD:vV t=(0,2047,true):=by unfold vV;rw[if_neg h1,if_pos h2]
     refine zu ?_;exact ypv rfl aoz t ⟨rfl,rfl,trivial⟩ ⟨M3.step E fA,(by exact Ba),gD,hl,rfl⟩
    ·
     have h2:=of_decide_eq_false h2;refine yu ?_;refine mK ?_;refine zq ?_;refine zj rfl (fun h3=>?_) (fun h3=>?_)
     ·
      have h3:=of_decide_eq_true h3;have gD:vV t=(0,0,false):=by unfold vV;rw[if_neg h1,if_neg h2,if_pos h3]
      exact ae9
     ·
      have h3:=of_decide_eq_false h3;have hpos:0<t.nd:=om;have aox:vV t=rZ (Ye t).t ((Ye t).e-1):=by unfold vV;rw[if_neg h1,if_neg h2,if_neg h3]
      refine yu ?_;replace HF:=HF.on E;replace M1:=M1.step E dM;replace M3:=M3.step E fA;replace E:=aF (ak [(some ga)]) w;refine yw (ι:=wY) (fun s=>[(0,.pointer (some ⟨ga,0,none⟩)),(1,.pointer (some ⟨8,0,none⟩)),(4,.int .u64 0),(5,.bool false),(6,.int .i64 s.e),(7,.int .u64 0)]) (fun s w'=>Ext (ak [(some ga)]) w w'∧aB w' ga 229 (yg s.t)∧(s=fbR t)) ?_ ?_
      ·
       have M5:=aF (ak [(some ga)]) w;have Ng:=bD (ak [(some ga)]) w;refine aQ ?_;replace HF:=HF.on E;replace M5:=M5.step E Ng;replace E:=aF (ak [(some ga)]) w;refine jd (ι:=wY) (fun s=>[(0,.pointer (some ⟨ga,0,none⟩)),(1,.pointer (some ⟨8,0,none⟩)),(4,.int .u64 0),(5,.bool false),(6,.int .i64 s.e),(7,.int .u64 0)]) (fun s w'=>Ext (ak [(some ga)]) w w'∧aB w' ga 229 (yg s.t)∧(BP s∧qm zqk zqz s=fbR t)) (fun s=>Sc s.t) (⟨t,0⟩) ⟨rfl,rfl,rfl,rfl,rfl,rfl,trivial⟩ ⟨Ext.refl _ _,(by exact Ba),qnq ht hpos om,rfl⟩ ?_;have d9:=(zg Ba.lt);clear Ba;rintro s w8 ⟨M7,Ba,⟨hI,hu⟩⟩;have XM7:GR (ak [(some ga)]) (ak [(some ga)]) w:=(ak.grow ak.none_ (fun k e=>Or.inl (ak.head k e)));replace E:=E.trans M7;replace HF:=HF.on E;replace M5:=M5.step E Ng;replace E:=aF (ak [(some ga)]) w8;have hls:=hI.dec.len;have hsd:=hI.dp;have hse:=hI.e;have hsp:=hI.pos;refine zt ?_;refine za rfl (ya underlying3 rfl rfl Ba (wm hls s.t.dp rfl) (zq ?_));refine zj rfl (fun h4=>?_) (fun h4=>?_)
       ·
        have h4:=of_decide_eq_true h4;have hdone:zqk s=false:=decide_eq_false om;obtain ⟨hkeep,hms⟩:=qnk hI hdone;obtain ⟨P,hP⟩:∃P,P=pt s.t.dp.toNat:=⟨_,rfl⟩;have hP1:=BO s.t.dp.toNat;have hst:zqz s= ⟨js s.t P,s.e+((P:Nat):Int)⟩:=by rw[hP];rfl
        rw[←hP] at hP1;rw[qx hdone] at hu;rw[hst] at hu hkeep hms;refine zy ?_;replace HF:=HF.on E;replace M7:=M7.step E XM7;replace E:=aF (ak [(some ga)]) w8;refine yw (ι:=Bool) (fun g=>[(0,.pointer (some ⟨ga,0,none⟩)),(1,.pointer (some ⟨8,0,none⟩)),(4,.int .u64 0),(5,.bool false),(6,.int .i64 s.e),(7,.int .u64 0),(8,.int .i64 0),(46,.bool g)]) (fun g w'=>Ext (ak [(some ga)]) w8 w'∧aB w' ga 229 (yg s.t)∧(g=decide (9≤s.t.dp))) ?_ ?_
        ·
         have M9:=aF (ak [(some ga)]) w8;have XM9:=bD (ak [(some ga)]) w8;have OY:∀q9,(ak (km [])) q9→q9<(World.drew w8).heap.size→(ak [(some ga)]) q9:=fun k h _=>(ak.none_) k h;refine yx (ak [(some ga)]) (ak.grow ak.none_ (zg Ba.lt)) [] [] (xq [Fx.of (.pointer (some ⟨ga,0,none⟩)),
          Fx.of (.pointer (some ⟨ga,0,none⟩)),
          Fx.of (.pointer (some ⟨ga,801,none⟩)),
          Fx.of (.int .i64 s.t.dp),
          Fx.of (.slice (some ⟨bp,op,none⟩) 9 cp),
          Fx.of (.int .i64 9),
          Fx.of (.bool (decide (9≤s.t.dp)))]) mixed rfl trivial (fun _ h=>by cases h) ?_ ?_
         · refine ⟨arm,arm,arm,?_,?_,arm,arm,trivial⟩
           · exact Jk
           · intro vs X wq K;exact Jj
         intro vs dS LE AO AL AF AA;have fC:=Ba;replace Ba:=Ba.drew.av LE ah.nil;replace E:=E.drew.trans (LE.mono OY);obtain ⟨_,e6,k6⟩:=AL.2.2.2.2.2.2.1;refine vo (τ:=[(0,_),(1,_),(4,_),(5,_),(6,_),(7,_),(8,_),(46,.bool (decide (9≤s.t.dp)))]) ⟨rfl,rfl,rfl,rfl,rfl,rfl,rfl,congrArg some e6,trivial⟩ ?_;clear AL AF AA LE AO OY e6 k6 fC;exact yk (decide (9≤s.t.dp)) ⟨rfl,rfl,rfl,rfl,rfl,rfl,rfl,rfl,trivial⟩ ⟨M9.step E XM9,(by exact Ba),rfl⟩
        ·
         have d9:=(zg Ba.lt);clear Ba;rintro g dI ⟨M9,Ba,hgg⟩;replace E:=E.trans M9;replace HF:=HF.on E;replace M7:=M7.step E XM7;replace E:=aF (ak [(some ga)]) dI;replace HF:=HF.on E;replace M7:=M7.step E XM7;replace E:=aF (ak [(some ga)]) dI;refine yw (ι:=Unit) (fun _=>[(0,.pointer (some ⟨ga,0,none⟩)),(1,.pointer (some ⟨8,0,none⟩)),(4,.int .u64 0),(5,.bool false),(6,.int .i64 s.e),(7,.int .u64 0),(8,.int .i64 ((P:Nat):Int))]) (fun _ w'=>Ext (ak [(some ga)]) dI w'∧aB w' ga 229 (yg s.t)∧(True)) ?_ ?_
         ·
          have IK:=aF (ak [(some ga)]) dI;have Tg:=bD (ak [(some ga)]) dI;refine zj rfl (fun h5=>?_) (fun h5=>?_)
          ·
           rw[hgg] at h5;have h5:=of_decide_eq_true h5;have e:P=27:=by rw[hP];exact Tt om
           refine zq ?_;refine yy 8 (.int .i64 ((P:Nat):Int)) rfl ((by rw[e];rfl:(.int .i64 27:Value)=_)) ?_;exact Tn
          ·
           rw[hgg] at h5;have h5:=of_decide_eq_false h5;have OY:∀q9,(ak (km [])) q9→q9<(World.drew dI).heap.size→(ak [(some ga)]) q9:=fun k h _=>(ak.none_) k h;refine yx (ak [(some ga)]) (ak.grow ak.none_ (zg Ba.lt)) [] [] (xq [Fx.of (.slice (some ⟨bp,op,none⟩) 9 cp),
            Fx.of (.pointer (some ⟨ga,0,none⟩)),
            Fx.of (.pointer (some ⟨ga,0,none⟩)),
            Fx.of (.pointer (some ⟨ga,801,none⟩)),
            Fx.of (.int .i64 s.t.dp),
            Fx.of (.pointer (some ⟨bp,op+s.t.dp.toNat*1,none⟩)),
            Fx.of (.int .i64 ((pt s.t.dp.toNat:Nat):Int)),
            Fx.of (.int .i64 ((pt s.t.dp.toNat:Nat):Int))]) mixed rfl trivial (fun _ h=>by cases h) ?_ ?_
           · refine ⟨?_,arm,arm,arm,?_,?_,?_,arm,trivial⟩
             · intro vs X wq K;exact Jj
             · exact Jk
             · refine qh ?_;intro vs X wq K;exact jx (j:=s.t.dp.toNat) JM G9 rfl rfl om om ⟨Below.refl _ _,Left.of rfl⟩
             · refine qh ?_;exact aez
           intro vs dL LE AO AL AF AA;have fC:=Ba;replace Ba:=Ba.drew.av LE ah.nil;replace E:=E.drew.trans (LE.mono OY);obtain ⟨_,e7,k7⟩:=AL.2.2.2.2.2.2.2.1;refine vo (τ:=[(0,_),(1,_),(4,_),(5,_),(6,_),(7,_),(8,.int .i64 ((pt s.t.dp.toNat:Nat):Int))]) ⟨rfl,rfl,rfl,rfl,rfl,rfl,congrArg some e7,trivial⟩ ?_;clear AL AF AA LE AO OY e7 k7 fC;refine yy 8 (.int .i64 ((P:Nat):Int)) rfl ((by rw[hP]:(.int .i64 ((pt s.t.dp.toNat:Nat):Int):Value)=_)) ?_;exact Tn
         ·
          have d9:=(zg Ba.lt);clear Ba;rintro _ fK ⟨IK,Ba,_⟩;replace E:=E.trans IK;replace M7:=M7.step E XM7;replace E:=aF (ak [(some ga)]) fK;refine ye ?_;refine zhq ?_;refine zd 56 (.int .i64 (-((P:Nat):Int))) rfl (by congr 1;omega) (za rfl (zb Hf rfl ((mX _ ga P s.t ⟨hI.dec,hsp,by show 1≤P∧P≤300000;omega,by show -10000000+15*((P:Nat):Int)≤s.t.dp∧s.t.dp≤1000000;omega⟩ Ba).mono ?_)));rintro e fM ⟨rfl,hB,hE⟩;refine ⟨_,rfl,?_⟩;replace Ba:=hB;clear hB;replace E:=E.step1 hE ak.head;clear hE;replace Ba:aB fM ga 229 (yg (js s.t P)):=by rw[←Ti om];exact Ba
          refine zv ?_;refine yo ?_;refine zq ?_;exact yc (⟨js s.t P,s.e+((P:Nat):Int)⟩) (hms) ⟨rfl,rfl,rfl,rfl,rfl,rfl,trivial⟩ ⟨M7.step E XM7,(by exact Ba),hkeep,hu⟩
       ·
        have h4:=of_decide_eq_false h4;have hdone:zqk s=true:=decide_eq_true om;rw[yv hdone] at hu;refine ye ?_;exact yk s ⟨rfl,rfl,rfl,rfl,rfl,rfl,trivial⟩ ⟨M5.step E Ng,(by exact Ba),hu⟩
      ·
       have d9:=(zg Ba.lt);clear Ba;rintro s w6 ⟨M5,Ba,hs⟩;replace E:=E.trans M5;replace HF:=HF.on E;replace M1:=M1.step E dM;replace M3:=M3.step E fA;replace E:=aF (ak [(some ga)]) w6;obtain ⟨hR1,hR2⟩:=mE ht hpos om;have hLs:=qnv hR1 hR2;refine aQ ?_;replace HF:=HF.on E;replace M1:=M1.step E dM;replace M3:=M3.step E fA;replace E:=aF (ak [(some ga)]) w6;refine yw (ι:=wY) (fun s=>[(0,.pointer (some ⟨ga,0,none⟩)),(1,.pointer (some ⟨8,0,none⟩)),(4,.int .u64 0),(5,.bool false),(6,.int .i64 s.e),(7,.int .u64 0)]) (fun s w'=>Ext (ak [(some ga)]) w6 w'∧aB w' ga 229 (yg s.t)∧(s=Ye t)) ?_ ?_
       ·
        have TB:=aF (ak [(some ga)]) w6;have TD:=bD (ak [(some ga)]) w6;refine aQ ?_;replace HF:=HF.on E;replace TB:=TB.step E TD;replace E:=aF (ak [(some ga)]) w6;refine jd (ι:=wY) (fun s=>[(0,.pointer (some ⟨ga,0,none⟩)),(1,.pointer (some ⟨8,0,none⟩)),(4,.int .u64 0),(5,.bool false),(6,.int .i64 s.e),(7,.int .u64 0)]) (fun s w'=>Ext (ak [(some ga)]) w6 w'∧aB w' ga 229 (yg s.t)∧(FX s∧qm yaz zqq s=Ye t)) (fun s=>Sd s.t) s ⟨rfl,rfl,rfl,rfl,rfl,rfl,trivial⟩ ⟨Ext.refl _ _,(by exact Ba),by rw[hs];exact hLs,by rw[hs];rfl⟩ ?_;have d9:=(zg Ba.lt);clear Ba;rintro s nT ⟨Jl,Ba,⟨hI,hu⟩⟩;have Gf:GR (ak [(some ga)]) (ak [(some ga)]) w6:=(ak.grow ak.none_ (fun k e=>Or.inl (ak.head k e)));replace E:=E.trans Jl;replace HF:=HF.on E;replace TB:=TB.step E TD;replace E:=aF (ak [(some ga)]) nT;have hls:=hI.dec.len;have hsd:=hI.dp;have hse:=hI.e;have hsp:=hI.pos;have hsg:=hI.dec.dh 0 hsp;refine zu ?_;replace HF:=HF.on E;replace TB:=TB.step E TD;replace Jl:=Jl.step E Gf;replace E:=aF (ak [(some ga)]) nT;refine yw (ι:=Bool) (fun g=>[(0,.pointer (some ⟨ga,0,none⟩)),(1,.pointer (some ⟨8,0,none⟩)),(4,.int .u64 0),(5,.bool false),(6,.int .i64 s.e),(7,.int .u64 0),(80,.bool g)]) (fun g w'=>Ext (ak [(some ga)]) nT w'∧aB w' ga 229 (yg s.t)∧(g=decide (s.t.dp<0∨(s.t.dp=0∧dg s.t.d 0<53)))) ?_ ?_
        ·
         have Vd:=aF (ak [(some ga)]) nT;have Ml:=bD (ak [(some ga)]) nT;refine ye ?_;refine za rfl (ya underlying3 rfl rfl Ba (wm hls s.t.dp rfl) (zu ?_));refine zz 66 rfl (fun h4=>?_) (fun h4=>?_)
         ·
          have h4:=of_decide_eq_true h4;refine xd ?_;exact yk true ⟨rfl,rfl,rfl,rfl,rfl,rfl,rfl,trivial⟩ ⟨Vd.step E Ml,(by exact Ba),(decide_eq_true (.inl h4)).symm⟩
         ·
          have h4:=of_decide_eq_false h4;refine zq ?_;refine bV rfl (ya underlying3 rfl rfl Ba (wm hls s.t.dp rfl) (zu ?_));refine zz 72 rfl (fun h5=>?_) (fun h5=>?_)
          ·
           have h5:=eq_of_beq h5;refine zq ?_;refine bV rfl (zgv (j:=0) fJ oH rfl rfl rfl de (bV rfl (ya u5 rfl rfl Ba (Yn hls (dg s.t.d 0) 0 rfl de) (ye ?_))));refine yy 80 (.bool (decide (s.t.dp<0∨(s.t.dp=0∧dg s.t.d 0<53)))) rfl (xr om) ?_;exact yk (decide (s.t.dp<0∨(s.t.dp=0∧dg s.t.d 0<53))) ⟨rfl,rfl,rfl,rfl,rfl,rfl,rfl,trivial⟩ ⟨Vd.step E Ml,(by exact Ba),rfl⟩
          ·
           have h5:¬s.t.dp=0:=fun e=>absurd h5 (by rw[e];decide);refine qo ?_;exact yk false ⟨rfl,rfl,rfl,rfl,rfl,rfl,rfl,trivial⟩ ⟨Vd.step E Ml,(by exact Ba),(decide_eq_false om).symm⟩
        ·
         have d9:=(zg Ba.lt);clear Ba;rintro g Aj ⟨Vd,Ba,hgg⟩;replace E:=E.trans Vd;replace HF:=HF.on E;replace TB:=TB.step E TD;replace Jl:=Jl.step E Gf;replace E:=aF (ak [(some ga)]) Aj;refine zj rfl (fun h4=>?_) (fun h4=>?_)
         ·
          rw[hgg] at h4;have h4:=of_decide_eq_true h4;have hdone:yaz s=false:=decide_eq_false (fun h=>h h4);obtain ⟨hkeep,hms⟩:=qox hI hdone;obtain ⟨P,hP⟩:∃P,P=pt (-s.t.dp).toNat:=⟨_,rfl⟩;have hP1:=BO (-s.t.dp).toNat;have hP2:=FW (-s.t.dp).toNat;have hst:zqq s= ⟨vp s.t P,s.e-((P:Nat):Int)⟩:=by rw[hP];rfl
          rw[←hP] at hP1 hP2;rw[qx hdone] at hu;rw[hst] at hu hkeep hms;refine zy ?_;replace HF:=HF.on E;replace Jl:=Jl.step E Gf;replace E:=aF (ak [(some ga)]) Aj;refine yw (ι:=Bool) (fun g=>[(0,.pointer (some ⟨ga,0,none⟩)),(1,.pointer (some ⟨8,0,none⟩)),(4,.int .u64 0),(5,.bool false),(6,.int .i64 s.e),(7,.int .u64 0),(9,.int .i64 0),(88,.bool g)]) (fun g w'=>Ext (ak [(some ga)]) Aj w'∧aB w' ga 229 (yg s.t)∧(g=decide (9≤0-s.t.dp))) ?_ ?_
          ·
           have M22:=aF (ak [(some ga)]) Aj;have aMj:=bD (ak [(some ga)]) Aj;have OY:∀q9,(ak (km [])) q9→q9<(World.drew Aj).heap.size→(ak [(some ga)]) q9:=fun k h _=>(ak.none_) k h;refine yx (ak [(some ga)]) (ak.grow ak.none_ (zg Ba.lt)) [] [] (xq [Fx.of (.pointer (some ⟨ga,0,none⟩)),
            Fx.of (.pointer (some ⟨ga,0,none⟩)),
            Fx.of (.pointer (some ⟨ga,801,none⟩)),
            Fx.of (.int .i64 s.t.dp),
            Fx.of (.int .i64 (0-s.t.dp)),
            Fx.of (.slice (some ⟨bp,op,none⟩) 9 cp),
            Fx.of (.int .i64 9),
            Fx.of (.bool (decide (9≤(0-s.t.dp))))]) mixed rfl trivial (fun _ h=>by cases h) ?_ ?_
           · refine ⟨arm,arm,arm,?_,?_,?_,arm,arm,trivial⟩
             · exact Jk
             · exact Tk
             · intro vs X wq K;exact Jj
           intro vs w24 LE AO AL AF AA;have fC:=Ba;replace Ba:=Ba.drew.av LE ah.nil;replace E:=E.drew.trans (LE.mono OY);obtain ⟨_,e7,k7⟩:=AL.2.2.2.2.2.2.2.1;refine vo (τ:=[(0,_),(1,_),(4,_),(5,_),(6,_),(7,_),(9,_),(88,.bool (decide (9≤(0-s.t.dp))))]) ⟨rfl,rfl,rfl,rfl,rfl,rfl,rfl,congrArg some e7,trivial⟩ ?_;clear AL AF AA LE AO OY e7 k7 fC;exact yk (decide (9≤0-s.t.dp)) ⟨rfl,rfl,rfl,rfl,rfl,rfl,rfl,rfl,trivial⟩ ⟨M22.step E aMj,(by exact Ba),rfl⟩
          ·
           have d9:=(zg Ba.lt);clear Ba;rintro g wU ⟨M22,Ba,hg2⟩;replace E:=E.trans M22;replace HF:=HF.on E;replace Jl:=Jl.step E Gf;replace E:=aF (ak [(some ga)]) wU;replace HF:=HF.on E;replace Jl:=Jl.step E Gf;replace E:=aF (ak [(some ga)]) wU;refine yw (ι:=Unit) (fun _=>[(0,.pointer (some ⟨ga,0,none⟩)),(1,.pointer (some ⟨8,0,none⟩)),(4,.int .u64 0),(5,.bool false),(6,.int .i64 s.e),(7,.int .u64 0),(9,.int .i64 ((P:Nat):Int))]) (fun _ w'=>Ext (ak [(some ga)]) wU w'∧aB w' ga 229 (yg s.t)∧(True)) ?_ ?_
           ·
            have M25:=aF (ak [(some ga)]) wU;have aMx:=bD (ak [(some ga)]) wU;refine zj rfl (fun h5=>?_) (fun h5=>?_)
            ·
             rw[hg2] at h5;have h5:=of_decide_eq_true h5;have e:P=27:=by rw[hP];exact Tt om
             refine zq ?_;refine yy 9 (.int .i64 ((P:Nat):Int)) rfl ((by rw[e];rfl:(.int .i64 27:Value)=_)) ?_;exact Tm
            ·
             rw[hg2] at h5;have h5:=of_decide_eq_false h5;have OY:∀q9,(ak (km [])) q9→q9<(World.drew wU).heap.size→(ak [(some ga)]) q9:=fun k h _=>(ak.none_) k h;refine yx (ak [(some ga)]) (ak.grow ak.none_ (zg Ba.lt)) [] [] (xq [Fx.of (.slice (some ⟨bp,op,none⟩) 9 cp),
              Fx.of (.pointer (some ⟨ga,0,none⟩)),
              Fx.of (.pointer (some ⟨ga,0,none⟩)),
              Fx.of (.pointer (some ⟨ga,801,none⟩)),
              Fx.of (.int .i64 s.t.dp),
              Fx.of (.int .i64 (0-s.t.dp)),
              Fx.of (.pointer (some ⟨bp,op+(-s.t.dp).toNat*1,none⟩)),
              Fx.of (.int .i64 ((pt (-s.t.dp).toNat:Nat):Int)),
              Fx.of (.int .i64 ((pt (-s.t.dp).toNat:Nat):Int))]) mixed rfl trivial (fun _ h=>by cases h) ?_ ?_
             · refine ⟨?_,arm,arm,arm,?_,?_,?_,?_,arm,trivial⟩
               · intro vs X wq K;exact Jj
               · exact Jk
               · exact Tk
               · refine qh ?_;intro vs X wq K;exact jx (j:=(-s.t.dp).toNat) JM G9 rfl rfl om om ⟨Below.refl _ _,Left.of rfl⟩
               · refine qh ?_;exact aez
             intro vs w27 LE AO AL AF AA;have fC:=Ba;replace Ba:=Ba.drew.av LE ah.nil;replace E:=E.drew.trans (LE.mono OY);obtain ⟨_,e8,k8⟩:=AL.2.2.2.2.2.2.2.2.1;refine vo (τ:=[(0,_),(1,_),(4,_),(5,_),(6,_),(7,_),(9,.int .i64 ((pt (-s.t.dp).toNat:Nat):Int))]) ⟨rfl,rfl,rfl,rfl,rfl,rfl,congrArg some e8,trivial⟩ ?_;clear AL AF AA LE AO OY e8 k8 fC;refine yy 9 (.int .i64 ((P:Nat):Int)) rfl ((by rw[hP]:(.int .i64 ((pt (-s.t.dp).toNat:Nat):Int):Value)=_)) ?_;exact Tm
           ·
            have d9:=(zg Ba.lt);clear Ba;rintro _ w26 ⟨M25,Ba,_⟩;replace E:=E.trans M25;replace HF:=HF.on E;replace Jl:=Jl.step E Gf;replace E:=aF (ak [(some ga)]) w26;refine ye ?_;refine za rfl (zb Hf rfl ((mW _ ga P s.t hP2 hI.dec hsp om Ba (HF.on E).here.1.1.1.2 hg).mono ?_));rintro e w28 ⟨rfl,hB,hE⟩;refine ⟨_,rfl,?_⟩;replace Ba:=hB;clear hB;replace E:=E.step1 hE ak.head;clear hE;refine zv ?_;refine yt ?_;refine zq ?_;exact yc (⟨vp s.t P,s.e-((P:Nat):Int)⟩) (hms) ⟨rfl,rfl,rfl,rfl,rfl,rfl,trivial⟩ ⟨Jl.step E Gf,(by exact Ba),hkeep,hu⟩
         ·
          rw[hgg] at h4;have h4:=of_decide_eq_false h4;have hdone:yaz s=true:=decide_eq_true h4;rw[yv hdone] at hu;refine ye ?_;exact yk s ⟨rfl,rfl,rfl,rfl,rfl,rfl,trivial⟩ ⟨TB.step E TD,(by exact Ba),hu⟩
       ·
        have d9:=(zg Ba.lt);clear Ba;rintro s nS ⟨TB,Ba,hs2⟩;replace E:=E.trans TB;replace HF:=HF.on E;replace M1:=M1.step E dM;replace M3:=M3.step E fA;replace E:=aF (ak [(some ga)]) nS;clear hs;obtain ⟨hL1,_⟩:=Sg ht hpos om;rw[←hs2] at hL1 aox;have hls:=hL1.dec.len;have hsd:=hL1.dp;have hse:=hL1.e;have hsp:=hL1.pos;have hms:0≤((Sd s.t:Nat):Int):=om;have aE2:s.t.neg=t.neg:=by rw[hs2];exact Yu ht hpos om
        refine zq ?_;refine yt ?_;refine yq ?_;refine za rfl (jc (z:=(-1022)) rfl rfl kr (zq ?_));replace HF:=HF.on E;replace M1:=M1.step E dM;replace M3:=M3.step E fA;replace E:=aF (ak [(some ga)]) nS;refine yw (ι:=Dec×Int) (fun (t3,e3)=>[(0,.pointer (some ⟨ga,0,none⟩)),(1,.pointer (some ⟨8,0,none⟩)),(4,.int .u64 0),(5,.bool false),(6,.int .i64 e3),(7,.int .u64 0)]) (fun (t3,e3) w'=>Ext (ak [(some ga)]) nS w'∧aB w' ga 229 (yg t3)∧(vV t=(if 1024≤e3 then (0,2047,true) else qtq (vp t3 53) e3)∧bH t3∧0<t3.nd∧(-11000000≤t3.dp∧t3.dp≤1000000)∧(-1022≤e3∧e3≤90000)∧t3.neg=t.neg)) ?_ ?_
        ·
         have M29:=aF (ak [(some ga)]) nS;have aE3:=bD (ak [(some ga)]) nS;refine zj rfl (fun h4=>?_) (fun h4=>?_)
         ·
          have h4:=of_decide_eq_true h4;have hSh:Nl ⟨s.t,(-1022-(s.e-1)).toNat⟩:=⟨hL1.dec,hsp,by show 1≤(-1022-(s.e-1)).toNat∧(-1022-(s.e-1)).toNat≤300000;omega,by show -10000000+15*(((-1022-(s.e-1)).toNat:Nat):Int)≤s.t.dp∧s.t.dp≤1000000;omega⟩;obtain ⟨hq1,hq2,hq3,hq4⟩:=FY hSh;have hq5:(gB s.t (-1022-(s.e-1)).toNat).neg=t.neg:=by rw[Tw hSh];exact aE2
          have hfe:vV t=qtq (vp (gB s.t (-1022-(s.e-1)).toNat) 53) (-1022):=by rw[aox];unfold rZ;rw[if_pos om]
          refine zt ?_;refine za rfl (jc (z:=(-1022)) rfl rfl kr (aQ ?_));refine yt ?_;refine zr ?_;refine zhq ?_;refine zd 121 (.int .i64 (-(((-1022-(s.e-1)).toNat:Nat):Int))) rfl (by congr 1;omega) (za rfl (zb Hf rfl ((mX _ ga (-1022-(s.e-1)).toNat s.t hSh Ba).mono ?_)));rintro e w31 ⟨rfl,hB,hE⟩;refine ⟨_,rfl,?_⟩;replace Ba:=hB;clear hB;replace E:=E.step1 hE ak.head;clear hE;refine ji ?_;refine yy 6 (.int .i64 (-1022)) rfl ((by congr 1;omega:(.int .i64 ((s.e-1)+((-1022)-(s.e-1))):Value)=_)) ?_;exact yk (gB s.t (-1022-(s.e-1)).toNat,-1022) ⟨rfl,rfl,rfl,rfl,rfl,rfl,trivial⟩ ⟨M29.step E aE3,(by exact Ba),by rw[if_neg de];exact hfe,hq1,hq2,⟨hq3,hq4⟩,de,hq5⟩
         ·
          have h4:=of_decide_eq_false h4;have hfe:vV t=(if 1024≤s.e-1 then (0,2047,true) else qtq (vp s.t 53) (s.e-1)):=by rw[aox];unfold rZ;rw[if_neg om]
          refine aQ ?_;exact yk (s.t,s.e-1) ⟨rfl,rfl,rfl,rfl,rfl,rfl,trivial⟩ ⟨M29.step E aE3,(by exact Ba),hfe,hL1.dec,hsp,om,om,aE2⟩
        ·
         have d9:=(zg Ba.lt);clear Ba;rintro ⟨t3,e3⟩ Mq ⟨M29,Ba,⟨gD,ht3,hp3,hd3,he3,hn3⟩⟩;replace E:=E.trans M29;replace HF:=HF.on E;replace M1:=M1.step E dM;replace M3:=M3.step E fA;replace E:=aF (ak [(some ga)]) Mq;have hl3:=ht3.len;refine zu ?_;replace HF:=HF.on E;replace M1:=M1.step E dM;replace M3:=M3.step E fA;replace E:=aF (ak [(some ga)]) Mq;refine yw (ι:=Bool) (fun g=>[(0,.pointer (some ⟨ga,0,none⟩)),(1,.pointer (some ⟨8,0,none⟩)),(4,.int .u64 0),(5,.bool false),(6,.int .i64 e3),(7,.int .u64 0),(138,.bool g)]) (fun g w'=>Ext (ak [(some ga)]) Mq w'∧aB w' ga 229 (yg t3)∧(g=decide (1024≤e3))) ?_ ?_
         ·
          have M32:=aF (ak [(some ga)]) Mq;have aN0:=bD (ak [(some ga)]) Mq;have OY:∀q9,(ak (km [])) q9→q9<(World.drew Mq).heap.size→(ak [(some ga)]) q9:=fun k h _=>(ak.none_) k h;refine yx (ak [(some ga)]) (ak.grow ak.none_ (zg Ba.lt)) [] [] (xq [Fx.of (.int .i64 e3),
           Fx.of (.pointer (some ⟨8,0,none⟩)),
           Fx.of (.pointer (some ⟨8,0,none⟩)),
           Fx.of (.pointer (some ⟨8,2,none⟩)),
           Fx.of (.int .i64 (-1023)),
           Fx.of (.int .i64 (e3-(-1023))),
           Fx.of (.pointer (some ⟨8,0,none⟩)),
           Fx.of (.pointer (some ⟨8,0,none⟩)),
           Fx.of (.pointer (some ⟨8,1,none⟩)),
           Fx.of (.int .u64 11),
           Fx.of (.int .i64 2048),
           Fx.of (.int .i64 2047),
           Fx.of (.bool (decide (1024≤e3)))]) mixed rfl trivial (fun _ h=>by cases h) ?_ ?_
          · exact aex
          intro vs w34 LE AO AL AF AA;have fC:=Ba;replace Ba:=Ba.drew.av LE ah.nil;replace E:=E.drew.trans (LE.mono OY);obtain ⟨_,e12,k12⟩:=AL.2.2.2.2.2.2.2.2.2.2.2.2.1;refine vo (τ:=[(0,_),(1,_),(4,_),(5,_),(6,_),(7,_),(138,.bool (decide (1024≤e3)))]) ⟨rfl,rfl,rfl,rfl,rfl,rfl,congrArg some e12,trivial⟩ ?_;clear AL AF AA LE AO OY e12 k12 fC;exact yk (decide (1024≤e3)) ⟨rfl,rfl,rfl,rfl,rfl,rfl,rfl,trivial⟩ ⟨M32.step E aN0,(by exact Ba),rfl⟩
         ·
          have d9:=(zg Ba.lt);clear Ba;rintro g w33 ⟨M32,Ba,hgg⟩;replace E:=E.trans M32;replace HF:=HF.on E;replace M1:=M1.step E dM;replace M3:=M3.step E fA;replace E:=aF (ak [(some ga)]) w33;refine zj rfl (fun h4=>?_) (fun h4=>?_)
          ·
           rw[hgg] at h4;have h4:=of_decide_eq_true h4;rw[if_pos h4] at gD;refine zu ?_;exact ypv rfl aoz t3 ⟨rfl,rfl,trivial⟩ ⟨M3.step E fA,(by exact Ba),gD,hl3,hn3⟩
          ·
           rw[hgg] at h4;have h4:=of_decide_eq_false h4;rw[if_neg h4] at gD;obtain ⟨hq1,hq2,hq3,hq4,_,hq5⟩:=zzx ht3 hp3 (.inr (.inr (.inr (.inr (.inr (.inr (.inr (.inr (.inr (.inr rfl))))))))):wX 53);have hl5:=hq1.len;have hn5:(vp t3 53).neg=t.neg:=hq5.trans hn3;obtain ⟨M,hM⟩:∃M,M=Ja (vp t3 53):=⟨_,rfl⟩;have aE1:M<18446744073709551616:=by rw[hM];exact Ma _
           unfold qtq at gD;rw[←hM] at gD;refine qo ?_;refine za rfl (jc (z:=53) rfl rfl kr (za rfl (jl (z:=53) underlying3 Oo rfl kr (za rfl (zb Hf rfl ((mW _ ga 53 t3 (.inr (.inr (.inr (.inr (.inr (.inr (.inr (.inr (.inr (.inr rfl)))))))))) ht3 hp3 om Ba (HF.on E).here.1.1.1.2 hg).mono ?_))))));rintro e w35 ⟨rfl,hB,hE⟩;refine ⟨_,rfl,?_⟩;replace Ba:=hB;clear hB;replace E:=E.step1 hE ak.head;clear hE;refine zv ?_;refine za rfl (zb ax5 rfl ((wu _ ga (vp t3 53) hq1 om Ba).mono ?_));rintro e w36 ⟨rfl,hb⟩;refine ⟨_,rfl,?_⟩;have Ec:=Ext.of_below hb No;replace Ba:=Ba.av Ec ah.nil;replace E:=E.trans Ec.no;refine zd 148 (.int .u64 ((M:Nat):Int)) rfl (by rw[hM]<;>rfl) (yq ?_);refine za rfl (gk (z:=9007199254740992) rfl rfl de kr (zq ?_));refine zj rfl (fun h5=>?_) (fun h5=>?_)
           ·
            have h5:M=9007199254740992:=by have h5:=eq_of_beq h5;omega
            rw[if_pos h5] at gD;refine ze 7 (.int .u64 9007199254740992) rfl (by rw[h5];rfl) (zq ?_);refine za rfl (jo (z:=4503599627370496) rfl rfl de kr (zt ?_));refine yo ?_;refine ye ?_;replace HF:=HF.on E;replace M1:=M1.step E dM;replace M3:=M3.step E fA;replace E:=aF (ak [(some ga)]) w36;refine yw (ι:=Bool) (fun g=>[(0,.pointer (some ⟨ga,0,none⟩)),(1,.pointer (some ⟨8,0,none⟩)),(4,.int .u64 0),(5,.bool false),(6,.int .i64 (e3+1)),(7,.int .u64 4503599627370496),(172,.bool g)]) (fun g w'=>Ext (ak [(some ga)]) w36 w'∧aB w' ga 229 (yg (vp t3 53))∧(g=decide (1023≤e3))) ?_ ?_
            ·
             have M37:=aF (ak [(some ga)]) w36;have aN1:=bD (ak [(some ga)]) w36;have OY:∀q9,(ak (km [])) q9→q9<(World.drew w36).heap.size→(ak [(some ga)]) q9:=fun k h _=>(ak.none_) k h;refine yx (ak [(some ga)]) (ak.grow ak.none_ (zg Ba.lt)) [] [] (xq [Fx.of (.int .i64 (e3+1)),
              Fx.of (.pointer (some ⟨8,0,none⟩)),
              Fx.of (.pointer (some ⟨8,0,none⟩)),
              Fx.of (.pointer (some ⟨8,2,none⟩)),
              Fx.of (.int .i64 (-1023)),
              Fx.of (.int .i64 ((e3+1)-(-1023))),
              Fx.of (.pointer (some ⟨8,0,none⟩)),
              Fx.of (.pointer (some ⟨8,0,none⟩)),
              Fx.of (.pointer (some ⟨8,1,none⟩)),
              Fx.of (.int .u64 11),
              Fx.of (.int .i64 2048),
              Fx.of (.int .i64 2047),
              Fx.of (.bool (decide (1023≤e3)))]) mixed rfl trivial (fun _ h=>by cases h) ?_ ?_
             · exact aex
             intro vs w39 LE AO AL AF AA;have fC:=Ba;replace Ba:=Ba.drew.av LE ah.nil;replace E:=E.drew.trans (LE.mono OY);obtain ⟨_,e12,k12⟩:=AL.2.2.2.2.2.2.2.2.2.2.2.2.1;refine vo (τ:=[(0,_),(1,_),(4,_),(5,_),(6,_),(7,_),(172,.bool (decide (1023≤e3)))]) ⟨rfl,rfl,rfl,rfl,rfl,rfl,congrArg some e12,trivial⟩ ?_;clear AL AF AA LE AO OY e12 k12 fC;exact yk (decide (1023≤e3)) ⟨rfl,rfl,rfl,rfl,rfl,rfl,rfl,trivial⟩ ⟨M37.step E aN1,(by exact Ba),rfl⟩
            ·
             have d9:=(zg Ba.lt);clear Ba;rintro g w38 ⟨M37,Ba,hg3⟩;replace E:=E.trans M37;replace HF:=HF.on E;replace M1:=M1.step E dM;replace M3:=M3.step E fA;replace E:=aF (ak [(some ga)]) w38;refine zj rfl (fun h6=>?_) (fun h6=>?_)
             ·
              rw[hg3] at h6;have h6:=of_decide_eq_true h6;rw[if_pos h6] at gD;refine zu ?_;exact ypv rfl aoz (vp t3 53) ⟨rfl,rfl,trivial⟩ ⟨M3.step E fA,(by exact Ba),gD,hl5,hn5⟩
             ·
              rw[hg3] at h6;have h6:=of_decide_eq_false h6;rw[if_neg h6] at gD;obtain ⟨Kx,hK⟩:∃Kx,Kx=(e3+1+1023).toNat:=⟨_,rfl⟩;rw[←hK] at gD;refine ye ?_;refine ze 7 (.int .u64 ((4503599627370496:Nat):Int)) rfl (rfl) (zt ?_);refine yyv ?_;refine za rfl (kg rfl rfl (Tv (m:=4503599627370496) de) (zq ?_));refine ze 180 (.bool false) rfl (by rw[jw (by decide +kernel)]<;>rfl) (zt ?_);refine yy 6 (.int .i64 (((Kx:Nat):Int)-1023)) rfl ((by congr 1;omega:(.int .i64 (e3+1):Value)=_)) ?_;exact ypv rfl ao8 (4503599627370496,Kx,false,vp t3 53) ⟨rfl,rfl,rfl,rfl,rfl,trivial⟩ ⟨M1.step E dM,(by exact Ba),gD,de,om,hl5,hn5⟩
           ·
            have h5:¬M=9007199254740992:=fun e=>absurd h5 (by rw[e];decide);rw[if_neg h5] at gD;refine zy ?_;refine yyv ?_;refine za rfl (kg rfl rfl (Tv aE1) (zq ?_));refine zj rfl (fun h6=>?_) (fun h6=>?_)
            ·
             have h6:M &&& 4503599627370496=0:=by have h6:=eq_of_beq h6;omega
             rw[if_pos h6] at gD;obtain ⟨Kx,hK⟩:∃Kx:Nat,Kx=0:=⟨_,rfl⟩;rw[←hK] at gD;refine yq ?_;refine yy 6 (.int .i64 (((Kx:Nat):Int)-1023)) rfl ((by rw[hK];rfl:(.int .i64 (-1023):Value)=_)) ?_;exact ae8
            ·
             have h6:¬M &&& 4503599627370496=0:=fun e=>absurd h6 (by rw[e];decide);rw[if_neg h6] at gD;obtain ⟨Kx,hK⟩:∃Kx,Kx=(e3+1023).toNat:=⟨_,rfl⟩;rw[←hK] at gD;refine zv ?_;refine yy 6 (.int .i64 (((Kx:Nat):Int)-1023)) rfl ((by congr 1;omega:(.int .i64 e3:Value)=_)) ?_;exact ae8
  ·
   have d9:=(zg Ba.lt);clear Ba;rintro u w4 ⟨M3,Ba,⟨gD,hl5,hn5⟩⟩;replace E:=E.trans M3;replace HF:=HF.on E;replace LW:=LW.step E aj;replace E:=aF (ak [(some ga)]) w4;refine qo ?_;have OY:∀q9,(ak (km [])) q9→q9<(World.drew w4).heap.size→(ak [(some ga)]) q9:=fun k h _=>(ak.none_) k h;refine yx (ak [(some ga)]) (ak.grow ak.none_ (zg Ba.lt)) [] [] (xq [Fx.of (.pointer (some ⟨8,0,none⟩)),
    Fx.of (.pointer (some ⟨8,0,none⟩)),
    Fx.of (.pointer (some ⟨8,1,none⟩)),
    Fx.of (.int .u64 11),
    Fx.of (.int .i64 2048),
    Fx.of (.int .i64 2047),
    Fx.of (.pointer (some ⟨8,0,none⟩)),
    Fx.of (.pointer (some ⟨8,0,none⟩)),
    Fx.of (.pointer (some ⟨8,2,none⟩)),
    Fx.of (.int .i64 (-1023)),
    Fx.of (.int .i64 1024),
    Fx.of (.int .i64 1024)]) mixed rfl trivial (fun _ h=>by cases h) ?_ ?_
   · refine ⟨arm,arm,arm,arm,?_,?_,arm,arm,arm,arm,?_,arm,trivial⟩
     · exact Tq
     · exact Ji
     · refine qh ?_;intro vs X wq K;exact jc (z:=1024) rfl rfl kr ⟨Below.refl _ _,Left.of rfl⟩
   intro vs w40 LE AO AL AF AA;have fC:=Ba;replace Ba:=Ba.drew.av LE ah.nil;replace E:=E.drew.trans (LE.mono OY);obtain ⟨_,e11,k11⟩:=AL.2.2.2.2.2.2.2.2.2.2.2.1;refine vo (τ:=[(0,_),(1,_),(6,.int .i64 1024),(7,_)]) ⟨rfl,rfl,congrArg some e11,rfl,trivial⟩ ?_;clear AL AF AA LE AO OY e11 k11 fC;refine zr ?_;refine xZ (yu ?_);refine yyv ?_;refine za rfl (jn (z:=4503599627370495) rfl rfl kr (yyz ?_));refine ye ?_;have OY:∀q9,(ak (km [])) q9→q9<(World.drew w40).heap.size→(ak [(some ga)]) q9:=fun k h _=>(ak.none_) k h;refine yx (ak [(some ga)]) (ak.grow ak.none_ (zg Ba.lt)) [] [] (xq [Fx.of (.int .u64 0),
    Fx.of (.int .i64 1024),
    Fx.of (.pointer (some ⟨8,0,none⟩)),
    Fx.of (.pointer (some ⟨8,0,none⟩)),
    Fx.of (.pointer (some ⟨8,2,none⟩)),
    Fx.of (.int .i64 (-1023)),
    Fx.of (.int .i64 2047),
    Fx.of (.pointer (some ⟨8,0,none⟩)),
    Fx.of (.pointer (some ⟨8,0,none⟩)),
    Fx.of (.pointer (some ⟨8,1,none⟩)),
    Fx.of (.int .u64 11),
    Fx.of (.int .i64 2048),
    Fx.of (.int .i64 2047),
    Fx.of (.int .i64 2047),
    Fx.of (.int .u64 2047),
    Fx.of (.pointer (some ⟨8,0,none⟩)),
    Fx.of (.pointer (some ⟨8,0,none⟩)),
    Fx.of (.pointer (some ⟨8,0,none⟩)),
    Fx.of (.int .u64 52),
    Fx.of (.int .u64 9218868437227405312),
    Fx.of (.int .u64 9218868437227405312),
    Fx.of (.int .u64 9218868437227405312)]) mixed rfl trivial (fun _ h=>by cases h) ?_ ?_
   · refine ⟨arm,arm,arm,arm,arm,arm,?_,arm,arm,arm,arm,?_,?_,?_,?_,arm,arm,arm,arm,?_,?_,arm,trivial⟩
     · exact Ji
     · exact Tq
     · exact Ji
     · refine qh ?_;intro vs X wq K;exact kg (z:=2047) rfl rfl kr ⟨Below.refl _ _,Left.of rfl⟩
     · refine qh ?_;intro vs X wq K;exact jl (z:=2047) u25 underlying3 rfl kr ⟨Below.refl _ _,Left.of rfl⟩
     · refine qh ?_;intro vs X wq K;exact gk (z:=9218868437227405312) rfl rfl de kr ⟨Below.refl _ _,Left.of rfl⟩
     · refine qh ?_;intro vs X wq K;exact pJ (z:=9218868437227405312) rfl rfl kr ⟨Below.refl _ _,Left.of rfl⟩
   intro vs w41 LE AO AL AF AA;have fC:=Ba;replace Ba:=Ba.drew.av LE ah.nil;replace E:=E.drew.trans (LE.mono OY);obtain ⟨_,e21,k21⟩:=AL.2.2.2.2.2.2.2.2.2.2.2.2.2.2.2.2.2.2.2.2.2.1;refine vo (τ:=[(0,_),(1,_),(5,_),(11,.int .u64 9218868437227405312)]) ⟨rfl,rfl,rfl,congrArg some e21,trivial⟩ ?_;clear AL AF AA LE AO OY e21 k21 fC;refine zr ?_;refine za rfl (ya u4 rfl rfl Ba (aDz hl5 t.neg hn5) (zu ?_));refine zj rfl (fun hng=>?_) (fun hng=>?_)
   ·
    have OY:∀q9,(ak (km [])) q9→q9<(World.drew w41).heap.size→(ak [(some ga)]) q9:=fun k h _=>(ak.none_) k h;refine yx (ak [(some ga)]) (ak.grow ak.none_ (zg Ba.lt)) [] [] (xq [Fx.of (.int .u64 9218868437227405312),
     Fx.of (.pointer (some ⟨8,0,none⟩)),
     Fx.of (.pointer (some ⟨8,0,none⟩)),
     Fx.of (.pointer (some ⟨8,0,none⟩)),
     Fx.of (.int .u64 52),
     Fx.of (.int .u64 4503599627370496),
     Fx.of (.pointer (some ⟨8,0,none⟩)),
     Fx.of (.pointer (some ⟨8,0,none⟩)),
     Fx.of (.pointer (some ⟨8,1,none⟩)),
     Fx.of (.int .u64 11),
     Fx.of (.int .u64 9223372036854775808),
     Fx.of (.int .u64 18442240474082181120),
     Fx.of (.int .u64 18442240474082181120)]) mixed rfl trivial (fun _ h=>by cases h) ?_ ?_
    · refine ⟨arm,arm,arm,arm,arm,?_,arm,arm,arm,arm,?_,?_,arm,trivial⟩
      · exact Tp
      · exact ae7
      · refine qh ?_;intro vs X wq K;exact pJ (z:=18442240474082181120) rfl rfl kr ⟨Below.refl _ _,Left.of rfl⟩
    intro vs w42 LE AO AL AF AA;have fC:=Ba;replace Ba:=Ba.drew.av LE ah.nil;replace E:=E.drew.trans (LE.mono OY);obtain ⟨_,e12,k12⟩:=AL.2.2.2.2.2.2.2.2.2.2.2.2.1;refine vo (τ:=[(5,_),(11,.int .u64 18442240474082181120)]) ⟨rfl,congrArg some e12,trivial⟩ ?_;clear AL AF AA LE AO OY e12 k12 fC;refine zy ?_;refine od ?_;have e:Jc t=18442240474082181120:=by unfold Jc;rw[gD,hng];decide +kernel
    exact Jh
   ·
    refine yq ?_;refine od ?_;have e:Jc t=9218868437227405312:=by unfold Jc;rw[gD,hng];decide +kernel
    exact Jh
 ·
  have d9:=(zg Ba.lt);clear Ba;rintro ⟨m,k,ov,u⟩ w2 ⟨M1,Ba,⟨gD,hmm,hee,hl5,hn5⟩⟩;replace E:=E.trans M1;replace HF:=HF.on E;replace LW:=LW.step E aj;replace E:=aF (ak [(some ga)]) w2;refine zy ?_;refine yyv ?_;refine za rfl (jn (z:=4503599627370495) rfl rfl kr (za rfl (kg rfl rfl (aoq hmm) (ye ?_))));have OY:∀q9,(ak (km [])) q9→q9<(World.drew w2).heap.size→(ak [(some ga)]) q9:=fun k h _=>(ak.none_) k h;refine yx (ak [(some ga)]) (ak.grow ak.none_ (zg Ba.lt)) [] [] (xq [Fx.of (.int .u64 ((m &&& 4503599627370495:Nat):Int)),
   Fx.of (.int .i64 (((k:Nat):Int)-1023)),
   Fx.of (.pointer (some ⟨8,0,none⟩)),
   Fx.of (.pointer (some ⟨8,0,none⟩)),
   Fx.of (.pointer (some ⟨8,2,none⟩)),
   Fx.of (.int .i64 (-1023)),
   Fx.of (.int .i64 ((k:Nat):Int)),
   Fx.of (.pointer (some ⟨8,0,none⟩)),
   Fx.of (.pointer (some ⟨8,0,none⟩)),
   Fx.of (.pointer (some ⟨8,1,none⟩)),
   Fx.of (.int .u64 11),
   Fx.of (.int .i64 2048),
   Fx.of (.int .i64 2047),
   Fx.of (.int .i64 ((k:Nat):Int)),
   Fx.of (.int .u64 ((k:Nat):Int)),
   Fx.of (.pointer (some ⟨8,0,none⟩)),
   Fx.of (.pointer (some ⟨8,0,none⟩)),
   Fx.of (.pointer (some ⟨8,0,none⟩)),
   Fx.of (.int .u64 52),
   Fx.of (.int .u64 ((k*4503599627370496:Nat):Int)),
   Fx.of (.int .u64 ((Gd m k:Nat):Int)),
   Fx.of (.int .u64 ((Gd m k:Nat):Int))]) mixed rfl trivial (fun _ h=>by cases h) ?_ ?_
  · refine ⟨arm,arm,arm,arm,arm,arm,?_,arm,arm,arm,arm,?_,?_,?_,?_,arm,arm,arm,arm,?_,?_,arm,trivial⟩
    · refine qh ?_;intro vs X wq K;exact jn rfl rfl (yr om) ⟨Below.refl _ _,Left.of ((by congr 1;omega:(.int .i64 ((((k:Nat):Int)-1023)-(-1023)):Value)=_))⟩
    · exact Tq
    · exact Ji
    · refine qh ?_;intro vs X wq K;exact kg rfl rfl (Mj hee) ⟨Below.refl _ _,Left.of rfl⟩
    · refine qh ?_;intro vs X wq K;exact jl u25 underlying3 rfl (wrap_u64 om) ⟨Below.refl _ _,Left.of rfl⟩
    · refine qh ?_;intro vs X wq K;exact gk rfl rfl de (ao9 hee) ⟨Below.refl _ _,Left.of rfl⟩
    · refine qh ?_;intro vs X wq K;exact pJ rfl rfl (Tx hee) ⟨Below.refl _ _,Left.of rfl⟩
  intro vs w43 LE AO AL AF AA;have fC:=Ba;replace Ba:=Ba.drew.av LE ah.nil;replace E:=E.drew.trans (LE.mono OY);obtain ⟨_,e21,k21⟩:=AL.2.2.2.2.2.2.2.2.2.2.2.2.2.2.2.2.2.2.2.2.2.1;refine vo (τ:=[(0,_),(1,_),(5,_),(11,.int .u64 ((Gd m k:Nat):Int))]) ⟨rfl,rfl,rfl,congrArg some e21,trivial⟩ ?_;clear AL AF AA LE AO OY e21 k21 fC;refine zr ?_;refine za rfl (ya u4 rfl rfl Ba (aDz hl5 t.neg hn5) (zu ?_));refine zj rfl (fun hng=>?_) (fun hng=>?_)
  ·
   have OY:∀q9,(ak (km [])) q9→q9<(World.drew w43).heap.size→(ak [(some ga)]) q9:=fun k h _=>(ak.none_) k h;refine yx (ak [(some ga)]) (ak.grow ak.none_ (zg Ba.lt)) [] [] (xq [Fx.of (.int .u64 ((Gd m k:Nat):Int)),
    Fx.of (.pointer (some ⟨8,0,none⟩)),
    Fx.of (.pointer (some ⟨8,0,none⟩)),
    Fx.of (.pointer (some ⟨8,0,none⟩)),
    Fx.of (.int .u64 52),
    Fx.of (.int .u64 4503599627370496),
    Fx.of (.pointer (some ⟨8,0,none⟩)),
    Fx.of (.pointer (some ⟨8,0,none⟩)),
    Fx.of (.pointer (some ⟨8,1,none⟩)),
    Fx.of (.int .u64 11),
    Fx.of (.int .u64 9223372036854775808),
    Fx.of (.int .u64 ((Gd m k ||| 9223372036854775808:Nat):Int)),
    Fx.of (.int .u64 ((Gd m k ||| 9223372036854775808:Nat):Int))]) mixed rfl trivial (fun _ h=>by cases h) ?_ ?_
   · refine ⟨arm,arm,arm,arm,arm,?_,arm,arm,arm,arm,?_,?_,arm,trivial⟩
     · exact Tp
     · exact ae7
     · refine qh ?_;intro vs X wq K;exact pJ rfl rfl (Mk hee) ⟨Below.refl _ _,Left.of rfl⟩
   intro vs w44 LE AO AL AF AA;have fC:=Ba;replace Ba:=Ba.drew.av LE ah.nil;replace E:=E.drew.trans (LE.mono OY);obtain ⟨_,e12,k12⟩:=AL.2.2.2.2.2.2.2.2.2.2.2.2.1;refine vo (τ:=[(5,_),(11,.int .u64 ((Gd m k ||| 9223372036854775808:Nat):Int))]) ⟨rfl,congrArg some e12,trivial⟩ ?_;clear AL AF AA LE AO OY e12 k12 fC;refine zy ?_;refine od ?_;have e:Jc t=Gd m k ||| 9223372036854775808:=by unfold Jc rY Gd;rw[gD,if_pos hng]
   exact Jh
  ·
   refine yq ?_;refine od ?_;have e:Jc t=Gd m k:=by unfold Jc rY Gd;rw[gD,if_neg (by rw[hng];decide)]
   exact Jh
end
end Go.Proofs.YtmnmebdmpigddaaGreatDoor
namespace Go.Proofs.YtmnmebdmpigddaaGreatDoor
open Go.RowKit Proofs.Tryz
theorem Cn {P Q:Prop} (k:Q) (h:(Unit→Q)→P:=by
 intro zK;refine zu ?_;refine bV rfl (yp (j:=k) (b:=aL s (k)) u9 rfl rfl rfl (va om) ?_);exact zK ()):P:=h fun _=>k
theorem Co {P Q:Prop} (k:Q) (h:(Unit→Q)→P:=by
 intro zK;refine zu ?_;refine bV rfl (yp (j:=y.i) (b:=aL s (y.i)) u9 rfl rfl rfl (va om) ?_);exact zK ()):P:=h fun _=>k
theorem Cq {P Q:Prop} (k:Q) (h:(Unit→Q)→P:=by
 intro zK;refine za rfl (ya underlying3 rfl rfl Ba (wZ hlx (x.t.nd) rfl) (zu ?_));refine zp (qq G9 rfl rfl Ba rfl rfl (xA hlx (by decide:801<804)) (qkk hlx (x.t.nd:Int)) ?_);exact zK ()):P:=h fun _=>k
theorem Cr {P Q:Prop} (k:Q) (h:(Unit→Q)→P:=by
 intro zK;refine vo (τ:=[(0,_),(1,_),(4,_),(5,_),(6,_),(7,_),(99,.int .u8 ((aL s x.i:Nat):Int)),(102,.pointer (some ⟨ga,x.t.nd,none⟩))]) ⟨rfl,rfl,rfl,rfl,rfl,rfl,congrArg some e7,congrArg some e10,trivial⟩ ?_;exact zK ()):P:=h fun _=>k
theorem mY {P Q:Prop} (k:Q) (h:(Unit→Q)→P:=by
 intro zK;refine zu ?_;refine bV rfl (yp (j:=x.i) (b:=aL s (x.i)) u9 rfl rfl rfl (va om) ?_);exact zK ()):P:=h fun _=>k
theorem Ct {P Q:Prop} (k:Q) (h:(Unit→Q)→P:=by
 intro zK;refine zt ?_;refine za rfl (ya underlying3 rfl rfl Ba (wZ qH (x.t.nd) rfl) (yo ?_));refine zu ?_;refine zd 107 (.int .i64 ((x.t.nd+1:Nat):Int)) rfl (rfl) (zp (qq G9 rfl rfl Ba rfl rfl (xA qH (by decide:800<804)) (l6 qH (x.t.nd+1)) ?_));exact zK ()):P:=h fun _=>k
theorem zix {P Q:Prop} (k:Q) (h:(Unit→Q)→P:=by
 intro zK;refine za rfl (yp (j:=x.i) (b:=aL s (x.i)) u9 rfl rfl rfl (va om) ?_);exact zK ()):P:=h fun _=>k
theorem TF {P:Prop} (h:P:=by
 exact yk () ⟨rfl,rfl,rfl,rfl,trivial⟩ ⟨M3.step E fA,(by exact Ba),trivial⟩):P:=h
theorem TG {P:Prop} (h:P:=by
 exact yk x ⟨rfl,rfl,rfl,rfl,rfl,rfl,trivial⟩ ⟨M6.step E SG,(by exact Ba),hu⟩):P:=h
theorem aej {P:Prop} (h:P:=by
 refine ⟨arm,arm,arm,arm,?_,arm,arm,?_,arm,arm,?_,trivial⟩
 · refine qh ?_;intro vs X wq K;have LE:=K.1;exact ya underlying3 rfl rfl (Ba.drew.av LE ah.nil) (wZ hlx x.t.nd rfl) ⟨Below.refl _ _,Left.of rfl⟩
 · refine qh ?_;intro vs X wq K;exact yp (j:=x.i) (b:=aL s x.i) u9 rfl rfl rfl (va om) ⟨Below.refl _ _,Left.of rfl⟩
 · refine qh ?_;intro vs X wq K;exact vb (j:=x.t.nd) fJ oH rfl rfl rfl om ⟨Below.refl _ _,Left.of rfl⟩):P:=h
theorem af0 {P:Prop} (h:P:=by
 replace E:=E.step1 Ea ak.head;refine zq ?_;refine qc rfl (zv ?_);refine za rfl (jc rfl rfl (yr om) (zu ?_));refine yy 5 (.int .i64 ((x.i+1:Nat):Int)) rfl (rfl) ?_;exact yc ({ x with i:=x.i+1,dh:=true,t:={ x.t with tr:=true } }) (by show Z-(x.i+1)<Z-x.i;omega) ⟨rfl,rfl,rfl,rfl,rfl,rfl,trivial⟩ ⟨M8.step E wh,(by exact Ba),hkeep,hu2⟩):P:=h
theorem af2 {P:Prop} (h:P:=by
 replace E:=E.step1 Ea ak.head;refine zq ?_;refine qc rfl (zv ?_);refine za rfl (jc rfl rfl (yr om) (zu ?_));refine yy 5 (.int .i64 ((x.i+1:Nat):Int)) rfl (rfl) ?_;exact yc ({ x with i:=x.i+1,dh:=true,t:={ x.t with d:=x.t.d.set x.t.nd (aL s x.i),nd:=x.t.nd+1 } }) (by show Z-(x.i+1)<Z-x.i;omega) ⟨rfl,rfl,rfl,rfl,rfl,rfl,trivial⟩ ⟨M8.step E wh,(by exact Ba),hkeep,hu2⟩):P:=h
theorem af3 {P:Prop} (h:P:=by
 have h6:aL s x.i=48:=by
  rcases Nat.decEq (aL s x.i) 48 with h7 | h7
  · rw[bne_iff_ne.2 om] at h6;cases h6
  · exact h7
 rw[if_neg (fun h=>h h6)] at hst;rw[hst] at hkeep hu2;refine zq ?_;refine qc rfl (zv ?_);refine za rfl (jc rfl rfl (yr om) (zu ?_));refine yy 5 (.int .i64 ((x.i+1:Nat):Int)) rfl (rfl) ?_;exact yc ({ x with i:=x.i+1,dh:=true,t:={ x.t with tr:=x.t.tr } }) (by show Z-(x.i+1)<Z-x.i;omega) ⟨rfl,rfl,rfl,rfl,rfl,rfl,trivial⟩ ⟨M8.step E wh,(by exact Ba),hkeep,hu2⟩):P:=h
attribute [local irreducible] OW RS CW EW
theorem af4 {s:ByteArray} {a:Jd} (h1:aL s a.i≠46) (h2:¬(aL s a.i=48∧a.t.nd=0)) (h3:a.t.nd<800):kk s a= { a with i:=a.i+1,dh:=true,t:={ a.t with d:=a.t.d.set a.t.nd (aL s a.i),nd:=a.t.nd+1 } }:=by
 unfold kk;rw[if_neg h1,if_neg h2,if_pos h3]
theorem TH {s:ByteArray} {a:Jd} (h1:aL s a.i≠46) (h2:¬(aL s a.i=48∧a.t.nd=0)) (h3:¬a.t.nd<800):kk s a= { a with i:=a.i+1,dh:=true,t:={ a.t with tr:=if aL s a.i≠48 then true else a.t.tr } }:=by
 unfold kk;rw[if_neg h1,if_neg h2,if_neg h3]
theorem Yv:Gives 180 #[.int .u8 101] (.int .u8 101):=by
 exact adj
section
variable (w:World)
theorem Yw (ga:Nat) (s:ByteArray) (f:Nat) (neg:Bool) {p Z q:Nat} (hsg:dZ s f neg) (hs:Nm s f p Z q) (hl:s.size<100000) (hB:aB w ga 229 (yg (vX false))) :
 Calls prog 222 #[.pointer (some ⟨ga,0,none⟩),.string s] w fun e w'=>e= .returned (.bool true)∧aB w' ga 229 (yg (fB s f neg))∧Ext (ak [some ga]) w w':=by
 have hfs:f<s.size:=hs.size;have hfd:=hs.first;have hl0:(vX false).d.length=800:=(Je false).len;refine zc func222 rfl ntmps222 rfl ?_;have Ba:=hB;have LW:=aF (ak [(some ga)]) w;have aj:=bD (ak [(some ga)]) w;have E:=aF (ak [(some ga)]) w;refine xd ?_;refine zp (qq sz4 rfl rfl Ba rfl rfl (xA hl0 (by decide:802<804)) (IX hl0 false) ?_);intro w1 Bx Ea;replace Ba:aB w1 ga 229 (yg (vX false)):=Bx;replace E:=E.step1 Ea ak.head;refine zr ?_;refine zp (qq sz4 rfl rfl Ba rfl rfl (xA hl0 (by decide:803<804)) (FP hl0 false) ?_);intro w2 Bx Ea;replace Ba:aB w2 ga 229 (yg (vX false)):=Bx;replace E:=E.step1 Ea ak.head;refine zr ?_;refine ve ?_;refine zq ?_;refine ze 19 (.bool false) rfl (by rw[decide_eq_false om]<;>rfl) (yu ?_);refine yzk ?_;refine zu ?_;replace LW:=LW.step E aj;replace E:=aF (ak [(some ga)]) w2;refine yw (ι:=Unit) (fun _=>[(0,.pointer (some ⟨ga,0,none⟩)),(1,.string s),(4,.bool false),(5,.int .i64 ((f:Nat):Int))]) (fun _ w'=>Ext (ak [(some ga)]) w2 w'∧aB w' ga 229 (yg (vX neg))∧(True)) ?_ ?_
 ·
  have M3:=aF (ak [(some ga)]) w2;have fA:=bD (ak [(some ga)]) w2;refine zr ?_;by_cases hneg:neg=true
  ·
   obtain ⟨hf1,h45⟩:=hsg.neg hneg;refine ze 23 (.bool false) rfl (by rw[h45];rfl) (zr ?_);refine ze 27 (.bool true) rfl (by rw[h45];rfl) (ye ?_);refine za rfl (jc (z:=1) rfl rfl kr (zr ?_));refine zp (qq sz4 rfl rfl Ba rfl rfl (xA hl0 (by decide:802<804)) (IX hl0 true) ?_);intro w5 Bx Ea;replace Ba:aB w5 ga 229 (yg (vX true)):=Bx;replace E:=E.step1 Ea ak.head;refine zu ?_;refine yy 5 (.int .i64 ((f:Nat):Int)) rfl ((by rw[hf1];rfl:(.int .i64 1:Value)=_)) ?_;replace Ba:aB w5 ga 229 (yg (vX neg)):=by rw[hneg];exact Ba
   exact TF
  ·
   have hf0:=hsg.pos hneg;rw[hf0] at hfd;refine ze 23 (.bool false) rfl (by rw[jw om]<;>rfl) (zr ?_);refine ze 27 (.bool false) rfl (by rw[jw om]<;>rfl) (zq ?_);refine yy 5 (.int .i64 ((f:Nat):Int)) rfl ((by rw[hf0];rfl:(.int .i64 0:Value)=_)) ?_;replace Ba:aB w2 ga 229 (yg (vX neg)):=by rw[Bool.eq_false_iff.2 hneg];exact Ba
   exact TF
 ·
  have d9:=(zg Ba.lt);clear Ba;rintro _ w4 ⟨M3,Ba,_⟩;replace E:=E.trans M3;replace LW:=LW.step E aj;replace E:=aF (ak [(some ga)]) w4;refine yq ?_;replace LW:=LW.step E aj;replace E:=aF (ak [(some ga)]) w4;refine yw (ι:=Jd) (fun x=>[(0,.pointer (some ⟨ga,0,none⟩)),(1,.string s),(4,.bool false),(5,.int .i64 (x.i:Int)),(6,.bool x.dot),(7,.bool x.dh)]) (fun x w'=>Ext (ak [(some ga)]) w4 w'∧aB w' ga 229 (yg x.t)∧(x=stA s f neg)) ?_ ?_
  ·
   have M6:=aF (ak [(some ga)]) w4;have SG:=bD (ak [(some ga)]) w4;refine aQ ?_;replace M6:=M6.step E SG;replace E:=aF (ak [(some ga)]) w4;refine jd (ι:=Jd) (fun x=>[(0,.pointer (some ⟨ga,0,none⟩)),(1,.string s),(4,.bool false),(5,.int .i64 (x.i:Int)),(6,.bool x.dot),(7,.bool x.dh)]) (fun x w'=>Ext (ak [(some ga)]) w4 w'∧aB w' ga 229 (yg x.t)∧(Yg s f p Z q x∧qm (Md s) (kk s) x=stA s f neg)) (fun x=>Z-x.i) (⟨f,false,false,vX neg⟩) ⟨rfl,rfl,rfl,rfl,rfl,rfl,trivial⟩ ⟨Ext.refl _ _,(by exact Ba),qkx neg hs,rfl⟩ ?_;have d9:=(zg Ba.lt);clear Ba;rintro x w9 ⟨M8,Ba,⟨hI,hu⟩⟩;have wh:GR (ak [(some ga)]) (ak [(some ga)]) w4:=(ak.grow ak.none_ (fun k e=>Or.inl (ak.head k e)));replace E:=E.trans M8;replace M6:=M6.step E SG;replace E:=aF (ak [(some ga)]) w9;have hlx:=hI.dec.len;have hnx:=hI.dec.hn;have hsE:=hs.hE;have hiE:=hI.iE;have hfi:=hI.fi;have hpp:=hI.hp;refine zv ?_;refine ve ?_;refine zq ?_;refine zj rfl (fun h1=>?_) (fun h1=>?_)
   ·
    have h1:x.i<s.size:=by have h1:=of_decide_eq_true h1;omega
    refine zy ?_;refine zix ?_;by_cases hE2:x.i<Z
    ·
     have hdone:=Cb hs hI hE2;have hkeep:=(qkz hs hI hdone).1;have hu2:=hu;rw[qx hdone] at hu2;have hc:=hs.at_ hfi hE2;have hb:=FV s x.i;refine ye ?_;refine ze 40 (.bool false) rfl (by rw[jw om]<;>rfl) (zv ?_);refine zix ?_;refine ye ?_;by_cases gP:aL s x.i=46
     ·
      have hstep:kk s x= { x with i:=x.i+1,dot:=true,t:={ x.t with dp:=(x.t.nd:Int) } }:=by unfold kk;rw[if_pos gP]
      have F6:x.dot=false:=by
       rcases hc with ⟨_,h3⟩ | ⟨h3,_⟩
       · omega
       · cases h4:x.dot with
         | false=>rfl
         | true=>have:=hI.dt h4;omega
      rw[hstep] at hkeep hu2;refine ze 45 (.bool true) rfl (by rw[gP];rfl) (zr ?_);refine ze 50 (.bool false) rfl (by rw[F6]<;>rfl) (go ?_);refine Cq ?_;intro dI Bx Ea;replace Ba:aB dI ga 229 (yg { x.t with dp:=(x.t.nd:Int) }):=Bx;replace E:=E.step1 Ea ak.head;refine zq ?_;refine qc rfl (ji ?_);refine yy 5 (.int .i64 ((x.i+1:Nat):Int)) rfl (rfl) ?_;exact yc ({ x with i:=x.i+1,dot:=true,t:={ x.t with dp:=(x.t.nd:Int) } }) (by show Z-(x.i+1)<Z-x.i;omega) ⟨rfl,rfl,rfl,rfl,rfl,rfl,trivial⟩ ⟨M8.step E wh,(by exact Ba),hkeep,hu2⟩
     ·
      have hc:48≤aL s x.i∧aL s x.i≤57:=om;refine ze 45 (.bool false) rfl (by rw[jw om]<;>rfl) (zv ?_);refine zix ?_;refine zu ?_;refine zd 63 (.bool true) rfl (by rw[decide_eq_true om]<;>rfl) (mY ?_);refine zv ?_;refine ze 58 (.bool true) rfl (by rw[decide_eq_true om]<;>rfl) (yq ?_);refine zix ?_;refine zu ?_;refine zz 73 rfl (fun h3=>?_) (fun h3=>?_)
      ·
       have h3:aL s x.i=48:=by have h3:=eq_of_beq h3;omega
       refine zq ?_;refine bV rfl (ya underlying3 rfl rfl Ba (wZ hlx (x.t.nd) rfl) (ye ?_));refine zj rfl (fun h4=>?_) (fun h4=>?_)
       ·
        have h4:x.t.nd=0:=by have h4:=eq_of_beq h4;omega
        have hstep:kk s x= { x with i:=x.i+1,dh:=true,t:={ x.t with dp:=x.t.dp-1 } }:=by unfold kk;rw[if_neg gP,if_pos ⟨h3,h4⟩]
        rw[hstep] at hkeep hu2;refine zv ?_;refine za rfl (ya underlying3 rfl rfl Ba (wm hlx x.t.dp rfl) (yt ?_));refine zu ?_;refine zp (qq G9 rfl rfl Ba rfl rfl (xA hlx (by decide:801<804)) (qkk hlx (x.t.dp-1)) ?_);intro dS Bx Ea;replace Ba:aB dS ga 229 (yg { x.t with dp:=x.t.dp-1 }):=Bx;replace E:=E.step1 Ea ak.head;refine ye ?_;refine qc rfl (ji ?_);refine yy 5 (.int .i64 ((x.i+1:Nat):Int)) rfl (rfl) ?_;exact yc ({ x with i:=x.i+1,dh:=true,t:={ x.t with dp:=x.t.dp-1 } }) (by show Z-(x.i+1)<Z-x.i;omega) ⟨rfl,rfl,rfl,rfl,rfl,rfl,trivial⟩ ⟨M8.step E wh,(by exact Ba),hkeep,hu2⟩
       ·
        have hnz:¬(aL s x.i=48∧x.t.nd=0):=fun h=>absurd h4 (by rw[h.2];decide);refine yu ?_;refine za rfl (ya underlying3 rfl rfl Ba (wZ hlx (x.t.nd) rfl) (zq ?_));refine zj rfl (fun h5=>?_) (fun h5=>?_)
        ·
         have h5:x.t.nd<800:=by have h5:=of_decide_eq_true h5;omega
         have hst:=af4 gP hnz h5;have aoj:(x.t.d.set x.t.nd (aL s x.i)).length=800:=by rw[List.length_set];exact hlx
         have qH:({ x.t with d:=x.t.d.set x.t.nd (aL s x.i) }:Dec).d.length=800:=aoj;rw[hst] at hkeep hu2;refine aQ ?_;have OY:∀q9,(ak (km [])) q9→q9<(World.drew w9).heap.size→(ak [(some ga)]) q9:=fun k h _=>(ak.none_) k h;refine Oa mixed (Oc 11 rfl ?_);refine xS (ak [(some ga)]) (ak.grow ak.none_ (zg Ba.lt)) [] [] (xq [Fx.of (.pointer (some ⟨ga,0,none⟩)),
          Fx.of (.pointer (some ⟨ga,0,none⟩)),
          Fx.of (.pointer (some ⟨ga,0,none⟩)),
          Fx.of (.pointer (some ⟨ga,800,none⟩)),
          Fx.of (.int .i64 (x.t.nd:Int)),
          Fx.of (.string s),
          Fx.of (.int .i64 (x.i:Int)),
          Fx.of (.int .u8 ((aL s x.i:Nat):Int)),
          Fx.of (.pointer (some ⟨ga,0,none⟩)),
          Fx.of (.pointer (some ⟨ga,0,none⟩)),
          Fx.of (.pointer (some ⟨ga,x.t.nd,none⟩))]) rfl trivial (fun _ h=>by cases h) ?_ ?_
         · exact aej
         intro vs eB LE AO AL AF AA;have fC:=Ba;replace Ba:=Ba.drew.av LE ah.nil;replace E:=E.drew.trans (LE.mono OY);obtain ⟨_,e7,k7⟩:=AL.2.2.2.2.2.2.2.1;obtain ⟨_,e10,k10⟩:=AL.2.2.2.2.2.2.2.2.2.2.1;refine Cr ?_;clear AL AF AA LE AO OY e7 e10 k7 k10 fC;refine ZP (xR kr (fun _ _ d_ _ _ h=>by cases d_<;>exact h) (ygk ?_));intro fK Bx Ea;replace Ba:aB fK ga 229 (yg { x.t with d:=x.t.d.set x.t.nd (aL s x.i) }):=Bx;replace E:=E.step1 Ea ak.head;refine Ct ?_;intro dL Bx Ea;replace Ba:aB dL ga 229 (yg { x.t with d:=x.t.d.set x.t.nd (aL s x.i),nd:=x.t.nd+1 }):=Bx;exact af2
        ·
         have h5:¬x.t.nd<800:=by have h5:=of_decide_eq_false h5;omega
         have hst:=TH gP hnz h5;refine ye ?_;refine zix ?_;refine zq ?_;refine zj rfl (fun h6=>?_) (fun h6=>?_)
         ·
          have h6:aL s x.i≠48:=fun e=>absurd h6 (by rw[e];decide);rw[if_pos h6] at hst;rw[hst] at hkeep hu2;refine qaz ?_;intro fM Bx Ea;replace Ba:aB fM ga 229 (yg { x.t with tr:=true }):=Bx;exact af0
         ·
          exact af3
      ·
       have hnz:¬(aL s x.i=48∧x.t.nd=0):=fun h=>absurd h3 (by rw[h.1];decide);refine Ed ?_;refine za rfl (ya underlying3 rfl rfl Ba (wZ hlx (x.t.nd) rfl) (zq ?_));refine zj rfl (fun h5=>?_) (fun h5=>?_)
       ·
        have h5:x.t.nd<800:=by have h5:=of_decide_eq_true h5;omega
        have hst:=af4 gP hnz h5;have aoj:(x.t.d.set x.t.nd (aL s x.i)).length=800:=by rw[List.length_set];exact hlx
        have qH:({ x.t with d:=x.t.d.set x.t.nd (aL s x.i) }:Dec).d.length=800:=aoj;rw[hst] at hkeep hu2;refine aQ ?_;have OY:∀q9,(ak (km [])) q9→q9<(World.drew w9).heap.size→(ak [(some ga)]) q9:=fun k h _=>(ak.none_) k h;refine Oa mixed (Oc 11 rfl ?_);refine xS (ak [(some ga)]) (ak.grow ak.none_ (zg Ba.lt)) [] [] (xq [Fx.of (.pointer (some ⟨ga,0,none⟩)),
         Fx.of (.pointer (some ⟨ga,0,none⟩)),
         Fx.of (.pointer (some ⟨ga,0,none⟩)),
         Fx.of (.pointer (some ⟨ga,800,none⟩)),
         Fx.of (.int .i64 (x.t.nd:Int)),
         Fx.of (.string s),
         Fx.of (.int .i64 (x.i:Int)),
         Fx.of (.int .u8 ((aL s x.i:Nat):Int)),
         Fx.of (.pointer (some ⟨ga,0,none⟩)),
         Fx.of (.pointer (some ⟨ga,0,none⟩)),
         Fx.of (.pointer (some ⟨ga,x.t.nd,none⟩))]) rfl trivial (fun _ h=>by cases h) ?_ ?_
        · exact aej
        intro vs w16 LE AO AL AF AA;have fC:=Ba;replace Ba:=Ba.drew.av LE ah.nil;replace E:=E.drew.trans (LE.mono OY);obtain ⟨_,e7,k7⟩:=AL.2.2.2.2.2.2.2.1;obtain ⟨_,e10,k10⟩:=AL.2.2.2.2.2.2.2.2.2.2.1;refine Cr ?_;clear AL AF AA LE AO OY e7 e10 k7 k10 fC;refine ZP (xR kr (fun _ _ d_ _ _ h=>by cases d_<;>exact h) (ygk ?_));intro nS Bx Ea;replace Ba:aB nS ga 229 (yg { x.t with d:=x.t.d.set x.t.nd (aL s x.i) }):=Bx;replace E:=E.step1 Ea ak.head;refine Ct ?_;intro fF Bx Ea;replace Ba:aB fF ga 229 (yg { x.t with d:=x.t.d.set x.t.nd (aL s x.i),nd:=x.t.nd+1 }):=Bx;exact af2
       ·
        have h5:¬x.t.nd<800:=by have h5:=of_decide_eq_false h5;omega
        have hst:=TH gP hnz h5;refine ye ?_;refine zix ?_;refine zq ?_;refine zj rfl (fun h6=>?_) (fun h6=>?_)
        ·
         have h6:aL s x.i≠48:=fun e=>absurd h6 (by rw[e];decide);rw[if_pos h6] at hst;rw[hst] at hkeep hu2;refine qaz ?_;intro nT Bx Ea;replace Ba:aB nT ga 229 (yg { x.t with tr:=true }):=Bx;exact af0
        ·
         exact af3
    ·
     have e:x.i=Z:=om;have hb:aL s x.i=101:=by rw[e];exact (hs.exp om).1
     have hdone:Md s x=true:=by
      unfold Md;rw[Bool.or_eq_true];right
      rw[hb];rfl
     rw[yv hdone] at hu;refine ye ?_;refine ze 40 (.bool false) rfl (by rw[hb];rfl) (zv ?_);refine zix ?_;refine ye ?_;refine ze 45 (.bool false) rfl (by rw[hb];rfl) (zv ?_);refine zix ?_;refine zu ?_;refine zd 63 (.bool true) rfl (by rw[hb];rfl) (mY ?_);refine zv ?_;refine ze 58 (.bool false) rfl (by rw[hb];rfl) (zv ?_);refine qc rfl (zq ?_);exact TG
   ·
    have h1:¬x.i<s.size:=by have h1:=of_decide_eq_false h1;omega
    have hdone:Md s x=true:=by
     unfold Md;rw[decide_eq_true om];rfl
    rw[yv hdone] at hu;refine ye ?_;exact TG
  ·
   have d9:=(zg Ba.lt);clear Ba;rintro x w7 ⟨M6,Ba,hx⟩;replace E:=E.trans M6;replace LW:=LW.step E aj;replace E:=aF (ak [(some ga)]) w7;obtain ⟨hR,SK⟩:=mI neg hs;rw[←hx] at hR SK;have hfp:=hs.fp;have hpE:=hs.pE;have hsE:=hs.hE;have hdig:x.dh=true:=hR.dg om;have hlx:=hR.dec.len;have hnx:=hR.dec.hn;have hpp:=hR.hp;have hti:=hR.iE;refine zr ?_;refine ze 118 (.bool false) rfl (by rw[hdig];rfl) (zy ?_);replace LW:=LW.step E aj;replace E:=aF (ak [(some ga)]) w7;refine yw (ι:=Int) (fun d2=>[(0,.pointer (some ⟨ga,0,none⟩)),(1,.string s),(4,.bool false),(5,.int .i64 (x.i:Int))]) (fun d2 w'=>Ext (ak [(some ga)]) w7 w'∧aB w' ga 229 (yg { x.t with dp:=d2 })∧(d2=(if x.dot then x.t.dp else (x.t.nd:Int)))) ?_ ?_
   ·
    have Vd:=aF (ak [(some ga)]) w7;have Ml:=bD (ak [(some ga)]) w7;by_cases hdd:x.dot=true
    ·
     refine ze 120 (.bool false) rfl (by rw[hdd];rfl) (zu ?_);replace Ba:aB w7 ga 229 (yg { x.t with dp:=x.t.dp }):=Ba;exact yk x.t.dp ⟨rfl,rfl,rfl,rfl,trivial⟩ ⟨Vd.step E Ml,(by exact Ba),by rw[hdd,if_pos rfl]⟩
    ·
     refine ze 120 (.bool true) rfl (by rw[Bool.eq_false_iff.2 hdd];rfl) (zt ?_);refine Cq ?_;intro Fb Bx Ea;replace Ba:aB Fb ga 229 (yg { x.t with dp:=(x.t.nd:Int) }):=Bx;replace E:=E.step1 Ea ak.head;refine aQ ?_;exact yk (x.t.nd:Int) ⟨rfl,rfl,rfl,rfl,trivial⟩ ⟨Vd.step E Ml,(by exact Ba),by rw[if_neg hdd]⟩
   ·
    have d9:=(zg Ba.lt);clear Ba;rintro d2 Aj ⟨Vd,Ba,hd2⟩;replace E:=E.trans Vd;replace LW:=LW.step E aj;replace E:=aF (ak [(some ga)]) Aj;have hb2:-100000≤d2∧d2≤100000:=by rw[hd2];split<;>omega
    have hl2:({ x.t with dp:=d2 }:Dec).d.length=800:=hlx;have hP0:fB s f neg= { x.t with dp:=d2+nW s Z }:=by unfold fB;rw[←hx,SK,hd2]
    by_cases he:Z<s.size
    ·
     obtain ⟨hx1,hx2,hx3,hx4⟩:=hs.exp he;have hb:aL s x.i=101:=by rw[SK];exact hx1
     refine zsk ?_;refine zd 132 (.bool true) rfl (by rw[decide_eq_true om]<;>rfl) (mY ?_);refine zd 135 (.int .u8 101) rfl (by rw[hb];rfl) (bV rfl (zb OB rfl ((Yv _).mono ?_)));rintro e wU ⟨rfl,hb⟩;refine ⟨_,rfl,?_⟩;have Ec:=Ext.of_below hb No;replace Ba:=Ba.av Ec ah.nil;replace E:=E.trans Ec.no;refine yu ?_;refine yo ?_;refine yu ?_;refine ve ?_;refine zq ?_;refine ze 144 (.bool false) rfl (by rw[decide_eq_false om]<;>rfl) (gf ?_);refine za rfl (yp (j:=x.i+1) (b:=aL s (x.i+1)) u9 rfl rfl rfl (va om) ?_);rw[←SK] at hx2;refine zu ?_;replace LW:=LW.step E aj;replace E:=aF (ak [(some ga)]) wU;refine yw (ι:=Nat×Int) (fun (k,g)=>[(0,.pointer (some ⟨ga,0,none⟩)),(1,.string s),(4,.bool false),(5,.int .i64 ((k:Nat):Int)),(8,.int .i64 g)]) (fun (k,g) w'=>Ext (ak [(some ga)]) wU w'∧aB w' ga 229 (yg { x.t with dp:=d2 })∧(k=q∧g=(if aL s (x.i+1)=45 then -1 else 1))) ?_ ?_
     ·
      have M24:=aF (ak [(some ga)]) wU;have ap0:=bD (ak [(some ga)]) wU;refine zr ?_;by_cases c43:aL s (x.i+1)=43
      ·
       refine ze 148 (.bool true) rfl (by rw[c43];rfl) (zq ?_);refine yo ?_;refine zq ?_;exact yk (x.i+2,1) ⟨rfl,rfl,rfl,rfl,rfl,trivial⟩ ⟨M24.step E ap0,(by exact Ba),om,by rw[if_neg om]⟩
      ·
       refine ze 148 (.bool false) rfl (by rw[jw om]<;>rfl) (zr ?_);by_cases c45:aL s (x.i+1)=45
       ·
        refine ze 152 (.bool true) rfl (by rw[c45];rfl) (ye ?_);refine yo ?_;refine zr ?_;exact yk (x.i+2,-1) ⟨rfl,rfl,rfl,rfl,rfl,trivial⟩ ⟨M24.step E ap0,(by exact Ba),om,by rw[if_pos c45]⟩
       ·
        refine ze 152 (.bool false) rfl (by rw[jw om]<;>rfl) (zq ?_);exact yk (x.i+1,1) ⟨rfl,rfl,rfl,rfl,rfl,trivial⟩ ⟨M24.step E ap0,(by exact Ba),om,by rw[if_neg c45]⟩
     ·
      have d9:=(zg Ba.lt);clear Ba;rintro ⟨k,g⟩ Ve ⟨M24,Ba,⟨hk,hg⟩⟩;replace E:=E.trans M24;replace LW:=LW.step E aj;replace E:=aF (ak [(some ga)]) Ve;subst hk;have hdq:=hx4 k (Nat.le_refl _) hx3;refine zsk ?_;refine zd 160 (.bool false) rfl (by rw[decide_eq_false om]<;>rfl) (Cn ?_);refine zq ?_;refine zd 166 (.bool false) rfl (by rw[decide_eq_false om]<;>rfl) (Cn ?_);refine ye ?_;refine ze 171 (.bool false) rfl (by rw[decide_eq_false om]<;>rfl) (qo ?_);replace LW:=LW.step E aj;replace E:=aF (ak [(some ga)]) Ve;refine yw (ι:=Sj) (fun y=>[(0,.pointer (some ⟨ga,0,none⟩)),(1,.string s),(4,.bool false),(5,.int .i64 (y.i:Int)),(8,.int .i64 g),(9,.int .i64 (y.e:Int))]) (fun y w'=>Ext (ak [(some ga)]) Ve w'∧aB w' ga 229 (yg { x.t with dp:=d2 })∧(y=Yf s k)) ?_ ?_
      ·
       have M26:=aF (ak [(some ga)]) Ve;have ap1:=bD (ak [(some ga)]) Ve;refine aQ ?_;replace M26:=M26.step E ap1;replace E:=aF (ak [(some ga)]) Ve;refine jd (ι:=Sj) (fun y=>[(0,.pointer (some ⟨ga,0,none⟩)),(1,.string s),(4,.bool false),(5,.int .i64 (y.i:Int)),(8,.int .i64 g),(9,.int .i64 (y.e:Int))]) (fun y w'=>Ext (ak [(some ga)]) Ve w'∧aB w' ga 229 (yg { x.t with dp:=d2 })∧(ExI s k y∧qm (og s) (Nn s) y=Yf s k)) (fun y=>s.size-y.i) (⟨k,0⟩) ⟨rfl,rfl,rfl,rfl,rfl,rfl,trivial⟩ ⟨Ext.refl _ _,(by exact Ba),⟨⟨Nat.le_refl _,Nat.le_of_lt hx3⟩,by show 0<100000;decide⟩,rfl⟩ ?_;have d9:=(zg Ba.lt);clear Ba;rintro y w29 ⟨M28,Ba,⟨hI,hu⟩⟩;have aE4:GR (ak [(some ga)]) (ak [(some ga)]) Ve:=(ak.grow ak.none_ (fun k e=>Or.inl (ak.head k e)));replace E:=E.trans M28;replace M26:=M26.step E ap1;replace E:=aF (ak [(some ga)]) w29;have hhi:=hI.hi;have hhe:=hI.he;refine zsk ?_;refine zz 176 rfl (fun h7=>?_) (fun h7=>?_)
       ·
        have h7:y.i<s.size:=by have h7:=of_decide_eq_true h7;omega
        have hc:=hx4 y.i hhi.1 h7;have hdone:og s y=false:=by unfold og;rw[decide_eq_false om,qxq hc];rfl
        have hkeep:=(mH hI hdone).1;rw[qx hdone] at hu;refine Co ?_;refine zu ?_;refine zd 181 (.bool true) rfl (by rw[decide_eq_true om]<;>rfl) (Co ?_);refine zq ?_;refine zd 187 (.bool true) rfl (by rw[decide_eq_true om]<;>rfl) (Dt ?_);refine za rfl (yp (j:=y.i) (b:=aL s (y.i)) u9 rfl rfl rfl (va om) (zq ?_));refine ze 199 (.bool false) rfl (by rw[jw om]<;>rfl) (qo ?_);refine zj rfl (fun h8=>?_) (fun h8=>?_)
        ·
         have h8:y.e<10000:=by have h8:=of_decide_eq_true h8;omega
         have hstep:Nn s y= ⟨y.i+1,y.e*10+(aL s y.i-48)⟩:=by unfold Nn;rw[if_pos h8]
         rw[hstep] at hkeep hu;refine zu ?_;refine yxv ?_;refine zu ?_;refine za rfl (yp (j:=y.i) (b:=aL s (y.i)) u9 rfl rfl rfl (va om) (qax ?_));refine yt ?_;refine zsq ?_;refine yy 9 (.int .i64 ((y.e*10+(aL s y.i-48):Nat):Int)) rfl ((by congr 1;omega:(.int .i64 ((((y.e:Int)*10)+((aL s (y.i):Nat):Int))-48):Value)=_)) ?_;exact yc (⟨y.i+1,y.e*10+(aL s y.i-48)⟩) (by show s.size-(y.i+1)<s.size-y.i;omega) ⟨rfl,rfl,rfl,rfl,rfl,rfl,trivial⟩ ⟨M28.step E aE4,(by exact Ba),hkeep,hu⟩
        ·
         have h8:¬y.e<10000:=by have h8:=of_decide_eq_false h8;omega
         have hstep:Nn s y= ⟨y.i+1,y.e⟩:=by unfold Nn;rw[if_neg h8]
         rw[hstep] at hkeep hu;refine ji ?_;exact yc (⟨y.i+1,y.e⟩) (by show s.size-(y.i+1)<s.size-y.i;omega) ⟨rfl,rfl,rfl,rfl,rfl,rfl,trivial⟩ ⟨M28.step E aE4,(by exact Ba),hkeep,hu⟩
       ·
        have h7:¬y.i<s.size:=by have h7:=of_decide_eq_false h7;omega
        have hdone:og s y=true:=by unfold og;rw[decide_eq_true om];rfl
        rw[yv hdone] at hu;refine yI ?_;exact yk y ⟨rfl,rfl,rfl,rfl,rfl,rfl,trivial⟩ ⟨M26.step E ap1,(by exact Ba),hu⟩
      ·
       have d9:=(zg Ba.lt);clear Ba;rintro y w27 ⟨M26,Ba,hy⟩;replace E:=E.trans M26;replace LW:=LW.step E aj;replace E:=aF (ak [(some ga)]) w27;obtain ⟨hI,hdx⟩:=yjv (s:=s) (q:=k) om;rw[←hy] at hI hdx;have hxi:=Sk hx4 hI hdx;have hxe:=hI.he;have hX:IntKind.i64.wrap ((y.e:Int)*g)=nW s Z:=by
        have e9:nW s Z=(y.e:Int)*g:=by
         unfold nW;rw[if_neg om,←SK,hg,hy];exact adx
        have h12:=qgq hs;rw[←e9];exact yr om
       have h12:=qgq hs;refine ye ?_;refine za rfl (ya underlying3 rfl rfl Ba (wm hl2 d2 rfl) (zu ?_));refine za rfl (xn rfl rfl hX (yo ?_));refine zu ?_;refine zp (qq G9 rfl rfl Ba rfl rfl (xA hl2 (by decide:801<804)) (qkk hl2 (d2+nW s Z)) ?_);intro Mq Bx Ea;replace Ba:aB Mq ga 229 (yg { x.t with dp:=d2+nW s Z }):=Bx;replace E:=E.step1 Ea ak.head;refine zr ?_;refine ve ?_;refine zq ?_;refine ze 223 (.bool false) rfl (by rw[hxi];simp) (zy ?_);exact ⟨rfl,by rw[hP0];exact Ba,(LW.step E aj)⟩
    ·
     have hz:nW s Z=0:=by unfold nW;rw[if_pos om]
     refine zsk ?_;refine zd 132 (.bool false) rfl (by rw[decide_eq_false om]<;>rfl) (qA ?_);refine ve ?_;refine zq ?_;refine ze 223 (.bool false) rfl (by rw[show x.i=s.size from om];simp) (zy ?_);exact ⟨rfl,by rw[hP0,hz,Int.add_zero];exact Ba,(LW.step E aj)⟩
end
end Go.Proofs.YtmnmebdmpigddaaGreatDoor
namespace Go.Proofs.YtmnmebdmpigddaaGreatDoor
open Go.RowKit
attribute [local irreducible] OW RS CW EW
def aH1 (W:World) (A0:Option Addr) (xs0:List Nat) (v f:Int) (e:Ending) (w':World):Prop:=∃A c,e= .returned (.tuple #[.agg #[.bool (decide (v<0)),.slice A (bC v).length c],.int .i64 f])∧aY w' A (bC v)∧((∀q,A=some q→W.heap.size≤q.block)∨(A=A0∧bC v=xs0))∧Below W.heap.size W w'
section
variable (i j:Int) (A B:Option Addr) (c d:Nat) (w:World) (hi:i.natAbs<au^30) (hj:j.natAbs<au^30) (hx:aY w A (bC i)) (hy:aY w B (bC j))
include hi hj hx hy
end
end Go.Proofs.YtmnmebdmpigddaaGreatDoor
namespace Go.Proofs.YtmnmebdmpigddaaGreatDoor
open Go.RowKit
attribute [local irreducible] OW RS CW EW
def af5 (b:UInt8):Bool:=decide (48≤b.toNat)&&decide (b.toNat≤57)
def dv (b:UInt8):Nat:=b.toNat-48
def TN (r:List UInt8):Nat:=val 10 (r.reverse.map dv)
def aE9 (neg:Bool) (r:List UInt8):Int:=if r≠ []∧r.all af5=true∧TN r<au^30 then dA neg (TN r) else 0
def aEq (r:List UInt8):Int:=if r≠ []∧r.all af5=true then (if TN r<au^30 then 0 else 2) else 4
def aEz (bs:List UInt8):Bool:=decide (bs.head? =some 45)
def af6 (bs:List UInt8):List UInt8:=if bs.head? =some 45 then bs.tail else bs
def dvals (l:List UInt8):List Value:=l.map fun b=>.int .u8 ((b.toNat:Int)-48)
def aH2 (W:World) (v f:Int) (e:Ending) (w':World):Prop:=∃A c,e= .returned (.tuple #[.agg #[.bool (decide (v<0)),.slice A (bC v).length c],.int .i64 f])∧bE w' W.heap.size A c (bC v)∧Below W.heap.size W w'
section
variable (s:ByteArray) (r:List UInt8) (w:World)
end
section
variable (s:ByteArray) (w:World)
end
end Go.Proofs.YtmnmebdmpigddaaGreatDoor

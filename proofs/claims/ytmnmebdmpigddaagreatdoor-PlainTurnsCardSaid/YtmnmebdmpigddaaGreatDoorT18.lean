/- Texts of this claim. -/
import Derived.Test.YtmnmebdmpigddaaGreatDoorT17
set_option maxRecDepth 100000
set_option maxHeartbeats 20000000
namespace Go.Proofs.YtmnmebdmpigddaaGreatDoor
open Go.RowKit
theorem stpdq313 {P Q:Prop} (k:Q) (h:(Unit→Q)→P:=by
 intro zK;refine za rfl (ye Tryz.underlying3 rfl rfl Ba (dpAt hl t.dp rfl) ?_);exact zK ()):P:=h fun _=>k
theorem stpdq304 {P Q:Prop} (k:Q) (h:(Unit→Q)→P:=by
 intro zK;refine za rfl (ye Tryz.underlying3 rfl rfl Ba (yiz hl (t.nd) rfl) ?_);exact zK ()):P:=h fun _=>k
theorem stpdq286 {P Q:Prop} (k:Q) (h:(Unit→Q)→P:=by
 intro zK;refine za rfl (jp u87 u5 rfl (wrap_u64 (by omega)) ?_);exact zK ()):P:=h fun _=>k
theorem stpdq275 {P Q:Prop} (k:Q) (h:(Unit→Q)→P:=by
 intro zK;refine zdx ?_;refine zn ?_;refine zq 6 (.int .u64 ((M*10:Nat):Int)) rfl (rfl) ?_;exact zK ()):P:=h fun _=>k
theorem ykq {P Q:Prop} (k:Q) (h:(Unit→Q)→P:=by
 intro zK;refine zk (qr sz5 rfl rfl Ba rfl rfl (in_ hlx (by omega)) (set_d hlx (by omega)) ?_);exact zK ()):P:=h fun _=>k
theorem stpdq212 {P Q:Prop} (k:Q) (h:(Unit→Q)→P:=by
 intro zK;refine kl ?_;refine za rfl (jp u5 u87 rfl (yak (by omega)) (zm ?_));exact zK ()):P:=h fun _=>k
attribute [local irreducible] OW RS CW EW
theorem mask_n (k:Nat) (hk:k≤60):IntKind.u64.wrap (((1:Nat):Int)*2^(min ((k:Nat):Int).toNat IntKind.u64.bits))=((2^k:Nat):Int):=by
 rw[zmx 1 k (by omega),Nat.one_mul];have h1:2^k≤2^60:=Nat.pow_le_pow_right (by decide) hk;have h2:(2:Nat)^60=1152921504606846976:=by decide
 rw[Nat.mod_eq_of_lt (by omega)]
theorem mask_and (n k:Nat) (hn:n<18446744073709551616) (hk:k≤60):IntKind.u64.wrap (BitVec.ofInt IntKind.u64.bits (n:Int) &&& BitVec.ofInt IntKind.u64.bits ((2^k-1:Nat):Int)).toNat=((n%2^k:Nat):Int):=by
 have h1:2^k≤2^60:=Nat.pow_le_pow_right (by decide) hk;have h2:(2:Nat)^60=1152921504606846976:=by decide
 rw[ks hn (by omega),Nat.and_two_pow_sub_one_eq_mod]
theorem shr_q (n k Q:Nat) (hk:k≤60) (h:Q=n/2^k):((n:Nat):Int).fdiv (2^(min ((k:Nat):Int).toNat IntKind.u64.bits))=((Q:Nat):Int):=by
 rw[h];exact xj n k (by omega)
theorem mask_q (n k M:Nat) (hn:n<18446744073709551616) (hk:k≤60) (h:M=n%2^k):IntKind.u64.wrap (BitVec.ofInt IntKind.u64.bits (n:Int) &&& BitVec.ofInt IntKind.u64.bits ((2^k-1:Nat):Int)).toNat=((M:Nat):Int):=by
 rw[h];exact mask_and n k hn hk
theorem zero_b (m:Nat):(((m:Nat):Int)==0)=decide (m=0):=by
 exact dqz153
theorem rsA_off {t:Dec} {k:Nat} {s:RsS} (h1:s.n/2^k=0) (h2:s.r<t.nd):ybv t k s=false:=decide_eq_false (fun h=>h.elim (fun h=>h h1) (fun h=>absurd h (Nat.not_le.2 h2)))
theorem rsBI_r {t:Dec} {k:Nat} {s:RsS} (h:RsBI t k s):s.r≤t.nd+k+1:=by
 rcases h.far with h1 | h1
 · omega
 · have h2:10^(s.r-t.nd)<10^(k+1):=by
    exact dqz151
   have:=(Nat.pow_lt_pow_iff_right (a:=10) (by decide)).1 h2;omega
section
variable (w:World)
theorem right_any (ga k:Nat) (t:Dec) (hk:1≤k∧k≤60) (ht:DecI t) (h0:0<t.nd) (hdp:-20000000≤t.dp∧t.dp≤20000000) (hB:Blk w ga 229 (yj t)) :
 Calls Tryz.prog 271 #[.pointer (some ⟨ga,0,none⟩),.int .u64 ((k:Nat):Int)] w fun e w'=>e= .returned (.tuple #[])∧Blk w' ga 229 (yj (js t k))∧Ext (Mut [some ga]) w w':=by
 have hl:=ht.len;have hnd:=ht.hn;have hp2:0<2^k:=Nat.two_pow_pos k;refine zc Tryz.func271 rfl Tryz.ntmps271 rfl ?_;have Ba:=hB;have LW:=erx (Mut [(some ga)]) w;have XLW:=grx (Mut [(some ga)]) w;have E:=erx (Mut [(some ga)]) w;refine og ?_;replace LW:=LW.step E XLW;replace E:=erx (Mut [(some ga)]) w;refine yh (ι:=RsS) (fun s=>[(0,.pointer (some ⟨ga,0,none⟩)),(1,.int .u64 ((k:Nat):Int)),(4,.int .i64 (s.r:Int)),(5,.int .i64 0),(6,.int .u64 (s.n:Int))]) (fun s w'=>Ext (Mut [(some ga)]) w w'∧Blk w' ga 229 (yj t)∧(s=rsB t k)) ?_ ?_
 ·
  have M1:=erx (Mut [(some ga)]) w;have XM1:=grx (Mut [(some ga)]) w;refine stp ?_;replace M1:=M1.step E XM1;replace E:=erx (Mut [(some ga)]) w;refine yw (ι:=RsS) (fun s=>[(0,.pointer (some ⟨ga,0,none⟩)),(1,.int .u64 ((k:Nat):Int)),(4,.int .i64 (s.r:Int)),(5,.int .i64 0),(6,.int .u64 (s.n:Int))]) (fun s w'=>Ext (Mut [(some ga)]) w w'∧Blk w' ga 229 (yj t)∧(RsAI t k s∧qk (ybv t k) (vdk t) s=rsA t k)) (fun s=>t.nd-s.r) (⟨0,0⟩) ⟨rfl,rfl,rfl,rfl,rfl,trivial⟩ ⟨Ext.refl _ _,(by exact Ba),rsA_start t k,rfl⟩ ?_;have LTa:=(ze Ba.lt);clear Ba;rintro s w4 ⟨M3,Ba,⟨hI,hu⟩⟩;have XM3:Gro (Mut [(some ga)]) (Mut [(some ga)]) w:=(Mut.grow Mut.none_ (fun k e=>Or.inl (Mut.head k e)));replace E:=E.trans M3;replace M1:=M1.step E XM1;replace E:=erx (Mut [(some ga)]) w4;have hn64:=two64 hI.hn hk.2;obtain ⟨Q,hQ⟩:∃Q,Q=s.n/2^k:=⟨_,rfl⟩;have hr:=hI.hr;refine zu ?_;refine za rfl (jh rfl rfl (by omega) (shr_q s.n k Q (by omega) hQ) (zn ?_));refine zd 15 (.bool (decide (Q=0))) rfl (by rw[zero_b]<;>rfl) (zg rfl (fun h1=>?_) (fun h1=>?_))
  ·
   have h1:Q=0:=of_decide_eq_true h1;rw[hQ] at h1;refine yu ?_;refine stpdq304 ?_;refine zn ?_;refine zg rfl (fun h2=>?_) (fun h2=>?_)
   ·
    have h2:t.nd≤s.r:=by have h2:=of_decide_eq_true h2;omega
    have hn0:=hI.pos (by omega);have hdone:ybv t k s=true:=decide_eq_true (.inr h2);rw[yp hdone] at hu;have hJ:=rsBJ_start (k:=k) ht h0;rw[←hu] at hJ;refine zp ?_;refine zd 25 (.bool false) rfl (beq_0 (by omega)) (zu ?_);replace M1:=M1.step E XM1;replace E:=erx (Mut [(some ga)]) w4;refine yw (ι:=RsS) (fun s=>[(0,.pointer (some ⟨ga,0,none⟩)),(1,.int .u64 ((k:Nat):Int)),(4,.int .i64 (s.r:Int)),(5,.int .i64 0),(6,.int .u64 (s.n:Int))]) (fun s w'=>Ext (Mut [(some ga)]) w4 w'∧Blk w' ga 229 (yj t)∧(RsBJ t k s∧qk (ztz k) qhq s=rsB t k)) (fun s=>2^k-s.n) s ⟨rfl,rfl,rfl,rfl,rfl,trivial⟩ ⟨Ext.refl _ _,(by exact Ba),hJ,by rw[hu];rfl⟩ ?_;have LTa:=(ze Ba.lt);clear Ba;rintro s w6 ⟨M5,Ba,⟨hJ,hu⟩⟩;have XM5:Gro (Mut [(some ga)]) (Mut [(some ga)]) w4:=(Mut.grow Mut.none_ (fun k e=>Or.inl (Mut.head k e)));replace E:=E.trans M5;replace M1:=M1.step E XM1;replace E:=erx (Mut [(some ga)]) w6;have hn64:=two64 hJ.1.hn hk.2;have hnp:=hJ.1.pos;have hrr:=hJ.1.far;obtain ⟨Q,hQ⟩:∃Q,Q=s.n/2^k:=⟨_,rfl⟩;refine zu ?_;refine za rfl (jh rfl rfl (by omega) (shr_q s.n k Q (by omega) hQ) (zn ?_));refine zd 32 (.bool (decide (Q=0))) rfl (by rw[zero_b]<;>rfl) (zg rfl (fun h3=>?_) (fun h3=>?_))
    ·
     have h3:Q=0:=of_decide_eq_true h3;rw[hQ] at h3;have hdone:ztz k s=false:=decide_eq_false (fun h=>h h3);obtain ⟨hk1,hk2⟩:=rsBJ_keeps hJ hdone;have hk3:=two60 hk2 hk.2;have hr3:=rsBI_r hk1.1;have hs:qhq s= ⟨s.r+1,s.n*10⟩:=rfl;rw[qp hdone] at hu;rw[hs] at hk1 hu hr3;have hr3:s.r+1≤900:=by have hr3:s.r+1≤t.nd+k+1:=hr3;omega
     refine zl ?_;refine zdx ?_;refine yjk ?_;refine zq 6 (.int .u64 ((s.n*10:Nat):Int)) rfl (rfl) (zq 4 (.int .i64 ((s.r+1:Nat):Int)) rfl (rfl) ?_);exact zo (⟨s.r+1,s.n*10⟩) (by show 2^k-s.n*10<2^k-s.n;omega) ⟨rfl,rfl,rfl,rfl,rfl,trivial⟩ ⟨M5.step E XM5,(by exact Ba),hk1,hu⟩
    ·
     have h3:¬Q=0:=of_decide_eq_false h3;rw[hQ] at h3;have hdone:ztz k s=true:=decide_eq_true h3;rw[yp hdone] at hu;refine zp ?_;refine qa rfl (zn ?_);exact zt s ⟨rfl,rfl,rfl,rfl,rfl,trivial⟩ ⟨M1.step E XM1,(by exact Ba),hu⟩
   ·
    have h2:s.r<t.nd:=by have h2:=of_decide_eq_false h2;omega
    have hdone:=rsA_off h1 h2;obtain ⟨hk1,hk2,_⟩:=rsA_keeps ht hI hdone;have hk3:=two60 hk2 hk.2;have hg:=ht.dig s.r h2;have hs:vdk t s= ⟨s.r+1,s.n*10+(dg t.d s.r-48)⟩:=rfl;rw[qp hdone] at hu;rw[hs] at hk1 hu;refine yi ?_;refine za rfl (vc (j:=s.r) u227 sz5 rfl rfl (by omega) (by omega) (za rfl (ye u5 rfl rfl Ba (dAt hl (dg t.d (s.r)) (s.r) rfl (by omega)) (stpdq286 ?_))));refine zu ?_;refine zdx ?_;refine stp ?_;refine kl ?_;refine zjq ?_;refine zwq ?_;refine zq 6 (.int .u64 ((s.n*10+(dg t.d s.r-48):Nat):Int)) rfl ((by congr 1;omega:(.int .u64 ((((s.n:Int)*10)+((dg t.d (s.r):Nat):Int))-48):Value)=_)) (zq 4 (.int .i64 ((s.r+1:Nat):Int)) rfl (rfl) ?_);exact zo (⟨s.r+1,s.n*10+(dg t.d s.r-48)⟩) (by show t.nd-(s.r+1)<t.nd-s.r;omega) ⟨rfl,rfl,rfl,rfl,rfl,trivial⟩ ⟨M3.step E XM3,(by exact Ba),hk1,hu⟩
  ·
   have h1:¬Q=0:=of_decide_eq_false h1;rw[hQ] at h1;have hdone:ybv t k s=true:=decide_eq_true (.inl h1);rw[yp hdone] at hu;have hdB:ztz k (rsA t k)=true:=by rw[←hu];exact decide_eq_true h1
   have e:s=rsB t k:=by unfold rsB;rw[yp hdB];exact hu
   refine zx ?_;exact zt s ⟨rfl,rfl,rfl,rfl,rfl,trivial⟩ ⟨M1.step E XM1,(by exact Ba),e⟩
 ·
  have LTa:=(ze Ba.lt);clear Ba;rintro s w2 ⟨M1,Ba,hs⟩;replace E:=E.trans M1;replace LW:=LW.step E XLW;replace E:=erx (Mut [(some ga)]) w2;obtain ⟨hJ,hdB⟩:=zxk k ht h0;have hBr:=rsB_r k ht h0;have hBn:=two64 hJ.1.hn hk.2;have hBp:=hJ.1.hr;rw[←hs] at hBr hBn hBp;refine zu ?_;refine stpdq313 ?_;refine stp ?_;refine yl ?_;refine yl ?_;refine zm ?_;refine zk (qr sz3 rfl rfl Ba rfl rfl (in_ hl (by decide:801<804)) (qrz hl (t.dp-((s.r:Int)-1))) ?_);intro w7 Bx Ea;replace Ba:Blk w7 ga 229 (yj { t with dp:=t.dp-((s.r:Int)-1) }):=Bx;replace E:=E.step1 Ea Mut.head;refine zu ?_;refine za rfl (gq rfl rfl (by omega) (mask_n k (by omega)) ?_);have hp60:=two60 (n:=2^k-1) (k:=k) (by omega) (by omega);refine zjq ?_;refine zx ?_;refine zd 8 (.int .u64 ((2^k-1:Nat):Int)) rfl (by congr 1;omega) ?_;replace LW:=LW.step E XLW;replace E:=erx (Mut [(some ga)]) w7;refine yh (ι:=RsC) (fun x=>[(0,.pointer (some ⟨ga,0,none⟩)),(1,.int .u64 ((k:Nat):Int)),(5,.int .i64 (x.w:Int)),(6,.int .u64 (x.n:Int)),(8,.int .u64 ((2^k-1:Nat):Int))]) (fun x w'=>Ext (Mut [(some ga)]) w7 w'∧Blk w' ga 229 (yj { t with d:=x.d,dp:=t.dp-((s.r:Int)-1) })∧(x=rsC t k)) ?_ ?_
  ·
   have M8:=erx (Mut [(some ga)]) w7;have XM8:=grx (Mut [(some ga)]) w7;refine stp ?_;replace M8:=M8.step E XM8;replace E:=erx (Mut [(some ga)]) w7;refine yw (ι:=RsC) (fun x=>[(0,.pointer (some ⟨ga,0,none⟩)),(1,.int .u64 ((k:Nat):Int)),(4,.int .i64 (x.r:Int)),(5,.int .i64 (x.w:Int)),(6,.int .u64 (x.n:Int)),(8,.int .u64 ((2^k-1:Nat):Int))]) (fun x w'=>Ext (Mut [(some ga)]) w7 w'∧Blk w' ga 229 (yj { t with d:=x.d,dp:=t.dp-((s.r:Int)-1) })∧(RsCI t k s.r x∧qk (yqk t) (vdq k) x=rsC t k)) (fun x=>t.nd-x.r) (⟨t.d,s.r,0,s.n⟩) ⟨rfl,rfl,rfl,rfl,rfl,rfl,trivial⟩ ⟨Ext.refl _ _,(by exact Ba),by rw[hs];exact rsC_start ht h0,by rw[hs];rfl⟩ ?_;have LTa:=(ze Ba.lt);clear Ba;rintro x w11 ⟨M10,Ba,⟨hI,hu⟩⟩;have XM10:Gro (Mut [(some ga)]) (Mut [(some ga)]) w7:=(Mut.grow Mut.none_ (fun k e=>Or.inl (Mut.head k e)));replace E:=E.trans M10;replace M8:=M8.step E XM8;replace E:=erx (Mut [(some ga)]) w11;have hlx:({ t with d:=x.d,dp:=t.dp-((s.r:Int)-1) }:Dec).d.length=800:=hI.len;have hxw:=hI.hw;have hxr:=hI.hr;have hn64:=two64 hI.hn hk.2;refine zp ?_;refine za rfl (ye Tryz.underlying3 rfl rfl Ba (yiz hlx (t.nd) rfl) (zn ?_));refine zg rfl (fun h1=>?_) (fun h1=>?_)
   ·
    have h1:x.r<t.nd:=by have h1:=of_decide_eq_true h1;omega
    have hdone:yqk t x=false:=decide_eq_false (by omega);have hkeep:=rsC_keeps ht hk.1 hBp hI hdone;have hg:=ht.dig x.r (by omega);rw[←hI.old x.r (by omega)] at hg;obtain ⟨Q,hQ⟩:∃Q,Q=x.n/2^k:=⟨_,rfl⟩;obtain ⟨M,hM⟩:∃M,M=x.n%2^k:=⟨_,rfl⟩;have hq9:=vhq hI.hn;rw[←hQ] at hq9;have hm60:=two60 (n:=M) (by rw[hM];exact Nat.mod_lt _ hp2) hk.2;have hst:vdq k x= ⟨x.d.set x.w (Q+48),x.r+1,x.w+1,M*10+(dg x.d x.r-48)⟩:=by rw[hQ,hM];rfl
    rw[qp hdone] at hu;rw[hst] at hkeep hu;refine zz ?_;refine za rfl (vc (j:=x.r) u227 sz5 rfl rfl (by omega) (by omega) (za rfl (ye u5 rfl rfl Ba (dAt hlx (dg x.d (x.r)) (x.r) rfl (by omega)) (stpdq286 ?_))));refine zp ?_;refine za rfl (jh rfl rfl (by omega) (shr_q x.n k Q (by omega) hQ) (zp ?_));refine za rfl (gf rfl rfl (mask_q x.n k M (by omega) hk.2 hM) (yi ?_));refine stpdq212 ?_;refine za rfl (vc (j:=x.w) u227 sz5 rfl rfl rfl (by omega) (zf 86 (.int .u8 ((Q+48:Nat):Int)) rfl (rfl) (ykq ?_)));intro w12 Bx Ea;replace Ba:Blk w12 ga 229 (yj { t with d:=x.d.set x.w (Q+48),dp:=t.dp-((s.r:Int)-1) }):=Bx;replace E:=E.step1 Ea Mut.head;refine zu ?_;refine yo ?_;refine zu ?_;refine zdx ?_;refine stp ?_;refine kl ?_;refine zjq ?_;refine zwq ?_;refine zq 6 (.int .u64 ((M*10+(dg x.d x.r-48):Nat):Int)) rfl ((by congr 1;omega:(.int .u64 (((((M:Nat):Int)*10)+((dg x.d (x.r):Nat):Int))-48):Value)=_)) (zq 4 (.int .i64 ((x.r+1:Nat):Int)) rfl (rfl) (zq 5 (.int .i64 ((x.w+1:Nat):Int)) rfl (rfl) ?_));exact zo (⟨x.d.set x.w (Q+48),x.r+1,x.w+1,M*10+(dg x.d x.r-48)⟩) (by show t.nd-(x.r+1)<t.nd-x.r;omega) ⟨rfl,rfl,rfl,rfl,rfl,rfl,trivial⟩ ⟨M10.step E XM10,(by exact Ba),hkeep,hu⟩
   ·
    have h1:t.nd≤x.r:=by have h1:=of_decide_eq_false h1;omega
    have hdone:yqk t x=true:=decide_eq_true h1;rw[yp hdone] at hu;refine zx ?_;exact zt x ⟨rfl,rfl,rfl,rfl,rfl,trivial⟩ ⟨M8.step E XM8,(by exact Ba),hu⟩
  ·
   have LTa:=(ze Ba.lt);clear Ba;rintro x w9 ⟨M8,Ba,hx⟩;replace E:=E.trans M8;replace LW:=LW.step E XLW;replace E:=erx (Mut [(some ga)]) w9;obtain ⟨hC,_⟩:=rsC_ends ht hk.1 h0;refine stp ?_;replace LW:=LW.step E XLW;replace E:=erx (Mut [(some ga)]) w9;refine yh (ι:=RsE) (fun y=>[(0,.pointer (some ⟨ga,0,none⟩)),(5,.int .i64 (y.w:Int))]) (fun y w'=>Ext (Mut [(some ga)]) w9 w'∧Blk w' ga 229 (yj { t with d:=y.d,dp:=t.dp-((s.r:Int)-1),tr:=y.tr })∧(y=rsE t k)) ?_ ?_
   ·
    have M13:=erx (Mut [(some ga)]) w9;have XM13:=grx (Mut [(some ga)]) w9;have hl9:({ t with d:=x.d,dp:=t.dp-((s.r:Int)-1) }:Dec).d.length=800:=by show x.d.length=800;rw[hx];exact hC.len
    refine stp ?_;replace M13:=M13.step E XM13;replace E:=erx (Mut [(some ga)]) w9;refine yw (ι:=RsE×Nat) (fun (y,j)=>[(0,.pointer (some ⟨ga,0,none⟩)),(1,.int .u64 ((k:Nat):Int)),(5,.int .i64 (y.w:Int)),(6,.int .u64 (y.n:Int)),(8,.int .u64 ((2^k-1:Nat):Int))]) (fun (y,j) w'=>Ext (Mut [(some ga)]) w9 w'∧Blk w' ga 229 (yj { t with d:=y.d,dp:=t.dp-((s.r:Int)-1),tr:=y.tr })∧(RsEI t k s.r y∧qk zdk (kf k) y=rsE t k∧(2^j∣y.n∧j≤k+1∧(j=k+1→y.n=0)))) (fun (y,j)=>k+1-j) (⟨x.d,x.w,x.n,t.tr⟩,0) ⟨rfl,rfl,rfl,rfl,rfl,trivial⟩ ⟨Ext.refl _ _,(by exact Ba),by rw[hx,hs];exact rsE_start ht hk.1 h0,by rw[hx];rfl,⟨Nat.one_dvd _,by omega,fun e=>absurd e (by omega)⟩⟩ ?_;have LTa:=(ze Ba.lt);clear Ba;rintro ⟨y,j⟩ w16 ⟨M15,Ba,⟨hI,hu,hj⟩⟩;have XM15:Gro (Mut [(some ga)]) (Mut [(some ga)]) w9:=(Mut.grow Mut.none_ (fun k e=>Or.inl (Mut.head k e)));replace E:=E.trans M15;replace M13:=M13.step E XM13;replace E:=erx (Mut [(some ga)]) w16;have hly:({ t with d:=y.d,dp:=t.dp-((s.r:Int)-1),tr:=y.tr }:Dec).d.length=800:=hI.len;have hyw:=hI.hw;have hn64:=two64 hI.hn hk.2;refine zp ?_;refine zg rfl (fun h1=>?_) (fun h1=>?_)
    ·
     have h1:0<y.n:=by have h1:=of_decide_eq_true h1;omega
     have hdone:zdk y=false:=decide_eq_false (by omega);have hkeep:=rsE_keeps hk.1 hI;obtain ⟨hj1,hj2⟩:=rsE_twos hj hdone;obtain ⟨Q,hQ⟩:∃Q,Q=y.n/2^k:=⟨_,rfl⟩;obtain ⟨M,hM⟩:∃M,M=y.n%2^k:=⟨_,rfl⟩;have hq9:=vhq hI.hn;rw[←hQ] at hq9;have hm60:=two60 (n:=M) (by rw[hM];exact Nat.mod_lt _ hp2) hk.2;rw[qp hdone] at hu;refine zp ?_;refine za rfl (jh rfl rfl (by omega) (shr_q y.n k Q (by omega) hQ) (zp ?_));refine za rfl (gf rfl rfl (mask_q y.n k M (by omega) hk.2 hM) (zz ?_));refine zg rfl (fun h2=>?_) (fun h2=>?_)
     ·
      have h2:y.w<800:=by have h2:=of_decide_eq_true h2;omega
      have hst:kf k y= ⟨y.d.set y.w (Q+48),y.w+1,M*10,y.tr⟩:=by rw[hQ,hM];unfold kf;rw[if_pos h2]
      rw[hst] at hkeep hu hj2;refine zu ?_;refine stpdq212 ?_;refine za rfl (vc (j:=y.w) u227 sz5 rfl rfl rfl (by omega) (zf 111 (.int .u8 ((Q+48:Nat):Int)) rfl (rfl) (zk (qr sz5 rfl rfl Ba rfl rfl (in_ hly (by omega)) (set_d hly (by omega)) ?_))));intro w17 Bx Ea;replace Ba:Blk w17 ga 229 (yj { t with d:=y.d.set y.w (Q+48),dp:=t.dp-((s.r:Int)-1),tr:=y.tr }):=Bx;replace E:=E.step1 Ea Mut.head;refine zx ?_;refine yo ?_;refine zu ?_;refine stpdq275 ?_;refine zq 5 (.int .i64 ((y.w+1:Nat):Int)) rfl (rfl) ?_;exact zo (⟨y.d.set y.w (Q+48),y.w+1,M*10,y.tr⟩,j+1) (by show k+1-(j+1)<k+1-j;omega) ⟨rfl,rfl,rfl,rfl,rfl,trivial⟩ ⟨M15.step E XM15,(by exact Ba),hkeep,hu,hj2⟩
     ·
      have h2:¬y.w<800:=by have h2:=of_decide_eq_false h2;omega
      refine zl ?_;refine zg rfl (fun h3=>?_) (fun h3=>?_)
      ·
       have h3:0<Q:=by have h3:=of_decide_eq_true h3;omega
       have hst:kf k y= ⟨y.d,y.w,M*10,true⟩:=by rw[hQ] at h3;rw[hM];unfold kf;rw[if_neg h2,if_pos h3]
       rw[hst] at hkeep hu hj2;refine zx ?_;refine zk (qr sz4 rfl rfl Ba rfl rfl (in_ hly (by decide:803<804)) (set_tr hly true) ?_);intro w18 Bx Ea;replace Ba:Blk w18 ga 229 (yj { t with d:=y.d,dp:=t.dp-((s.r:Int)-1),tr:=true }):=Bx;replace E:=E.step1 Ea Mut.head;refine zx ?_;refine stpdq275 ?_;exact zo (⟨y.d,y.w,M*10,true⟩,j+1) (by show k+1-(j+1)<k+1-j;omega) ⟨rfl,rfl,rfl,rfl,rfl,trivial⟩ ⟨M15.step E XM15,(by exact Ba),hkeep,hu,hj2⟩
      ·
       have h3:¬0<Q:=by have h3:=of_decide_eq_false h3;omega
       have hst:kf k y= ⟨y.d,y.w,M*10,y.tr⟩:=by rw[hQ] at h3;rw[hM];unfold kf;rw[if_neg h2,if_neg h3]
       rw[hst] at hkeep hu hj2;refine zx ?_;refine stpdq275 ?_;exact zo (⟨y.d,y.w,M*10,y.tr⟩,j+1) (by show k+1-(j+1)<k+1-j;omega) ⟨rfl,rfl,rfl,rfl,rfl,trivial⟩ ⟨M15.step E XM15,(by exact Ba),hkeep,hu,hj2⟩
    ·
     have h1:y.n=0:=by have h1:=of_decide_eq_false h1;omega
     have hdone:zdk y=true:=decide_eq_true h1;rw[yp hdone] at hu;refine zx ?_;exact zt y ⟨rfl,rfl,trivial⟩ ⟨M13.step E XM13,(by exact Ba),hu⟩
   ·
    have LTa:=(ze Ba.lt);clear Ba;rintro y w14 ⟨M13,Ba,hy⟩;replace E:=E.trans M13;replace LW:=LW.step E XLW;replace E:=erx (Mut [(some ga)]) w14;obtain ⟨hE,_⟩:=rsE_ends ht hk.1 h0;rw[←hy] at hE;have hly:({ t with d:=y.d,dp:=t.dp-((s.r:Int)-1),tr:=y.tr }:Dec).d.length=800:=hE.len;have hly2:({ t with d:=y.d,nd:=y.w,dp:=t.dp-((s.r:Int)-1),tr:=y.tr }:Dec).d.length=800:=hE.len;refine zl ?_;refine zk (qr sz3 rfl rfl Ba rfl rfl (in_ hly (by decide:800<804)) (set_nd hly y.w) ?_);intro w19 Bx Ea;replace Ba:Blk w19 ga 229 (yj { t with d:=y.d,nd:=y.w,dp:=t.dp-((s.r:Int)-1),tr:=y.tr }):=Bx;replace E:=E.step1 Ea Mut.head;refine zx ?_;refine za rfl (zb en269 rfl ((trim_any _ ga _ hly2 hE.hw Ba).mono ?_));rintro e w20 ⟨rfl,hB,hE⟩;refine ⟨_,rfl,?_⟩;replace Ba:=hB;clear hB;replace E:=E.step1 hE Mut.head;clear hE;refine stp ?_;refine yeq rfl ?_;exact ⟨rfl,by unfold js;rw[←hy,←hs];exact Ba,(LW.step E XLW)⟩
end
end Go.Proofs.YtmnmebdmpigddaaGreatDoor
namespace Go.Proofs.YtmnmebdmpigddaaGreatDoor
open Go.RowKit
theorem stpdq315 {P Q:Prop} (k:Q) (h:(Unit→Q)→P:=by
 intro zK;refine zx ?_;refine stpdq212 ?_;refine za rfl (vc (j:=x.w-1) u227 sz5 rfl rfl (by omega) (by omega) ?_);exact zK ()):P:=h fun _=>k
theorem stpdq230 {P Q:Prop} (k:Q) (h:(Unit→Q)→P:=by
 intro zK;refine zp ?_;refine zq 6 (.int .i64 ((x.w-1:Nat):Int)) rfl ((by congr 1;omega:(.int .i64 ((x.w:Int)-1):Value)=_)) ?_;exact zK ()):P:=h fun _=>k
theorem qfx {P Q:Prop} (k:Q) (h:(Unit→Q)→P:=by
 intro zK;refine zx ?_;refine zk (qr sz4 rfl rfl Ba rfl rfl (in_ hlx (by decide:803<804)) (set_tr hlx true) ?_);exact zK ()):P:=h fun _=>k
theorem stpdq193 {P Q:Prop} (k:Q) (h:(Unit→Q)→P:=by
 intro zK;refine zz ?_;refine yl ?_;refine zm ?_;refine zq 6 (.int .i64 ((x.w-1:Nat):Int)) rfl ((by congr 1;omega:(.int .i64 ((x.w:Int)-1):Value)=_)) (zq 5 (.int .i64 (((x.r-1:Nat):Int)-1)) rfl ((by congr 1;omega:(.int .i64 (((x.r:Int)-1)-1):Value)=_)) ?_);exact zK ()):P:=h fun _=>k
theorem dqz172 {P:Prop} (h:P:=by
 exact zt () ⟨rfl,rfl,trivial⟩ ⟨M19.step E XM19,(by exact Ba),trivial⟩):P:=h
theorem dqz171 {P:Prop} (h:P:=by
 exact zt () ⟨rfl,rfl,rfl,trivial⟩ ⟨M4.step E XM4,(by exact Ba),trivial⟩):P:=h
theorem dqz168 {P:Prop} (h:P:=by
 rcases Nat.decEq R 0 with h | h
 · rw[bne_iff_ne.2 (by omega)] at h3;cases h3
 · exact h):P:=h
attribute [local irreducible] OW RS CW EW
theorem lcB_size {k:Nat} (h:Shl k):(lcB k).size=(lcS k).length:=by
 rw[←(lc_row h).2.1,List.length_map];show (Go.Pinned.cheatRows.getD k (0,[])).2.toArray.size=_
 rw[List.size_toArray]
theorem lcB_at {k:Nat} (h:Shl k) (i:Nat) (hi:i<(lcS k).length):(lcS k)[i]? =some (bAt (lcB k) i):=by
 rw[←lcB_size h] at hi;rw[←qh hi,←(lc_row h).2.1,List.getElem?_map];show _=((Go.Pinned.cheatRows.getD k (0,[])).2.toArray[i]?).map _
 rw[List.getElem?_toArray]
theorem shl_k {c k C:Nat} (hc:c≤9) (hk:k≤60) (hC:C=c*2^k):IntKind.u64.wrap (((c:Nat):Int)*2^(min ((k:Nat):Int).toNat IntKind.u64.bits))=((C:Nat):Int):=by
 rw[hC,zmx c k (by omega)];have h1:2^k≤2^60:=Nat.pow_le_pow_right (by decide) hk;have h2:(2:Nat)^60=1152921504606846976:=by decide
 have h3:c*2^k≤9*2^k:=Nat.mul_le_mul_right _ hc;rw[Nat.mod_eq_of_lt (by omega)]
theorem quo10 (n D:Nat) (h:n<18446744073709551616) (hD:D=n/10):IntKind.u64.wrap (((n:Nat):Int).tdiv 10)=((D:Nat):Int):=by
 rw[hD,Int.tdiv_eq_ediv_of_nonneg (by omega)];exact wrap_u64 (by omega)
theorem put_in {d:List Nat} {w x:Nat} (h:w<800):zbq d w x=d.set w (x+48):=by unfold zbq;rw[if_pos h]
theorem vex {d:List Nat} {w x:Nat} (h:¬w<800):zbq d w x=d:=by unfold zbq;rw[if_neg h]
theorem tr_in {b:Bool} {w x:Nat} (h:w<800):lsTr b w x=b:=by unfold lsTr;rw[if_pos h]
theorem tr_out {b:Bool} {w x:Nat} (h:¬w<800) (hx:x≠0):lsTr b w x=true:=by unfold lsTr;rw[if_neg h,if_pos hx]
theorem tr_nil {b:Bool} {w x:Nat} (hx:x=0):lsTr b w x=b:=by
 unfold lsTr;split
 · rfl
 · rw[if_neg (fun h=>h hx)]
section
variable (w:World) {bp op cp bf of cf bl ol cl:Nat}
theorem left_any (ga k:Nat) (t:Dec) (hk:Shl k) (ht:DecI t) (h0:0<t.nd) (hdp:-20000000≤t.dp∧t.dp≤20000000) (hB:Blk w ga 229 (yj t)) (hT:Tabs bp op cp bf of cf bl ol cl w) (hg:TabsB bp bf bl ga) :
 Calls Tryz.prog 270 #[.pointer (some ⟨ga,0,none⟩),.int .u64 ((k:Nat):Int)] w fun e w'=>e= .returned (.tuple #[])∧Blk w' ga 229 (yj (vk t k))∧Ext (Mut [some ga]) w w':=by
 have hl:=ht.len;have hnd:=ht.hn;have hS:=shl_ok hk;have hk60:=hS.k1;have hk61:=(lc_row hk).2.2;have hd16:=hS.d1;obtain ⟨hdl,_⟩:=qnv ht h0 hk;obtain ⟨L,hL⟩:∃L,L=qe t k:=⟨_,rfl⟩;rw[←hL] at hdl;refine zc Tryz.func270 rfl Tryz.ntmps270 rfl ?_;have Ba:=hB;have HF:Per (Mut [(some ga)]) w (fun _=>True):=Per.true_;have LW:=erx (Mut [(some ga)]) w;have XLW:=grx (Mut [(some ga)]) w;have E:=erx (Mut [(some ga)]) w;obtain ⟨HF,LW,E⟩:=fra HF LW E XLW (Per.tabsB hT hg (fun q h=>h.elim (fun e=>Nat.le_of_eq (Option.some.inj e).symm) (fun e=>e.elim)));refine zm ?_;refine za rfl (vq u282 rfl rfl (HF.on E).here.2.cheat.head (stp ?_));refine za rfl (jy (j:=k) u282 sz281 rfl rfl rfl hk61 (stp ?_));refine za rfl (vq Tryz.underlying3 rfl rfl ((HF.on E).here.2.cheat.delta k hk) (zu ?_));replace HF:=HF.on E;replace LW:=LW.step E XLW;replace E:=erx (Mut [(some ga)]) w;refine yh (ι:=Unit) (fun _=>[(0,.pointer (some ⟨ga,0,none⟩)),(1,.int .u64 ((k:Nat):Int)),(4,.int .i64 ((lcD k:Nat):Int)),(30,.bool (jd (t.d.take t.nd) (lcS k)))]) (fun _ w'=>Ext (Mut [(some ga)]) w w'∧Blk w' ga 229 (yj t)∧(True)) ?_ ?_
 ·
  have M1:=erx (Mut [(some ga)]) w;have XM1:=grx (Mut [(some ga)]) w;have OY:∀q9,(Mut (xz [])) q9→q9<(World.drew w).heap.size→(Mut [(some ga)]) q9:=fun k h _=>(Mut.none_) k h;refine qm (Mut [(some ga)]) (Mut.grow Mut.none_ (ze Ba.lt)) [] [] (zcx [Fx.of (.pointer (some ⟨ga,0,none⟩)),
   Fx.of (.pointer (some ⟨ga,0,none⟩)),
   Fx.of (.pointer (some ⟨ga,0,none⟩)),
   Fx.of (.pointer (some ⟨ga,0,none⟩)),
   Fx.of (.pointer (some ⟨ga,0,none⟩)),
   Fx.of (.pointer (some ⟨ga,800,none⟩)),
   Fx.of (.int .i64 (t.nd:Int)),
   Fx.of (.slice (some ⟨ga,0,none⟩) t.nd 800),
   Fx.of (.slice (some ⟨bl,ol,none⟩) 61 cl),
   Fx.of (.int .u64 ((k:Nat):Int)),
   Fx.of (.pointer (some ⟨bl,ol+k*2,none⟩)),
   Fx.of (.pointer (some ⟨bl,ol+k*2+1,none⟩)),
   Fx.of (.string (lcB k)),
   Fx.of (.bool (jd (t.d.take t.nd) (lcS k)))]) mixed rfl trivial (fun _ h=>by cases h) ?_ ?_
  · refine ⟨arm,arm,arm,arm,arm,arm,?_,?_,?_,arm,?_,arm,?_,?_,trivial⟩
    · refine qq ?_;intro vs X wq K;have LE:=K.1;exact ye Tryz.underlying3 rfl rfl (Ba.drew.extN LE NotIn.nil) (yiz hl t.nd rfl) ⟨Below.refl _ _,Left.of rfl⟩
    · refine qq ?_;intro vs X wq K;exact ow_sliceA0 (h:=t.nd) u227 sz5 rfl rfl rfl rfl hnd ⟨Below.refl _ _,Left.of rfl⟩
    · intro vs X wq K;have LE:=K.1;exact vq u282 rfl rfl (HF.on (E.drew.trans (LE.mono OY))).here.2.cheat.head ⟨Below.refl _ _,Left.of rfl⟩
    · refine qq ?_;intro vs X wq K;exact jy (j:=k) u282 sz281 rfl rfl rfl hk61 ⟨Below.refl _ _,Left.of rfl⟩
    · refine qq ?_;intro vs X wq K;have LE:=K.1;exact vq u9 rfl rfl ((HF.on (E.drew.trans (LE.mono OY))).here.2.cheat.cut k hk) ⟨Below.refl _ _,Left.of rfl⟩
    · refine qq ?_;intro vs X wq K;have LE:=K.1;refine zb en277 rfl ((prefix_any _ ga t t.nd (lcB k) (lcS k) hl hnd (lcB_size hk) (lcB_at hk) (Ba.drew.extN LE NotIn.nil)).mono ?_);exact yix
  intro vs w3 LE AO AL AF AA;have LBa:=Ba;replace Ba:=Ba.drew.extN LE NotIn.nil;replace E:=E.drew.trans (LE.mono OY);obtain ⟨_,e13,k13⟩:=AL.2.2.2.2.2.2.2.2.2.2.2.2.2.1;refine ja (τ:=[(0,_),(1,_),(4,_),(30,.bool (jd (t.d.take t.nd) (lcS k)))]) ⟨rfl,rfl,rfl,congrArg some e13,trivial⟩ ?_;clear AL AF AA LE AO OY e13 k13 LBa;exact zt () ⟨rfl,rfl,rfl,rfl,trivial⟩ ⟨M1.step E XM1,(by exact Ba),trivial⟩
 ·
  have LTa:=(ze Ba.lt);clear Ba;rintro _ w2 ⟨M1,Ba,_⟩;replace E:=E.trans M1;replace LW:=LW.step E XLW;replace E:=erx (Mut [(some ga)]) w2;replace LW:=LW.step E XLW;replace E:=erx (Mut [(some ga)]) w2;refine yh (ι:=Unit) (fun _=>[(0,.pointer (some ⟨ga,0,none⟩)),(1,.int .u64 ((k:Nat):Int)),(4,.int .i64 ((L:Nat):Int))]) (fun _ w'=>Ext (Mut [(some ga)]) w2 w'∧Blk w' ga 229 (yj t)∧(True)) ?_ ?_
  ·
   have M4:=erx (Mut [(some ga)]) w2;have XM4:=grx (Mut [(some ga)]) w2;refine zg rfl (fun hb=>?_) (fun hb=>?_)
   ·
    have e:L=lcD k-1:=by rw[hL];unfold qe;rw[if_pos hb]
    refine zm ?_;refine yl ?_;refine zm ?_;refine zq 4 (.int .i64 ((L:Nat):Int)) rfl ((by congr 1;omega:(.int .i64 (((lcD k:Nat):Int)-1):Value)=_)) ?_;exact dqz171
   ·
    have e:L=lcD k:=by rw[hL];unfold qe;rw[if_neg (by rw[hb];decide)]
    refine stp ?_;refine zq 4 (.int .i64 ((L:Nat):Int)) rfl ((by rw[e]:(.int .i64 ((lcD k:Nat):Int):Value)=_)) ?_;exact dqz171
  ·
   have LTa:=(ze Ba.lt);clear Ba;rintro _ w5 ⟨M4,Ba,_⟩;replace E:=E.trans M4;replace LW:=LW.step E XLW;replace E:=erx (Mut [(some ga)]) w5;refine zu ?_;refine stpdq304 ?_;refine yi ?_;refine stpdq304 ?_;refine stp ?_;refine yo ?_;refine vp ?_;refine yl ?_;refine zn ?_;replace LW:=LW.step E XLW;replace E:=erx (Mut [(some ga)]) w5;refine yh (ι:=LsA) (fun x=>[(0,.pointer (some ⟨ga,0,none⟩)),(4,.int .i64 ((L:Nat):Int)),(6,.int .i64 (x.w:Int)),(7,.int .u64 (x.n:Int))]) (fun x w'=>Ext (Mut [(some ga)]) w5 w'∧Blk w' ga 229 (yj { t with d:=x.d,tr:=x.tr })∧(x=lsA t k)) ?_ ?_
   ·
    have M6:=erx (Mut [(some ga)]) w5;have XM6:=grx (Mut [(some ga)]) w5;refine stp ?_;replace M6:=M6.step E XM6;replace E:=erx (Mut [(some ga)]) w5;refine yw (ι:=LsA) (fun x=>[(0,.pointer (some ⟨ga,0,none⟩)),(1,.int .u64 ((k:Nat):Int)),(4,.int .i64 ((L:Nat):Int)),(5,.int .i64 ((x.r:Int)-1)),(6,.int .i64 (x.w:Int)),(7,.int .u64 (x.n:Int))]) (fun x w'=>Ext (Mut [(some ga)]) w5 w'∧Blk w' ga 229 (yj { t with d:=x.d,tr:=x.tr })∧(LsAI t k x∧qk ytz (vfv k) x=lsA t k)) (fun x=>x.r) (⟨t.d,t.nd,t.nd+L,0,t.tr⟩) ⟨rfl,rfl,rfl,rfl,rfl,rfl,trivial⟩ ⟨Ext.refl _ _,(by exact Ba),by rw[hL];exact lsA_start ht,by rw[hL];rfl⟩ ?_;have LTa:=(ze Ba.lt);clear Ba;rintro x w9 ⟨M8,Ba,⟨hI,hu⟩⟩;have XM8:Gro (Mut [(some ga)]) (Mut [(some ga)]) w5:=(Mut.grow Mut.none_ (fun k e=>Or.inl (Mut.head k e)));replace E:=E.trans M8;replace M6:=M6.step E XM6;replace E:=erx (Mut [(some ga)]) w9;have hlx:({ t with d:=x.d,tr:=x.tr }:Dec).d.length=800:=hI.len;have hxw:=hI.hw;rw[←hL] at hxw;have hxr:=hI.hr;refine zp ?_;refine zg rfl (fun h1=>?_) (fun h1=>?_)
    ·
     have h1:0<x.r:=by have h1:=of_decide_eq_true h1;omega
     have hdone:ytz x=false:=decide_eq_false (by omega);obtain ⟨hkeep,_,hN⟩:=lsA_keeps ht hI hdone;have hN64:=two64 hN hk60.2;have hdg:=ht.dig (x.r-1) (by omega);rw[←hI.old (x.r-1) (by omega)] at hdg;obtain ⟨C,hC⟩:∃C,C=(dg x.d (x.r-1)-48)*2^k:=⟨_,rfl⟩;obtain ⟨V,hV⟩:∃V,V=lsN k x:=⟨_,rfl⟩;have hVC:V=x.n+C:=by rw[hV,hC];rfl
     rw[←hV] at hN64;obtain ⟨D,hD⟩:∃D,D=V/10:=⟨_,rfl⟩;obtain ⟨R,hR⟩:∃R,R=V%10:=⟨_,rfl⟩;have hst:vfv k x= ⟨zbq x.d (x.w-1) R,x.r-1,x.w-1,D,lsTr x.tr (x.w-1) R⟩:=by rw[hR,hD,hV];rfl
     rw[qp hdone] at hu;rw[hst] at hkeep hu;refine yu ?_;refine za rfl (vc (j:=x.r-1) u227 sz5 rfl rfl (by omega) (by omega) (za rfl (ye u5 rfl rfl Ba (dAt hlx (dg x.d (x.r-1)) (x.r-1) rfl (by omega)) (stpdq286 ?_))));refine zjq ?_;refine stp ?_;refine zf 57 (.int .u64 ((dg x.d (x.r-1)-48:Nat):Int)) rfl (by congr 1;omega) (za rfl (gq rfl rfl (by omega) (shl_k (by omega) hk60.2 hC) (kl ?_)));refine zl ?_;refine zf 61 (.int .u64 ((V:Nat):Int)) rfl (by congr 1;omega) (za rfl (qax rfl rfl (by decide) (quo10 V D (by omega) hD) (zp ?_)));refine zdx ?_;refine zjq ?_;refine zl ?_;refine yl ?_;refine zz ?_;refine zd 9 (.int .u64 ((R:Nat):Int)) rfl (by congr 1;omega) (zg rfl (fun h2=>?_) (fun h2=>?_))
     ·
      have h2:x.w-1<800:=by have h2:=of_decide_eq_true h2;omega
      rw[put_in h2,tr_in h2] at hu hkeep;refine stpdq315 ?_;refine zf 75 (.int .u8 ((R+48:Nat):Int)) rfl (rfl) (ykq ?_);intro w10 Bx Ea;replace Ba:Blk w10 ga 229 (yj { t with d:=x.d.set (x.w-1) (R+48),tr:=x.tr }):=Bx;replace E:=E.step1 Ea Mut.head;refine stpdq193 ?_;exact zo (⟨x.d.set (x.w-1) (R+48),x.r-1,x.w-1,D,x.tr⟩) (by show x.r-1<x.r;omega) ⟨rfl,rfl,rfl,rfl,rfl,rfl,trivial⟩ ⟨M8.step E XM8,(by exact Ba),hkeep,hu⟩
     ·
      have h2:¬x.w-1<800:=by have h2:=of_decide_eq_false h2;omega
      refine zl ?_;refine zg rfl (fun h3=>?_) (fun h3=>?_)
      ·
       have h3:R≠0:=fun e=>absurd h3 (by rw[e];decide);rw[vex h2,tr_out h2 h3] at hu hkeep;refine qfx ?_;intro w11 Bx Ea;replace Ba:Blk w11 ga 229 (yj { t with d:=x.d,tr:=true }):=Bx;replace E:=E.step1 Ea Mut.head;refine stpdq193 ?_;exact zo (⟨x.d,x.r-1,x.w-1,D,true⟩) (by show x.r-1<x.r;omega) ⟨rfl,rfl,rfl,rfl,rfl,rfl,trivial⟩ ⟨M8.step E XM8,(by exact Ba),hkeep,hu⟩
      ·
       have h3:R=0:=by
        exact dqz168
       rw[vex h2,tr_nil h3] at hu hkeep;refine stpdq193 ?_;exact zo (⟨x.d,x.r-1,x.w-1,D,x.tr⟩) (by show x.r-1<x.r;omega) ⟨rfl,rfl,rfl,rfl,rfl,rfl,trivial⟩ ⟨M8.step E XM8,(by exact Ba),hkeep,hu⟩
    ·
     have h1:x.r=0:=by have h1:=of_decide_eq_false h1;omega
     have hdone:ytz x=true:=decide_eq_true h1;rw[yp hdone] at hu;refine zx ?_;exact zt x ⟨rfl,rfl,rfl,rfl,trivial⟩ ⟨M6.step E XM6,(by exact Ba),hu⟩
   ·
    have LTa:=(ze Ba.lt);clear Ba;rintro x w7 ⟨M6,Ba,hx⟩;replace E:=E.trans M6;replace LW:=LW.step E XLW;replace E:=erx (Mut [(some ga)]) w7;refine stp ?_;replace LW:=LW.step E XLW;replace E:=erx (Mut [(some ga)]) w7;refine yh (ι:=LsA) (fun x=>[(0,.pointer (some ⟨ga,0,none⟩)),(4,.int .i64 ((L:Nat):Int))]) (fun x w'=>Ext (Mut [(some ga)]) w7 w'∧Blk w' ga 229 (yj { t with d:=x.d,tr:=x.tr })∧(x=lsB t k)) ?_ ?_
    ·
     have M12:=erx (Mut [(some ga)]) w7;have XM12:=grx (Mut [(some ga)]) w7;have hS2:=lsB_start ht h0 hk;refine stp ?_;replace M12:=M12.step E XM12;replace E:=erx (Mut [(some ga)]) w7;refine yw (ι:=LsA) (fun x=>[(0,.pointer (some ⟨ga,0,none⟩)),(4,.int .i64 ((L:Nat):Int)),(6,.int .i64 (x.w:Int)),(7,.int .u64 (x.n:Int))]) (fun x w'=>Ext (Mut [(some ga)]) w7 w'∧Blk w' ga 229 (yj { t with d:=x.d,tr:=x.tr })∧(LsBI t k x∧qk ytx vfk x=lsB t k)) (fun x=>x.w) x ⟨rfl,rfl,rfl,rfl,trivial⟩ ⟨Ext.refl _ _,(by exact Ba),by rw[hx];exact hS2,by rw[hx];rfl⟩ ?_;have LTa:=(ze Ba.lt);clear Ba;rintro x w15 ⟨M14,Ba,⟨hI,hu⟩⟩;have XM14:Gro (Mut [(some ga)]) (Mut [(some ga)]) w7:=(Mut.grow Mut.none_ (fun k e=>Or.inl (Mut.head k e)));replace E:=E.trans M14;replace M12:=M12.step E XM12;replace E:=erx (Mut [(some ga)]) w15;have hlx:({ t with d:=x.d,tr:=x.tr }:Dec).d.length=800:=hI.len;have hn60:=two60 hI.small hk60.2;refine zp ?_;refine zg rfl (fun h1=>?_) (fun h1=>?_)
     ·
      have h1:0<x.n:=by have h1:=of_decide_eq_true h1;omega
      have hdone:ytx x=false:=decide_eq_false (by omega);obtain ⟨hkeep,hw1,hw2⟩:=lsB_keeps ht hk h0 hI hdone;obtain ⟨D,hD⟩:∃D,D=x.n/10:=⟨_,rfl⟩;obtain ⟨R,hR⟩:∃R,R=x.n%10:=⟨_,rfl⟩;have hst:vfk x= ⟨zbq x.d (x.w-1) R,x.r,x.w-1,D,lsTr x.tr (x.w-1) R⟩:=by rw[hR,hD];rfl
      rw[qp hdone] at hu;rw[hst] at hkeep hu;refine zl ?_;refine za rfl (qax rfl rfl (by decide) (quo10 x.n D (by omega) hD) (zp ?_));refine zdx ?_;refine zjq ?_;refine zl ?_;refine yl ?_;refine zz ?_;refine zd 11 (.int .u64 ((R:Nat):Int)) rfl (by congr 1;omega) (zg rfl (fun h2=>?_) (fun h2=>?_))
      ·
       have h2:x.w-1<800:=by have h2:=of_decide_eq_true h2;omega
       rw[put_in h2,tr_in h2] at hu hkeep;refine stpdq315 ?_;refine zf 101 (.int .u8 ((R+48:Nat):Int)) rfl (rfl) (ykq ?_);intro w16 Bx Ea;replace Ba:Blk w16 ga 229 (yj { t with d:=x.d.set (x.w-1) (R+48),tr:=x.tr }):=Bx;replace E:=E.step1 Ea Mut.head;refine stpdq230 ?_;exact zo (⟨x.d.set (x.w-1) (R+48),x.r,x.w-1,D,x.tr⟩) (by show x.w-1<x.w;omega) ⟨rfl,rfl,rfl,rfl,trivial⟩ ⟨M14.step E XM14,(by exact Ba),hkeep,hu⟩
      ·
       have h2:¬x.w-1<800:=by have h2:=of_decide_eq_false h2;omega
       refine zl ?_;refine zg rfl (fun h3=>?_) (fun h3=>?_)
       ·
        have h3:R≠0:=fun e=>absurd h3 (by rw[e];decide);rw[vex h2,tr_out h2 h3] at hu hkeep;refine qfx ?_;intro w17 Bx Ea;replace Ba:Blk w17 ga 229 (yj { t with d:=x.d,tr:=true }):=Bx;replace E:=E.step1 Ea Mut.head;refine stpdq230 ?_;exact zo (⟨x.d,x.r,x.w-1,D,true⟩) (by show x.w-1<x.w;omega) ⟨rfl,rfl,rfl,rfl,trivial⟩ ⟨M14.step E XM14,(by exact Ba),hkeep,hu⟩
       ·
        have h3:R=0:=by
         exact dqz168
        rw[vex h2,tr_nil h3] at hu hkeep;refine stpdq230 ?_;exact zo (⟨x.d,x.r,x.w-1,D,x.tr⟩) (by show x.w-1<x.w;omega) ⟨rfl,rfl,rfl,rfl,trivial⟩ ⟨M14.step E XM14,(by exact Ba),hkeep,hu⟩
     ·
      have h1:x.n=0:=by have h1:=of_decide_eq_false h1;omega
      have hdone:ytx x=true:=decide_eq_true h1;rw[yp hdone] at hu;refine zx ?_;exact zt x ⟨rfl,rfl,trivial⟩ ⟨M12.step E XM12,(by exact Ba),hu⟩
    ·
     have LTa:=(ze Ba.lt);clear Ba;rintro x w13 ⟨M12,Ba,hx⟩;replace E:=E.trans M12;replace LW:=LW.step E XLW;replace E:=erx (Mut [(some ga)]) w13;obtain ⟨hE,_⟩:=lsB_ends ht h0 hk;rw[←hx] at hE;have hlx:({ t with d:=x.d,tr:=x.tr }:Dec).d.length=800:=hE.len;refine zu ?_;refine za rfl (ye Tryz.underlying3 rfl rfl Ba (yiz hlx (t.nd) rfl) (stp ?_));refine yo ?_;refine zm ?_;refine zf 116 (.int .i64 ((t.nd+L:Nat):Int)) rfl (rfl) (zk (qr sz3 rfl rfl Ba rfl rfl (in_ hlx (by decide:800<804)) (set_nd hlx (t.nd+L)) ?_));intro w18 Bx Ea;replace Ba:Blk w18 ga 229 (yj { t with d:=x.d,nd:=t.nd+L,tr:=x.tr }):=Bx;replace E:=E.step1 Ea Mut.head;have hly:({ t with d:=x.d,nd:=t.nd+L,tr:=x.tr }:Dec).d.length=800:=hE.len;refine yi ?_;refine za rfl (ye Tryz.underlying3 rfl rfl Ba (yiz hly (t.nd+L) rfl) (zn ?_));replace LW:=LW.step E XLW;replace E:=erx (Mut [(some ga)]) w18;refine yh (ι:=Unit) (fun _=>[(0,.pointer (some ⟨ga,0,none⟩)),(4,.int .i64 ((L:Nat):Int))]) (fun _ w'=>Ext (Mut [(some ga)]) w18 w'∧Blk w' ga 229 (yj { t with d:=x.d,nd:=if 800≤t.nd+L then 800 else t.nd+L,tr:=x.tr })∧(True)) ?_ ?_
     ·
      have M19:=erx (Mut [(some ga)]) w18;have XM19:=grx (Mut [(some ga)]) w18;refine zg rfl (fun h1=>?_) (fun h1=>?_)
      ·
       have h1:800≤t.nd+L:=by have h1:=of_decide_eq_true h1;omega
       refine zx ?_;refine zk (qr sz3 rfl rfl Ba rfl rfl (in_ hly (by decide:800<804)) (set_nd hly 800) ?_);intro w21 Bx Ea;replace Ba:Blk w21 ga 229 (yj { t with d:=x.d,nd:=800,tr:=x.tr }):=Bx;replace E:=E.step1 Ea Mut.head;refine stp ?_;replace Ba:Blk w21 ga 229 (yj { t with d:=x.d,nd:=if 800≤t.nd+L then 800 else t.nd+L,tr:=x.tr }):=by rw[if_pos h1];exact Ba
       exact dqz172
      ·
       have h1:¬800≤t.nd+L:=by have h1:=of_decide_eq_false h1;omega
       refine stp ?_;replace Ba:Blk w18 ga 229 (yj { t with d:=x.d,nd:=if 800≤t.nd+L then 800 else t.nd+L,tr:=x.tr }):=by rw[if_neg h1];exact Ba
       exact dqz172
     ·
      have LTa:=(ze Ba.lt);clear Ba;rintro _ w20 ⟨M19,Ba,_⟩;replace E:=E.trans M19;replace LW:=LW.step E XLW;replace E:=erx (Mut [(some ga)]) w20;have hlz:({ t with d:=x.d,nd:=if 800≤t.nd+L then 800 else t.nd+L,tr:=x.tr }:Dec).d.length=800:=hE.len;have hlz2:({ t with d:=x.d,nd:=if 800≤t.nd+L then 800 else t.nd+L,dp:=t.dp+((L:Nat):Int),tr:=x.tr }:Dec).d.length=800:=hE.len;refine zu ?_;refine za rfl (ye Tryz.underlying3 rfl rfl Ba (dpAt hlz t.dp rfl) (stp ?_));refine yo ?_;refine zm ?_;refine zk (qr sz3 rfl rfl Ba rfl rfl (in_ hlz (by decide:801<804)) (qrz hlz (t.dp+((L:Nat):Int))) ?_);intro w22 Bx Ea;replace Ba:Blk w22 ga 229 (yj { t with d:=x.d,nd:=if 800≤t.nd+L then 800 else t.nd+L,dp:=t.dp+((L:Nat):Int),tr:=x.tr }):=Bx;replace E:=E.step1 Ea Mut.head;refine zx ?_;refine za rfl (zb en269 rfl ((trim_any _ ga _ hlz2 (by show (if 800≤t.nd+L then 800 else t.nd+L)≤800;split<;>omega) Ba).mono ?_));rintro e w23 ⟨rfl,hB,hE⟩;refine ⟨_,rfl,?_⟩;replace Ba:=hB;clear hB;replace E:=E.step1 hE Mut.head;clear hE;refine stp ?_;refine yeq rfl ?_;exact ⟨rfl,by unfold vk;rw[←hx,←hL];exact Ba,(LW.step E XLW)⟩
end
end Go.Proofs.YtmnmebdmpigddaaGreatDoor
namespace Go.Proofs.YtmnmebdmpigddaaGreatDoor
open Go.RowKit
theorem stpdq267 {P Q:Prop} (k:Q) (h:(Unit→Q)→P:=by
 intro zK;refine zl ?_;refine za rfl (ye Tryz.underlying3 rfl rfl Ba (yiz hl t.nd rfl) (zx ?_));refine zd 4 (.bool false) rfl (by rw[vm (by omega)]<;>rfl) (yi ?_);exact zK ()):P:=h fun _=>k
theorem stpdq257 {P Q:Prop} (k:Q) (h:(Unit→Q)→P:=by
 intro zK;refine onx rfl (ye Tryz.underlying3 rfl rfl (HF.on E).here.2 (yiz hl t.nd rfl) (zx ?_));exact zK ()):P:=h fun _=>k
theorem qdq {P Q:Prop} (k:Q) (h:(Unit→Q)→P:=by
 intro zK;refine za rfl (ye Tryz.underlying3 rfl rfl (HF.on E).here.2 (dpAt hl t.dp rfl) ?_);exact zK ()):P:=h fun _=>k
theorem dqz58 {P:Prop} (h:P:=by
 refine za rfl (vc (j:=p.toNat) u227 sz5 rfl rfl (by omega) (by omega) (za rfl (ye u5 rfl rfl (HF.on E).here.2 (dAt hl (dg t.d (p.toNat)) (p.toNat) rfl (by omega)) (zu ?_))));refine zq 4 (.bool (decide (53≤dg t.d p.toNat))) rfl (kb (by omega)) (stp ?_);exact zlx):P:=h
attribute [local irreducible] OW RS CW EW
theorem shrD_one {t:Dec} {k:Nat} (h:k≤60):shrD t k=js t k:=by
 unfold shrD shA;rw[yp (done:=ykv) (step:=yzz) (s:=⟨t,k⟩) (decide_eq_true h)]
theorem mul10w (n:Nat):IntKind.u64.wrap (((n:Nat):Int)*10)=((n*10%18446744073709551616:Nat):Int):=by
 have e:((n:Nat):Int)*10=((n*10:Nat):Int):=by omega
 rw[e];exact yik _
theorem addw (n m:Nat):IntKind.u64.wrap (((n:Nat):Int)+((m:Nat):Int))=(((n+m)%18446744073709551616:Nat):Int):=by
 have e:((n:Nat):Int)+((m:Nat):Int)=((n+m:Nat):Int):=by omega
 rw[e];exact yik _
theorem par_ne (c:Nat):((.bool (((c:Nat):Int)%2 !=0)):Value)= .bool (decide (c%2≠0)):=by
 congr 1
 by_cases h:c%2=0
 · rw[decide_eq_false (fun e=>e h),show ((c:Nat):Int)%2=0 by omega];rfl
 · rw[decide_eq_true h];exact bne_iff_ne.2 (by omega)
section
variable (w:World) {bp op cp bf of cf bl ol cl:Nat}
theorem shiftL_any (ga k:Nat) (t:Dec) (hk:Shl k) (ht:DecI t) (h0:0<t.nd) (hdp:-20000000≤t.dp∧t.dp≤20000000) (hB:Blk w ga 229 (yj t)) (hT:Tabs bp op cp bf of cf bl ol cl w) (hg:TabsB bp bf bl ga) :
 Calls Tryz.prog 241 #[.pointer (some ⟨ga,0,none⟩),.int .i64 ((k:Nat):Int)] w fun e w'=>e= .returned (.tuple #[])∧Blk w' ga 229 (yj (vk t k))∧Ext (Mut [some ga]) w w':=by
 have hl:=ht.len;have hk60:=(shl_ok hk).k1;refine zc Tryz.func241 rfl Tryz.ntmps241 rfl ?_;have Ba:=hB;have HF:Per (Mut [(some ga)]) w (fun _=>True):=Per.true_;have LW:=erx (Mut [(some ga)]) w;have XLW:=grx (Mut [(some ga)]) w;have E:=erx (Mut [(some ga)]) w;obtain ⟨HF,LW,E⟩:=fra HF LW E XLW (Per.tabsB hT hg (fun q h=>h.elim (fun e=>Nat.le_of_eq (Option.some.inj e).symm) (fun e=>e.elim)));refine stpdq267 ?_;refine zd 10 (.bool true) rfl (by rw[decide_eq_true (by omega)]<;>rfl) (zn ?_);refine zbk (zp ?_);refine zd 14 (.bool false) rfl (by rw[decide_eq_false (by omega)]<;>rfl) (qd ?_);refine za rfl (jp u87 Tryz.underlying3 rfl (wrap_u64 (by omega)) (za rfl (zb en270 rfl ((left_any _ ga k t hk ht h0 hdp Ba (HF.on E).here.2 hg).mono ?_))));rintro e w1 ⟨rfl,hB,hE⟩;refine ⟨_,rfl,?_⟩;replace Ba:=hB;clear hB;replace E:=E.step1 hE Mut.head;clear hE;refine zm ?_;refine yeq rfl ?_;exact ⟨rfl,Ba,(LW.step E XLW)⟩
theorem shiftR_any (ga k:Nat) (t:Dec) (h:ShI ⟨t,k⟩) (hB:Blk w ga 229 (yj t)) :
 Calls Tryz.prog 241 #[.pointer (some ⟨ga,0,none⟩),.int .i64 (-((k:Nat):Int))] w fun e w'=>e= .returned (.tuple #[])∧Blk w' ga 229 (yj (shrD t k))∧Ext (Mut [some ga]) w w':=by
 have hl:t.d.length=800:=h.dec.len;have h0:0<t.nd:=h.pos;have hk1:1≤k∧k≤300000:=h.k1;refine zc Tryz.func241 rfl Tryz.ntmps241 rfl ?_;have Ba:=hB;have LW:=erx (Mut [(some ga)]) w;have XLW:=grx (Mut [(some ga)]) w;have E:=erx (Mut [(some ga)]) w;refine stpdq267 ?_;refine zd 10 (.bool false) rfl (by rw[decide_eq_false (by omega)]<;>rfl) (yi ?_);refine zd 23 (.bool true) rfl (by rw[decide_eq_true (by omega)]<;>rfl) (zm ?_);replace LW:=LW.step E XLW;replace E:=erx (Mut [(some ga)]) w;refine yh (ι:=ShS) (fun s=>[(0,.pointer (some ⟨ga,0,none⟩)),(1,.int .i64 (-(s.k:Int)))]) (fun s w'=>Ext (Mut [(some ga)]) w w'∧Blk w' ga 229 (yj s.t)∧(s=shA t k)) ?_ ?_
 ·
  have M1:=erx (Mut [(some ga)]) w;have XM1:=grx (Mut [(some ga)]) w;refine stp ?_;replace M1:=M1.step E XM1;replace E:=erx (Mut [(some ga)]) w;refine yw (ι:=ShS) (fun s=>[(0,.pointer (some ⟨ga,0,none⟩)),(1,.int .i64 (-(s.k:Int)))]) (fun s w'=>Ext (Mut [(some ga)]) w w'∧Blk w' ga 229 (yj s.t)∧(ShI s∧qk ykv yzz s=shA t k)) (fun s=>s.k) (⟨t,k⟩) ⟨rfl,rfl,trivial⟩ ⟨Ext.refl _ _,(by exact Ba),h,rfl⟩ ?_;have LTa:=(ze Ba.lt);clear Ba;rintro s w4 ⟨M3,Ba,⟨hI,hu⟩⟩;have XM3:Gro (Mut [(some ga)]) (Mut [(some ga)]) w:=(Mut.grow Mut.none_ (fun k e=>Or.inl (Mut.head k e)));replace E:=E.trans M3;replace M1:=M1.step E XM1;replace E:=erx (Mut [(some ga)]) w4;have hk2:=hI.k1;have hdp2:=hI.dp;refine zp ?_;refine zg rfl (fun h1=>?_) (fun h1=>?_)
  ·
   have h1:60<s.k:=by have h1:=of_decide_eq_true h1;omega
   have hdone:ykv s=false:=decide_eq_false (by omega);obtain ⟨hkeep,hlt⟩:=sh_keeps hI hdone;have hst:yzz s= ⟨js s.t 60,s.k-60⟩:=rfl;rw[qp hdone] at hu;rw[hst] at hu hkeep;refine zl ?_;refine za rfl (zb en271 rfl ((right_any _ ga 60 s.t (by decide) hI.dec hI.pos (by omega) Ba).mono ?_));rintro e w5 ⟨rfl,hB,hE⟩;refine ⟨_,rfl,?_⟩;replace Ba:=hB;clear hB;replace E:=E.step1 hE Mut.head;clear hE;refine zx ?_;refine yo ?_;refine zn ?_;refine zq 1 (.int .i64 (-((s.k-60:Nat):Int))) rfl ((by congr 1;omega:(.int .i64 ((-(s.k:Int))+60):Value)=_)) ?_;exact zo (⟨js s.t 60,s.k-60⟩) (by show s.k-60<s.k;omega) ⟨rfl,rfl,trivial⟩ ⟨M3.step E XM3,(by exact Ba),hkeep,hu⟩
  ·
   have h1:s.k≤60:=by have h1:=of_decide_eq_false h1;omega
   have hdone:ykv s=true:=decide_eq_true h1;rw[yp hdone] at hu;refine zx ?_;exact zt s ⟨rfl,rfl,trivial⟩ ⟨M1.step E XM1,(by exact Ba),hu⟩
 ·
  have LTa:=(ze Ba.lt);clear Ba;rintro s w2 ⟨M1,Ba,hs⟩;replace E:=E.trans M1;replace LW:=LW.step E XLW;replace E:=erx (Mut [(some ga)]) w2;obtain ⟨hE0,hd0⟩:=sh_ends h;rw[←hs] at hE0 hd0;have hd0:s.k≤60:=of_decide_eq_true hd0;have hk2:=hE0.k1;have hdp2:=hE0.dp;refine zn ?_;refine zjz ?_;refine za rfl (jp u87 Tryz.underlying3 rfl (wrap_u64 (by omega)) (zf 35 (.int .u64 (s.k:Int)) rfl (by congr 1;omega) (za rfl (zb en271 rfl ((right_any _ ga s.k s.t (by omega) hE0.dec hE0.pos (by omega) Ba).mono ?_)))));rintro e w6 ⟨rfl,hB,hE⟩;refine ⟨_,rfl,?_⟩;replace Ba:=hB;clear hB;replace E:=E.step1 hE Mut.head;clear hE;refine zm ?_;refine yeq rfl ?_;exact ⟨rfl,by unfold shrD;rw[←hs];exact Ba,(LW.step E XLW)⟩
theorem rup_any (ga:Nat) (t:Dec) (p:Int) (ht:DecI t) (hp:-20000000≤p∧p≤20000000) (hB:Blk w ga 229 (yj t)) :
 Calls Tryz.prog 272 #[.pointer (some ⟨ga,0,none⟩),.int .i64 p] w (RetB w (.bool (rup t p))):=by
 have hl:=ht.len;have hnd:=ht.hn;refine zc Tryz.func272 rfl Tryz.ntmps272 rfl ?_;obtain ⟨HF,LW,XLW,E⟩:=wk0 w;replace HF:=HF.and (Per.blk hB (fun h=>h.elim));refine yu ?_;refine zj 7 rfl (fun h1=>?_) (fun h1=>?_)
 ·
  have h1:=of_decide_eq_true h1;have e:rup t p=false:=by unfold rup;rw[if_pos (.inl h1)]
  refine yhq ?_;exact zlx
 ·
  have h1:=of_decide_eq_false h1;refine zx ?_;refine stpdq257 ?_;refine zg rfl (fun h2=>?_) (fun h2=>?_)
  ·
   have h2:=of_decide_eq_true h2;have e:rup t p=false:=by unfold rup;rw[if_pos (.inr h2)]
   refine yi ?_;exact zlx
  ·
   have h2:=of_decide_eq_false h2;have hno:¬(p<0∨(t.nd:Int)≤p):=by omega
   have hg:=ht.dig p.toNat (by omega);refine qd ?_;refine za rfl (vc (j:=p.toNat) u227 sz5 rfl rfl (by omega) (by omega) (za rfl (ye u5 rfl rfl (HF.on E).here.2 (dAt hl (dg t.d (p.toNat)) (p.toNat) rfl (by omega)) (zm ?_))));refine zj 22 rfl (fun h3=>?_) (fun h3=>?_)
   ·
    have h3:dg t.d p.toNat=53:=by have h3:=eq_of_beq h3;omega
    refine stp ?_;refine onx rfl (vo rfl rfl (yx (by omega)) (zn ?_));refine stpdq257 ?_;refine zg rfl (fun h4=>?_) (fun h4=>?_)
    ·
     have h4:p+1=(t.nd:Int):=eq_of_beq h4;have e0:rup t p=(if t.tr then true else if 0<p then decide ((dg t.d (p.toNat-1)-48)%2≠0) else false):=by unfold rup;rw[if_neg hno,if_pos ⟨h3,h4⟩]
     refine zl ?_;refine za rfl (ye u4 rfl rfl (HF.on E).here.2 (trAt hl t.tr rfl) (zm ?_));refine zg rfl (fun h5=>?_) (fun h5=>?_)
     ·
      have e:rup t p=true:=by rw[e0,if_pos h5]
      refine qd ?_;exact zlx
     ·
      refine zp ?_;refine zj 37 rfl (fun h6=>?_) (fun h6=>?_)
      ·
       have h6:=of_decide_eq_true h6;have hg2:=ht.dig (p.toNat-1) (by omega);have e:rup t p=decide ((dg t.d (p.toNat-1)-48)%2≠0):=by rw[e0,if_neg (by rw[h5];decide),if_pos h6]
       refine zm ?_;refine onx rfl (jg rfl rfl (yx (by omega)) (zm ?_));refine onx rfl (vc (j:=p.toNat-1) u227 sz5 rfl rfl (by omega) (by omega) (onx rfl (ye u5 rfl rfl (HF.on E).here.2 (dAt hl (dg t.d (p.toNat-1)) (p.toNat-1) rfl (by omega)) (onx rfl (jg rfl rfl (yak (by omega)) (zf 45 (.int .u8 ((dg t.d (p.toNat-1)-48:Nat):Int)) rfl (by congr 1;omega) (onx rfl (zgv rfl rfl (by decide) (Int.tmod_eq_emod_of_nonneg (by omega)) (zp ?_)))))))));refine zq 4 (.bool (decide ((dg t.d (p.toNat-1)-48)%2≠0))) rfl (par_ne _) (stp ?_);exact zlx
      ·
       have h6:=of_decide_eq_false h6;have e:rup t p=false:=by rw[e0,if_neg (by rw[h5];decide),if_neg h6]
       refine zxz ?_;exact zlx
    ·
     have h4:¬p+1=(t.nd:Int):=fun e=>absurd h4 (by rw[e];simp);have e:rup t p=decide (53≤dg t.d p.toNat):=by unfold rup;rw[if_neg hno,if_neg (fun h=>h4 h.2)]
     refine yi ?_;exact dqz58
   ·
    have h3:¬dg t.d p.toNat=53:=fun e=>absurd h3 (by rw[e];decide);have e:rup t p=decide (53≤dg t.d p.toNat):=by unfold rup;rw[if_neg hno,if_neg (fun h=>h3 h.1)]
    refine stp19 ?_;exact dqz58
theorem rinteger_any (ga:Nat) (t:Dec) (ht:DecI t) (hp:-20000000≤t.dp∧t.dp≤20000000) (hB:Blk w ga 229 (yj t)) :
 Calls Tryz.prog 258 #[.pointer (some ⟨ga,0,none⟩)] w (RetB w (.int .u64 ((zdv t:Nat):Int))):=by
 have hl:=ht.len;have hnd:=ht.hn;refine zc Tryz.func258 rfl Tryz.ntmps258 rfl ?_;obtain ⟨HF,LW,XLW,E⟩:=wk0 w;replace HF:=HF.and (Per.blk hB (fun h=>h.elim));refine yu ?_;refine qdq ?_;refine zn ?_;refine zg rfl (fun h1=>?_) (fun h1=>?_)
 ·
  have h1:=of_decide_eq_true h1;have e:zdv t=18446744073709551615:=by unfold zdv;rw[if_pos h1]
  refine yi ?_;exact zlx
 ·
  have h1:=of_decide_eq_false h1;have hp20:t.dp≤20:=by omega
  refine yhq ?_;replace HF:=HF.on E;replace LW:=LW.step E XLW;replace E:=erx (No) w;refine yh (ι:=RsS) (fun s=>[(0,.pointer (some ⟨ga,0,none⟩)),(3,.int .i64 (s.r:Int)),(4,.int .u64 (s.n:Int))]) (fun s w'=>Ext (No) w w'∧(s=riA t)) ?_ ?_
  ·
   have M1:=erx (No) w;have XM1:=grx (No) w;refine stp ?_;replace HF:=HF.on E;replace M1:=M1.step E XM1;replace E:=erx (No) w;refine yw (ι:=RsS) (fun s=>[(0,.pointer (some ⟨ga,0,none⟩)),(3,.int .i64 (s.r:Int)),(4,.int .u64 (s.n:Int))]) (fun s w'=>Ext (No) w w'∧(RiI s∧qk (yrx t) (qhv t) s=riA t)) (fun s=>20-s.r) (⟨0,0⟩) ⟨rfl,rfl,rfl,trivial⟩ ⟨Ext.refl _ _,⟨Nat.zero_le _,by decide⟩,rfl⟩ ?_;rintro s w4 ⟨M3,⟨hI,hu⟩⟩;have XM3:=grx (No) w;replace E:=E.trans M3;replace HF:=HF.on E;replace M1:=M1.step E XM1;replace E:=erx (No) w4;have hr:=hI.hr;have hn:=hI.hn;refine zp ?_;refine qdq ?_;refine zm ?_;refine zj 16 rfl (fun h2=>?_) (fun h2=>?_)
   ·
    have h2:=of_decide_eq_true h2;refine zx ?_;refine stpdq257 ?_;refine zg rfl (fun h3=>?_) (fun h3=>?_)
    ·
     have h3:=of_decide_eq_true h3;have hdone:yrx t s=false:=decide_eq_false (fun h=>h ⟨h2,by omega⟩);have hkeep:=qsz hp20 hI hdone;have hst:qhv t s= ⟨s.r+1,(s.n*10%18446744073709551616+(dg t.d s.r-48))%18446744073709551616⟩:=rfl;have hg:=ht.dig s.r (by omega);rw[qp hdone] at hu;rw[hst] at hu hkeep;have hk1:=hkeep.hr;have hk1:s.r+1≤20:=hk1;refine zl ?_;refine za rfl (xq rfl rfl (mul10w s.n) (zx ?_));refine za rfl (vc (j:=s.r) u227 sz5 rfl rfl (by omega) (by omega) (za rfl (ye u5 rfl rfl (HF.on E).here.2 (dAt hl (dg t.d (s.r)) (s.r) rfl (by omega)) (za rfl (jg rfl rfl (yak (by omega)) (za rfl (jp u25 u5 rfl (wrap_u64 (by omega)) (zf 35 (.int .u64 ((dg t.d s.r-48:Nat):Int)) rfl (by congr 1;omega) (za rfl (vo rfl rfl (addw _ _) (zwq ?_)))))))))));exact zo (⟨s.r+1,(s.n*10%18446744073709551616+(dg t.d s.r-48))%18446744073709551616⟩) (by show 20-(s.r+1)<20-s.r;omega) ⟨rfl,rfl,rfl,trivial⟩ ⟨M3.step E XM3,hkeep,hu⟩
    ·
     have h3:=of_decide_eq_false h3;have hdone:yrx t s=true:=decide_eq_true (by omega);rw[yp hdone] at hu;refine zx ?_;exact zt s ⟨rfl,rfl,rfl,trivial⟩ ⟨M1.step E XM1,hu⟩
   ·
    have h2:=of_decide_eq_false h2;have hdone:yrx t s=true:=decide_eq_true (by omega);rw[yp hdone] at hu;refine jm ?_;exact zt s ⟨rfl,rfl,rfl,trivial⟩ ⟨M1.step E XM1,hu⟩
  ·
   rintro s w2 ⟨M1,hs⟩;replace E:=E.trans M1;replace HF:=HF.on E;replace LW:=LW.step E XLW;replace E:=erx (No) w2;have hA:=riA_ends hp20;refine stp ?_;replace HF:=HF.on E;replace LW:=LW.step E XLW;replace E:=erx (No) w2;refine yh (ι:=RsS) (fun x=>[(0,.pointer (some ⟨ga,0,none⟩)),(4,.int .u64 (x.n:Int))]) (fun x w'=>Ext (No) w2 w'∧(x=riB t)) ?_ ?_
   ·
    have M5:=erx (No) w2;have XM5:=grx (No) w2;refine stp ?_;replace HF:=HF.on E;replace M5:=M5.step E XM5;replace E:=erx (No) w2;refine yw (ι:=RsS) (fun x=>[(0,.pointer (some ⟨ga,0,none⟩)),(3,.int .i64 (x.r:Int)),(4,.int .u64 (x.n:Int))]) (fun x w'=>Ext (No) w2 w'∧(RiI x∧qk (qix t) qhk x=riB t)) (fun x=>20-x.r) s ⟨rfl,rfl,rfl,trivial⟩ ⟨Ext.refl _ _,by rw[hs];exact hA,by rw[hs];rfl⟩ ?_;rintro x w8 ⟨M7,⟨hI,hu⟩⟩;have XM7:=grx (No) w2;replace E:=E.trans M7;replace HF:=HF.on E;replace M5:=M5.step E XM5;replace E:=erx (No) w8;have hr:=hI.hr;have hn:=hI.hn;refine zp ?_;refine qdq ?_;refine zn ?_;refine zg rfl (fun h2=>?_) (fun h2=>?_)
    ·
     have h2:=of_decide_eq_true h2;have hdone:qix t x=false:=decide_eq_false (fun h=>h h2);have hkeep:=qsx hp20 hI hdone;have hst:qhk x= ⟨x.r+1,x.n*10%18446744073709551616⟩:=rfl;rw[qp hdone] at hu;rw[hst] at hu hkeep;have hk1:x.r+1≤20:=hkeep.hr;refine zl ?_;refine za rfl (xq rfl rfl (mul10w x.n) (zwq ?_));exact zo (⟨x.r+1,x.n*10%18446744073709551616⟩) (by show 20-(x.r+1)<20-x.r;omega) ⟨rfl,rfl,rfl,trivial⟩ ⟨M7.step E XM7,hkeep,hu⟩
    ·
     have h2:=of_decide_eq_false h2;have hdone:qix t x=true:=decide_eq_true h2;rw[yp hdone] at hu;refine zx ?_;exact zt x ⟨rfl,rfl,trivial⟩ ⟨M5.step E XM5,hu⟩
   ·
    rintro x w6 ⟨M5,hx⟩;replace E:=E.trans M5;replace HF:=HF.on E;replace LW:=LW.step E XLW;replace E:=erx (No) w6;have hB2:=(riB_ends hp20).hn;refine zp ?_;refine qdq ?_;refine zh rfl en272 rfl (rup_any _ ga t t.dp ht hp (HF.on E).here.2) E fun w9 E=>(zm ?_);refine zg rfl (fun h3=>?_) (fun h3=>?_)
    ·
     have e:zdv t=((riB t).n+1)%18446744073709551616:=by unfold zdv;rw[if_neg h1,if_pos h3]
     refine zm ?_;refine za rfl (vo rfl rfl (addw x.n 1) (yu ?_));exact ⟨by rw[e,←hx];rfl,(LW.step E XLW).toBelow⟩
    ·
     have e:zdv t=(riB t).n:=by unfold zdv;rw[if_neg h1,if_neg (by rw[h3];decide)]
     refine zz ?_;exact ⟨by rw[e,←hx];rfl,(LW.step E XLW).toBelow⟩
end
end Go.Proofs.YtmnmebdmpigddaaGreatDoor
namespace Go.Proofs.YtmnmebdmpigddaaGreatDoor
open Go.RowKit
theorem qdz {P Q:Prop} (k:Q) (h:(Unit→Q)→P:=by
 intro zK;refine za rfl (gq (z:=4503599627370496) rfl rfl (by decide) (by kernel_rfl) ?_);exact zK ()):P:=h fun _=>k
theorem dqz148 {P:Prop} (h:P:=by
 refine qq ?_;intro vs X wq K;exact ow_neg rfl (yx (by omega)) ⟨Below.refl _ _,Left.of rfl⟩):P:=h
theorem dqz142 {P:Prop} (h:P:=by
 exact zt () ⟨rfl,rfl,rfl,rfl,rfl,rfl,rfl,trivial⟩ ⟨M25.step E XM25,(by exact Ba),trivial⟩):P:=h
theorem dqz141 {P:Prop} (h:P:=by
 exact zt () ⟨rfl,rfl,rfl,rfl,rfl,rfl,rfl,trivial⟩ ⟨M12.step E XM12,(by exact Ba),trivial⟩):P:=h
theorem dqz125 {P:Prop} (h:P:=by
 refine qq ?_;intro vs X wq K;exact gq (z:=4503599627370496) rfl rfl (by decide) (by kernel_rfl) ⟨Below.refl _ _,Left.of rfl⟩):P:=h
theorem dqz123 {P:Prop} (h:P:=by
 refine qq ?_;intro vs X wq K;exact gq (z:=9223372036854775808) rfl rfl (by decide) (by kernel_rfl) ⟨Below.refl _ _,Left.of rfl⟩):P:=h
theorem dqz113 {P:Prop} (h:P:=by
 exact yux rfl TLM1 (M,Kx,false,vk t3 53) ⟨rfl,rfl,rfl,rfl,rfl,trivial⟩ ⟨M1.step E XM1,(by exact Ba),hfb,hM64,by omega,hl5,hn5⟩):P:=h
theorem dqz110 {P:Prop} (h:P:=by
 refine og ?_;exact yux rfl TLM1 (0,0,false,t) ⟨rfl,rfl,rfl,rfl,rfl,trivial⟩ ⟨M1.step E XM1,(by exact Ba),hfb,by decide,by decide,hl,rfl⟩):P:=h
theorem dqz93 {P:Prop} (h:P:=by
 refine stp ?_;exact ⟨by rw[e,hfb];rfl,⟨_,Ba⟩,(LW.step E XLW)⟩):P:=h
theorem dqz86 {P:Prop} (h:P:=by
 intro vs X wq K;have LE:=K.1;exact vq Tryz.underlying3 rfl rfl (by rw[Nat.mul_one];exact (HF.on (E.drew.trans (LE.mono OY))).here.1.1.1.2.powtab.cells _ _ (powtab_at (by omega))) ⟨Below.refl _ _,Left.of rfl⟩):P:=h
theorem dqz82 {P:Prop} (h:P:=by
 refine qq ?_;intro vs X wq K;exact gq (z:=2048) rfl rfl (by decide) (by kernel_rfl) ⟨Below.refl _ _,Left.of rfl⟩):P:=h
theorem dqz64 {P:Prop} (h:P:=by
 refine qq ?_;intro vs X wq K;exact jg (z:=2047) rfl rfl (by kernel_rfl) ⟨Below.refl _ _,Left.of rfl⟩):P:=h
theorem dqz48 {P:Prop} (h:P:=by
 have LE:=K.1;exact vq u155 rfl rfl (HF.on (E.drew.trans (LE.mono OY))).here.1.1.1.2.powtab.head ⟨Below.refl _ _,Left.of rfl⟩):P:=h
theorem dqz39 {P:Prop} (h:P:=by
 refine qq ?_;intro vs X wq K;have LE:=K.1;exact ye Tryz.underlying3 rfl rfl (Ba.drew.extN LE NotIn.nil) (dpAt hls s.t.dp rfl) ⟨Below.refl _ _,Left.of rfl⟩):P:=h
theorem dqz32 {P:Prop} (h:P:=by
 refine ⟨arm,arm,arm,arm,arm,?_,arm,arm,arm,arm,?_,?_,?_,trivial⟩
 · refine qq ?_;intro vs X wq K;exact jg rfl rfl (yx (by omega)) ⟨Below.refl _ _,Left.of rfl⟩
 · refine qq ?_;intro vs X wq K;exact gq (z:=2048) rfl rfl (by decide) (by kernel_rfl) ⟨Below.refl _ _,Left.of rfl⟩
 · refine qq ?_;intro vs X wq K;exact jg (z:=2047) rfl rfl (by kernel_rfl) ⟨Below.refl _ _,Left.of rfl⟩
 · refine qq ?_;intro vs X wq K;exact ow_geq rfl rfl ⟨Below.refl _ _,Left.of (kb (by omega))⟩):P:=h
attribute [local irreducible] OW RS CW EW
theorem powtab_at {j:Nat} (h:j<9):(pows.map (fun z=>Value.int .i64 z))[j]? =some (.int .i64 ((pt j:Nat):Int)):=by
 have key:∀i:Fin 9,pows[i.val]? =some ((pt i.val:Nat):Int):=by decide +kernel
 rw[List.getElem?_map,key ⟨j,h⟩];rfl
theorem pt_far {j:Nat} (h:9≤j):pt j=27:=by unfold pt;rw[if_pos h]
theorem and_i2047 {k:Nat} (h:k≤2047):IntKind.i64.wrap (BitVec.ofInt IntKind.i64.bits ((k:Nat):Int) &&& BitVec.ofInt IntKind.i64.bits 2047).toNat=((k:Nat):Int):=by
 have key:∀v:Fin 2048,IntKind.i64.wrap (BitVec.ofInt IntKind.i64.bits (v.val:Int) &&& BitVec.ofInt IntKind.i64.bits 2047).toNat=(v.val:Int):=by decide +kernel
 exact key ⟨k,by omega⟩
theorem shl_52 {k:Nat} (h:k≤2047):IntKind.u64.wrap (((k:Nat):Int)*2^(min ((52:Int)).toNat IntKind.u64.bits))=((k*4503599627370496:Nat):Int):=by
 have e:=zmx k 52 (by decide);have e2:k*2^52%18446744073709551616=k*4503599627370496:=Nat.mod_eq_of_lt (by show k*4503599627370496<18446744073709551616;omega);rw[e2] at e;exact e
theorem and_lo {m:Nat} (h:m<18446744073709551616):IntKind.u64.wrap (BitVec.ofInt IntKind.u64.bits ((m:Nat):Int) &&& BitVec.ofInt IntKind.u64.bits 4503599627370495).toNat=((m &&& 4503599627370495:Nat):Int):=ks (n:=4503599627370495) h (by decide)
theorem and_hi {m:Nat} (h:m<18446744073709551616):IntKind.u64.wrap (BitVec.ofInt IntKind.u64.bits ((m:Nat):Int) &&& BitVec.ofInt IntKind.u64.bits 4503599627370496).toNat=((m &&& 4503599627370496:Nat):Int):=ks (n:=4503599627370496) h (by decide)
theorem fbR_neg {t:Dec} (ht:DecI t) (h0:0<t.nd) (hd:-330≤t.dp∧t.dp≤310):(fbR t).t.neg=t.neg:=by
 have h:=vj (done:=zuk) (step:=zuz) (fun s=>FbRI s∧s.t.neg=t.neg) (fun s=>msR s.t) (fun s h hd=>?_) ⟨qvv ht h0 hd,rfl⟩
 · exact h.1.2
 · obtain ⟨h1,h2⟩:=qwx h.1 hd;obtain ⟨_,_,_,_,h5⟩:=xx (k:=pt s.t.dp.toNat) h.1.dec (pt_le _).1 h.1.pos;exact ⟨⟨h1,h5.trans h.2⟩,h2⟩
theorem fbL_neg {t:Dec} (ht:DecI t) (h0:0<t.nd) (hd:-330≤t.dp∧t.dp≤310):(fbL t).t.neg=t.neg:=by
 obtain ⟨h1,h2⟩:=fbR_ends ht h0 hd;have h:=vj (done:=yez) (step:=zuq) (fun s=>FbLI s∧s.t.neg=t.neg) (fun s=>msL s.t) (fun s h hd=>?_) ⟨qwz h1 h2,fbR_neg ht h0 hd⟩
 · exact h.1.2
 · obtain ⟨h3,h4⟩:=qwq h.1 hd;obtain ⟨_,_,_,_,_,h5⟩:=ydz (k:=pt (-s.t.dp).toNat) h.1.dec h.1.pos (pt_shl _);exact ⟨⟨h3,h5.trans h.2⟩,h4⟩
theorem shrD_neg {t:Dec} {k:Nat} (h:ShI ⟨t,k⟩):(shrD t k).neg=t.neg:=by
 have h1:=vj (done:=ykv) (step:=yzz) (fun s=>ShI s∧s.t.neg=t.neg) (fun s=>s.k) (fun s h hd=>?_) ⟨h,rfl⟩
 · have h2:ShI (shA t k)∧(shA t k).t.neg=t.neg:=h1.1;obtain ⟨_,_,_,_,h5⟩:=xx (k:=(shA t k).k) h2.1.dec h2.1.k1.1 h2.1.pos;exact h5.trans h2.2
 · obtain ⟨h3,h4⟩:=sh_keeps h.1 hd;obtain ⟨_,_,_,_,h5⟩:=xx (k:=60) h.1.dec (by decide) h.1.pos;exact ⟨⟨h3,h5.trans h.2⟩,h4⟩
def zoz (m k:Nat):Nat:=(m &&& 4503599627370495) ||| k*4503599627370496
theorem slowC_or {m k:Nat} (hk:k≤2047):IntKind.u64.wrap (BitVec.ofInt IntKind.u64.bits ((m &&& 4503599627370495:Nat):Int) ||| BitVec.ofInt IntKind.u64.bits ((k*4503599627370496:Nat):Int)).toNat=((zoz m k:Nat):Int):=
 kg (Nat.lt_of_le_of_lt Nat.and_le_right (by decide)) (by omega)
theorem slowC_lt {m k:Nat} (hk:k≤2047):zoz m k<18446744073709551616:=
 or_lt (k:=64) (Nat.lt_of_le_of_lt Nat.and_le_right (by decide)) (by show k*4503599627370496<18446744073709551616;omega)
theorem slowC_neg {m k:Nat} (hk:k≤2047):IntKind.u64.wrap (BitVec.ofInt IntKind.u64.bits ((zoz m k:Nat):Int) ||| BitVec.ofInt IntKind.u64.bits 9223372036854775808).toNat=((zoz m k ||| 9223372036854775808:Nat):Int):=
 kg (n:=9223372036854775808) (slowC_lt hk) (by decide)
section
variable (w:World) {bp op cp bf of cf bl ol cl:Nat}
theorem bits_any (ga:Nat) (t:Dec) (ht:DecI t) (hdp0:-20000000≤t.dp∧t.dp≤20000000) (hB:Blk w ga 229 (yj t)) (hT:Tabs bp op cp bf of cf bl ol cl w) (hg:TabsB bp bf bl ga) :
 Calls Tryz.prog 223 #[.pointer (some ⟨ga,0,none⟩),.pointer (some ⟨8,0,none⟩)] w fun e w'=>e= .returned (.tuple #[.int .u64 ((ztx t:Nat):Int),.bool (zfk t).2.2])∧(∃t',Blk w' ga 229 (yj t'))∧Ext (Mut [some ga]) w w':=by
 have hl:=ht.len;have hnd:=ht.hn;refine zc Tryz.func223 rfl Tryz.ntmps223 rfl ?_;have Ba:=hB;have HF:Per (Mut [(some ga)]) w (fun _=>True):=Per.true_;have LW:=erx (Mut [(some ga)]) w;have XLW:=grx (Mut [(some ga)]) w;have E:=erx (Mut [(some ga)]) w;obtain ⟨HF,LW,E⟩:=fra HF LW E XLW (Per.tabsB hT hg (fun q h=>h.elim (fun e=>Nat.le_of_eq (Option.some.inj e).symm) (fun e=>e.elim)));obtain ⟨HF,LW,E⟩:=fra HF LW E XLW (Per.cellB (HF.on E).here.2.man hg.info (fun q h=>h.elim (fun e=>Nat.le_of_eq (Option.some.inj e).symm) (fun e=>e.elim)));obtain ⟨HF,LW,E⟩:=fra HF LW E XLW (Per.cellB (HF.on E).here.1.2.exp hg.info (fun q h=>h.elim (fun e=>Nat.le_of_eq (Option.some.inj e).symm) (fun e=>e.elim)));obtain ⟨HF,LW,E⟩:=fra HF LW E XLW (Per.cellB (HF.on E).here.1.1.2.bias hg.info (fun q h=>h.elim (fun e=>Nat.le_of_eq (Option.some.inj e).symm) (fun e=>e.elim)));refine zl ?_;refine cw_scope 4 ?_;replace HF:=HF.on E;replace LW:=LW.step E XLW;replace E:=erx (Mut [(some ga)]) w;refine cw_tail (l:=0) (ι:=Nat×Nat×Bool×Dec) (fun (m,k,ov,u)=>[(0,.pointer (some ⟨ga,0,none⟩)),(1,.pointer (some ⟨8,0,none⟩)),(5,.bool ov),(6,.int .i64 (((k:Nat):Int)-1023)),(7,.int .u64 ((m:Nat):Int))]) (fun (m,k,ov,u) w'=>Ext (Mut [(some ga)]) w w'∧Blk w' ga 229 (yj u)∧(zfk t=(m,k,ov)∧m<18446744073709551616∧k≤2047∧u.d.length=800∧u.neg=t.neg)) rfl ?_ ?_
 ·
  intro TLM1;have M1:=erx (Mut [(some ga)]) w;have XM1:=grx (Mut [(some ga)]) w;replace HF:=HF.on E;replace LW:=LW.step E XLW;replace M1:=M1.step E XM1;replace E:=erx (Mut [(some ga)]) w;refine cw_tail (l:=1) (ι:=Dec) (fun u=>[(0,.pointer (some ⟨ga,0,none⟩)),(1,.pointer (some ⟨8,0,none⟩))]) (fun u w'=>Ext (Mut [(some ga)]) w w'∧Blk w' ga 229 (yj u)∧(zfk t=(0,2047,true)∧u.d.length=800∧u.neg=t.neg)) rfl ?_ ?_
  ·
   intro TLM3;have M3:=erx (Mut [(some ga)]) w;have XM3:=grx (Mut [(some ga)]) w;refine og ?_;refine za rfl (ye Tryz.underlying3 rfl rfl Ba (yiz hl t.nd rfl) (zn ?_));refine zg rfl (fun h1=>?_) (fun h1=>?_)
   ·
    have h1:t.nd=0:=by have h1:=eq_of_beq h1;omega
    have hfb:zfk t=(0,0,false):=by unfold zfk;rw[if_pos h1]
    exact dqz110
   ·
    have h1:t.nd≠0:=fun e=>absurd h1 (by rw[e];decide);refine yi ?_;refine stpdq313 ?_;refine zn ?_;refine zg rfl (fun h2=>?_) (fun h2=>?_)
    ·
     have h2:=of_decide_eq_true h2;have hfb:zfk t=(0,2047,true):=by unfold zfk;rw[if_neg h1,if_pos h2]
     refine zm ?_;exact yux rfl TLM3 t ⟨rfl,rfl,trivial⟩ ⟨M3.step E XM3,(by exact Ba),hfb,hl,rfl⟩
    ·
     have h2:=of_decide_eq_false h2;refine yi ?_;refine stpdq313 ?_;refine zn ?_;refine zg rfl (fun h3=>?_) (fun h3=>?_)
     ·
      have h3:=of_decide_eq_true h3;have hfb:zfk t=(0,0,false):=by unfold zfk;rw[if_neg h1,if_neg h2,if_pos h3]
      exact dqz110
     ·
      have h3:=of_decide_eq_false h3;have hpos:0<t.nd:=by omega
      have hfb0:zfk t=fbMid (fbL t).t ((fbL t).e-1):=by unfold zfk;rw[if_neg h1,if_neg h2,if_neg h3]
      refine yi ?_;replace HF:=HF.on E;replace M1:=M1.step E XM1;replace M3:=M3.step E XM3;replace E:=erx (Mut [(some ga)]) w;refine yh (ι:=FbS) (fun s=>[(0,.pointer (some ⟨ga,0,none⟩)),(1,.pointer (some ⟨8,0,none⟩)),(4,.int .u64 0),(5,.bool false),(6,.int .i64 s.e),(7,.int .u64 0)]) (fun s w'=>Ext (Mut [(some ga)]) w w'∧Blk w' ga 229 (yj s.t)∧(s=fbR t)) ?_ ?_
      ·
       have M5:=erx (Mut [(some ga)]) w;have XM5:=grx (Mut [(some ga)]) w;refine stp ?_;replace HF:=HF.on E;replace M5:=M5.step E XM5;replace E:=erx (Mut [(some ga)]) w;refine yw (ι:=FbS) (fun s=>[(0,.pointer (some ⟨ga,0,none⟩)),(1,.pointer (some ⟨8,0,none⟩)),(4,.int .u64 0),(5,.bool false),(6,.int .i64 s.e),(7,.int .u64 0)]) (fun s w'=>Ext (Mut [(some ga)]) w w'∧Blk w' ga 229 (yj s.t)∧(FbRI s∧qk zuk zuz s=fbR t)) (fun s=>msR s.t) (⟨t,0⟩) ⟨rfl,rfl,rfl,rfl,rfl,rfl,trivial⟩ ⟨Ext.refl _ _,(by exact Ba),qvv ht hpos (by omega),rfl⟩ ?_;have LTa:=(ze Ba.lt);clear Ba;rintro s w8 ⟨M7,Ba,⟨hI,hu⟩⟩;have XM7:Gro (Mut [(some ga)]) (Mut [(some ga)]) w:=(Mut.grow Mut.none_ (fun k e=>Or.inl (Mut.head k e)));replace E:=E.trans M7;replace HF:=HF.on E;replace M5:=M5.step E XM5;replace E:=erx (Mut [(some ga)]) w8;have hls:=hI.dec.len;have hsd:=hI.dp;have hse:=hI.e;have hsp:=hI.pos;refine zl ?_;refine za rfl (ye Tryz.underlying3 rfl rfl Ba (dpAt hls s.t.dp rfl) (zn ?_));refine zg rfl (fun h4=>?_) (fun h4=>?_)
       ·
        have h4:=of_decide_eq_true h4;have hdone:zuk s=false:=decide_eq_false (by omega);obtain ⟨hkeep,hms⟩:=qwx hI hdone;obtain ⟨P,hP⟩:∃P,P=pt s.t.dp.toNat:=⟨_,rfl⟩;have hP1:=pt_le s.t.dp.toNat;have hst:zuz s= ⟨js s.t P,s.e+((P:Nat):Int)⟩:=by rw[hP];rfl
        rw[←hP] at hP1;rw[qp hdone] at hu;rw[hst] at hu hkeep hms;refine zz ?_;replace HF:=HF.on E;replace M7:=M7.step E XM7;replace E:=erx (Mut [(some ga)]) w8;refine yh (ι:=Bool) (fun g=>[(0,.pointer (some ⟨ga,0,none⟩)),(1,.pointer (some ⟨8,0,none⟩)),(4,.int .u64 0),(5,.bool false),(6,.int .i64 s.e),(7,.int .u64 0),(8,.int .i64 0),(46,.bool g)]) (fun g w'=>Ext (Mut [(some ga)]) w8 w'∧Blk w' ga 229 (yj s.t)∧(g=decide (9≤s.t.dp))) ?_ ?_
        ·
         have M9:=erx (Mut [(some ga)]) w8;have XM9:=grx (Mut [(some ga)]) w8;have OY:∀q9,(Mut (xz [])) q9→q9<(World.drew w8).heap.size→(Mut [(some ga)]) q9:=fun k h _=>(Mut.none_) k h;refine qm (Mut [(some ga)]) (Mut.grow Mut.none_ (ze Ba.lt)) [] [] (zcx [Fx.of (.pointer (some ⟨ga,0,none⟩)),
          Fx.of (.pointer (some ⟨ga,0,none⟩)),
          Fx.of (.pointer (some ⟨ga,801,none⟩)),
          Fx.of (.int .i64 s.t.dp),
          Fx.of (.slice (some ⟨bp,op,none⟩) 9 cp),
          Fx.of (.int .i64 9),
          Fx.of (.bool (decide (9≤s.t.dp)))]) mixed rfl trivial (fun _ h=>by cases h) ?_ ?_
         · refine ⟨arm,arm,arm,?_,?_,arm,arm,trivial⟩
           · exact dqz39
           · intro vs X wq K;exact dqz48
         intro vs w11 LE AO AL AF AA;have LBa:=Ba;replace Ba:=Ba.drew.extN LE NotIn.nil;replace E:=E.drew.trans (LE.mono OY);obtain ⟨_,e6,k6⟩:=AL.2.2.2.2.2.2.1;refine ja (τ:=[(0,_),(1,_),(4,_),(5,_),(6,_),(7,_),(8,_),(46,.bool (decide (9≤s.t.dp)))]) ⟨rfl,rfl,rfl,rfl,rfl,rfl,rfl,congrArg some e6,trivial⟩ ?_;clear AL AF AA LE AO OY e6 k6 LBa;exact zt (decide (9≤s.t.dp)) ⟨rfl,rfl,rfl,rfl,rfl,rfl,rfl,rfl,trivial⟩ ⟨M9.step E XM9,(by exact Ba),rfl⟩
        ·
         have LTa:=(ze Ba.lt);clear Ba;rintro g w10 ⟨M9,Ba,hgg⟩;replace E:=E.trans M9;replace HF:=HF.on E;replace M7:=M7.step E XM7;replace E:=erx (Mut [(some ga)]) w10;replace HF:=HF.on E;replace M7:=M7.step E XM7;replace E:=erx (Mut [(some ga)]) w10;refine yh (ι:=Unit) (fun _=>[(0,.pointer (some ⟨ga,0,none⟩)),(1,.pointer (some ⟨8,0,none⟩)),(4,.int .u64 0),(5,.bool false),(6,.int .i64 s.e),(7,.int .u64 0),(8,.int .i64 ((P:Nat):Int))]) (fun _ w'=>Ext (Mut [(some ga)]) w10 w'∧Blk w' ga 229 (yj s.t)∧(True)) ?_ ?_
         ·
          have M12:=erx (Mut [(some ga)]) w10;have XM12:=grx (Mut [(some ga)]) w10;refine zg rfl (fun h5=>?_) (fun h5=>?_)
          ·
           rw[hgg] at h5;have h5:=of_decide_eq_true h5;have e:P=27:=by rw[hP];exact pt_far (by omega)
           refine zn ?_;refine zq 8 (.int .i64 ((P:Nat):Int)) rfl ((by rw[e];rfl:(.int .i64 27:Value)=_)) ?_;exact dqz141
          ·
           rw[hgg] at h5;have h5:=of_decide_eq_false h5;have OY:∀q9,(Mut (xz [])) q9→q9<(World.drew w10).heap.size→(Mut [(some ga)]) q9:=fun k h _=>(Mut.none_) k h;refine qm (Mut [(some ga)]) (Mut.grow Mut.none_ (ze Ba.lt)) [] [] (zcx [Fx.of (.slice (some ⟨bp,op,none⟩) 9 cp),
            Fx.of (.pointer (some ⟨ga,0,none⟩)),
            Fx.of (.pointer (some ⟨ga,0,none⟩)),
            Fx.of (.pointer (some ⟨ga,801,none⟩)),
            Fx.of (.int .i64 s.t.dp),
            Fx.of (.pointer (some ⟨bp,op+s.t.dp.toNat*1,none⟩)),
            Fx.of (.int .i64 ((pt s.t.dp.toNat:Nat):Int)),
            Fx.of (.int .i64 ((pt s.t.dp.toNat:Nat):Int))]) mixed rfl trivial (fun _ h=>by cases h) ?_ ?_
           · refine ⟨?_,arm,arm,arm,?_,?_,?_,arm,trivial⟩
             · intro vs X wq K;exact dqz48
             · exact dqz39
             · refine qq ?_;intro vs X wq K;exact jy (j:=s.t.dp.toNat) u155 sz3 rfl rfl (by omega) (by omega) ⟨Below.refl _ _,Left.of rfl⟩
             · refine qq ?_;exact dqz86
           intro vs w14 LE AO AL AF AA;have LBa:=Ba;replace Ba:=Ba.drew.extN LE NotIn.nil;replace E:=E.drew.trans (LE.mono OY);obtain ⟨_,e7,k7⟩:=AL.2.2.2.2.2.2.2.1;refine ja (τ:=[(0,_),(1,_),(4,_),(5,_),(6,_),(7,_),(8,.int .i64 ((pt s.t.dp.toNat:Nat):Int))]) ⟨rfl,rfl,rfl,rfl,rfl,rfl,congrArg some e7,trivial⟩ ?_;clear AL AF AA LE AO OY e7 k7 LBa;refine zq 8 (.int .i64 ((P:Nat):Int)) rfl ((by rw[hP]:(.int .i64 ((pt s.t.dp.toNat:Nat):Int):Value)=_)) ?_;exact dqz141
         ·
          have LTa:=(ze Ba.lt);clear Ba;rintro _ w13 ⟨M12,Ba,_⟩;replace E:=E.trans M12;replace M7:=M7.step E XM7;replace E:=erx (Mut [(some ga)]) w13;refine zx ?_;refine zjz ?_;refine zf 56 (.int .i64 (-((P:Nat):Int))) rfl (by congr 1;omega) (za rfl (zb en241 rfl ((shiftR_any _ ga P s.t ⟨hI.dec,hsp,by show 1≤P∧P≤300000;omega,by show -10000000+15*((P:Nat):Int)≤s.t.dp∧s.t.dp≤1000000;omega⟩ Ba).mono ?_)));rintro e w15 ⟨rfl,hB,hE⟩;refine ⟨_,rfl,?_⟩;replace Ba:=hB;clear hB;replace E:=E.step1 hE Mut.head;clear hE;replace Ba:Blk w15 ga 229 (yj (js s.t P)):=by rw[←shrD_one (by omega)];exact Ba
          refine yjk ?_;exact zo (⟨js s.t P,s.e+((P:Nat):Int)⟩) (hms) ⟨rfl,rfl,rfl,rfl,rfl,rfl,trivial⟩ ⟨M7.step E XM7,(by exact Ba),hkeep,hu⟩
       ·
        have h4:=of_decide_eq_false h4;have hdone:zuk s=true:=decide_eq_true (by omega);rw[yp hdone] at hu;refine zx ?_;exact zt s ⟨rfl,rfl,rfl,rfl,rfl,rfl,trivial⟩ ⟨M5.step E XM5,(by exact Ba),hu⟩
      ·
       have LTa:=(ze Ba.lt);clear Ba;rintro s w6 ⟨M5,Ba,hs⟩;replace E:=E.trans M5;replace HF:=HF.on E;replace M1:=M1.step E XM1;replace M3:=M3.step E XM3;replace E:=erx (Mut [(some ga)]) w6;obtain ⟨hR1,hR2⟩:=fbR_ends ht hpos (by omega);have hLs:=qwz hR1 hR2;refine stp ?_;replace HF:=HF.on E;replace M1:=M1.step E XM1;replace M3:=M3.step E XM3;replace E:=erx (Mut [(some ga)]) w6;refine yh (ι:=FbS) (fun s=>[(0,.pointer (some ⟨ga,0,none⟩)),(1,.pointer (some ⟨8,0,none⟩)),(4,.int .u64 0),(5,.bool false),(6,.int .i64 s.e),(7,.int .u64 0)]) (fun s w'=>Ext (Mut [(some ga)]) w6 w'∧Blk w' ga 229 (yj s.t)∧(s=fbL t)) ?_ ?_
       ·
        have M16:=erx (Mut [(some ga)]) w6;have XM16:=grx (Mut [(some ga)]) w6;refine stp ?_;replace HF:=HF.on E;replace M16:=M16.step E XM16;replace E:=erx (Mut [(some ga)]) w6;refine yw (ι:=FbS) (fun s=>[(0,.pointer (some ⟨ga,0,none⟩)),(1,.pointer (some ⟨8,0,none⟩)),(4,.int .u64 0),(5,.bool false),(6,.int .i64 s.e),(7,.int .u64 0)]) (fun s w'=>Ext (Mut [(some ga)]) w6 w'∧Blk w' ga 229 (yj s.t)∧(FbLI s∧qk yez zuq s=fbL t)) (fun s=>msL s.t) s ⟨rfl,rfl,rfl,rfl,rfl,rfl,trivial⟩ ⟨Ext.refl _ _,(by exact Ba),by rw[hs];exact hLs,by rw[hs];rfl⟩ ?_;have LTa:=(ze Ba.lt);clear Ba;rintro s w19 ⟨M18,Ba,⟨hI,hu⟩⟩;have XM18:Gro (Mut [(some ga)]) (Mut [(some ga)]) w6:=(Mut.grow Mut.none_ (fun k e=>Or.inl (Mut.head k e)));replace E:=E.trans M18;replace HF:=HF.on E;replace M16:=M16.step E XM16;replace E:=erx (Mut [(some ga)]) w19;have hls:=hI.dec.len;have hsd:=hI.dp;have hse:=hI.e;have hsp:=hI.pos;have hsg:=hI.dec.dig 0 hsp;refine zm ?_;replace HF:=HF.on E;replace M16:=M16.step E XM16;replace M18:=M18.step E XM18;replace E:=erx (Mut [(some ga)]) w19;refine yh (ι:=Bool) (fun g=>[(0,.pointer (some ⟨ga,0,none⟩)),(1,.pointer (some ⟨8,0,none⟩)),(4,.int .u64 0),(5,.bool false),(6,.int .i64 s.e),(7,.int .u64 0),(80,.bool g)]) (fun g w'=>Ext (Mut [(some ga)]) w19 w'∧Blk w' ga 229 (yj s.t)∧(g=decide (s.t.dp<0∨(s.t.dp=0∧dg s.t.d 0<53)))) ?_ ?_
        ·
         have M20:=erx (Mut [(some ga)]) w19;have XM20:=grx (Mut [(some ga)]) w19;refine zx ?_;refine za rfl (ye Tryz.underlying3 rfl rfl Ba (dpAt hls s.t.dp rfl) (zm ?_));refine zj 66 rfl (fun h4=>?_) (fun h4=>?_)
         ·
          have h4:=of_decide_eq_true h4;refine ky ?_;exact zt true ⟨rfl,rfl,rfl,rfl,rfl,rfl,rfl,trivial⟩ ⟨M20.step E XM20,(by exact Ba),(decide_eq_true (.inl h4)).symm⟩
         ·
          have h4:=of_decide_eq_false h4;refine zn ?_;refine onx rfl (ye Tryz.underlying3 rfl rfl Ba (dpAt hls s.t.dp rfl) (zm ?_));refine zj 72 rfl (fun h5=>?_) (fun h5=>?_)
          ·
           have h5:=eq_of_beq h5;refine zn ?_;refine onx rfl (ziq (j:=0) u227 sz5 rfl rfl rfl (by decide) (onx rfl (ye u5 rfl rfl Ba (dAt hls (dg s.t.d 0) 0 rfl (by decide)) (zx ?_))));refine zq 80 (.bool (decide (s.t.dp<0∨(s.t.dp=0∧dg s.t.d 0<53)))) rfl (kb (by omega)) ?_;exact zt (decide (s.t.dp<0∨(s.t.dp=0∧dg s.t.d 0<53))) ⟨rfl,rfl,rfl,rfl,rfl,rfl,rfl,trivial⟩ ⟨M20.step E XM20,(by exact Ba),rfl⟩
          ·
           have h5:¬s.t.dp=0:=fun e=>absurd h5 (by rw[e];decide);refine qd ?_;exact zt false ⟨rfl,rfl,rfl,rfl,rfl,rfl,rfl,trivial⟩ ⟨M20.step E XM20,(by exact Ba),(decide_eq_false (by omega)).symm⟩
        ·
         have LTa:=(ze Ba.lt);clear Ba;rintro g w21 ⟨M20,Ba,hgg⟩;replace E:=E.trans M20;replace HF:=HF.on E;replace M16:=M16.step E XM16;replace M18:=M18.step E XM18;replace E:=erx (Mut [(some ga)]) w21;refine zg rfl (fun h4=>?_) (fun h4=>?_)
         ·
          rw[hgg] at h4;have h4:=of_decide_eq_true h4;have hdone:yez s=false:=decide_eq_false (fun h=>h h4);obtain ⟨hkeep,hms⟩:=qwq hI hdone;obtain ⟨P,hP⟩:∃P,P=pt (-s.t.dp).toNat:=⟨_,rfl⟩;have hP1:=pt_le (-s.t.dp).toNat;have hP2:=pt_shl (-s.t.dp).toNat;have hst:zuq s= ⟨vk s.t P,s.e-((P:Nat):Int)⟩:=by rw[hP];rfl
          rw[←hP] at hP1 hP2;rw[qp hdone] at hu;rw[hst] at hu hkeep hms;refine zz ?_;replace HF:=HF.on E;replace M18:=M18.step E XM18;replace E:=erx (Mut [(some ga)]) w21;refine yh (ι:=Bool) (fun g=>[(0,.pointer (some ⟨ga,0,none⟩)),(1,.pointer (some ⟨8,0,none⟩)),(4,.int .u64 0),(5,.bool false),(6,.int .i64 s.e),(7,.int .u64 0),(9,.int .i64 0),(88,.bool g)]) (fun g w'=>Ext (Mut [(some ga)]) w21 w'∧Blk w' ga 229 (yj s.t)∧(g=decide (9≤0-s.t.dp))) ?_ ?_
          ·
           have M22:=erx (Mut [(some ga)]) w21;have XM22:=grx (Mut [(some ga)]) w21;have OY:∀q9,(Mut (xz [])) q9→q9<(World.drew w21).heap.size→(Mut [(some ga)]) q9:=fun k h _=>(Mut.none_) k h;refine qm (Mut [(some ga)]) (Mut.grow Mut.none_ (ze Ba.lt)) [] [] (zcx [Fx.of (.pointer (some ⟨ga,0,none⟩)),
            Fx.of (.pointer (some ⟨ga,0,none⟩)),
            Fx.of (.pointer (some ⟨ga,801,none⟩)),
            Fx.of (.int .i64 s.t.dp),
            Fx.of (.int .i64 (0-s.t.dp)),
            Fx.of (.slice (some ⟨bp,op,none⟩) 9 cp),
            Fx.of (.int .i64 9),
            Fx.of (.bool (decide (9≤(0-s.t.dp))))]) mixed rfl trivial (fun _ h=>by cases h) ?_ ?_
           · refine ⟨arm,arm,arm,?_,?_,?_,arm,arm,trivial⟩
             · exact dqz39
             · exact dqz148
             · intro vs X wq K;exact dqz48
           intro vs w24 LE AO AL AF AA;have LBa:=Ba;replace Ba:=Ba.drew.extN LE NotIn.nil;replace E:=E.drew.trans (LE.mono OY);obtain ⟨_,e7,k7⟩:=AL.2.2.2.2.2.2.2.1;refine ja (τ:=[(0,_),(1,_),(4,_),(5,_),(6,_),(7,_),(9,_),(88,.bool (decide (9≤(0-s.t.dp))))]) ⟨rfl,rfl,rfl,rfl,rfl,rfl,rfl,congrArg some e7,trivial⟩ ?_;clear AL AF AA LE AO OY e7 k7 LBa;exact zt (decide (9≤0-s.t.dp)) ⟨rfl,rfl,rfl,rfl,rfl,rfl,rfl,rfl,trivial⟩ ⟨M22.step E XM22,(by exact Ba),rfl⟩
          ·
           have LTa:=(ze Ba.lt);clear Ba;rintro g w23 ⟨M22,Ba,hg2⟩;replace E:=E.trans M22;replace HF:=HF.on E;replace M18:=M18.step E XM18;replace E:=erx (Mut [(some ga)]) w23;replace HF:=HF.on E;replace M18:=M18.step E XM18;replace E:=erx (Mut [(some ga)]) w23;refine yh (ι:=Unit) (fun _=>[(0,.pointer (some ⟨ga,0,none⟩)),(1,.pointer (some ⟨8,0,none⟩)),(4,.int .u64 0),(5,.bool false),(6,.int .i64 s.e),(7,.int .u64 0),(9,.int .i64 ((P:Nat):Int))]) (fun _ w'=>Ext (Mut [(some ga)]) w23 w'∧Blk w' ga 229 (yj s.t)∧(True)) ?_ ?_
           ·
            have M25:=erx (Mut [(some ga)]) w23;have XM25:=grx (Mut [(some ga)]) w23;refine zg rfl (fun h5=>?_) (fun h5=>?_)
            ·
             rw[hg2] at h5;have h5:=of_decide_eq_true h5;have e:P=27:=by rw[hP];exact pt_far (by omega)
             refine zn ?_;refine zq 9 (.int .i64 ((P:Nat):Int)) rfl ((by rw[e];rfl:(.int .i64 27:Value)=_)) ?_;exact dqz142
            ·
             rw[hg2] at h5;have h5:=of_decide_eq_false h5;have OY:∀q9,(Mut (xz [])) q9→q9<(World.drew w23).heap.size→(Mut [(some ga)]) q9:=fun k h _=>(Mut.none_) k h;refine qm (Mut [(some ga)]) (Mut.grow Mut.none_ (ze Ba.lt)) [] [] (zcx [Fx.of (.slice (some ⟨bp,op,none⟩) 9 cp),
              Fx.of (.pointer (some ⟨ga,0,none⟩)),
              Fx.of (.pointer (some ⟨ga,0,none⟩)),
              Fx.of (.pointer (some ⟨ga,801,none⟩)),
              Fx.of (.int .i64 s.t.dp),
              Fx.of (.int .i64 (0-s.t.dp)),
              Fx.of (.pointer (some ⟨bp,op+(-s.t.dp).toNat*1,none⟩)),
              Fx.of (.int .i64 ((pt (-s.t.dp).toNat:Nat):Int)),
              Fx.of (.int .i64 ((pt (-s.t.dp).toNat:Nat):Int))]) mixed rfl trivial (fun _ h=>by cases h) ?_ ?_
             · refine ⟨?_,arm,arm,arm,?_,?_,?_,?_,arm,trivial⟩
               · intro vs X wq K;exact dqz48
               · exact dqz39
               · exact dqz148
               · refine qq ?_;intro vs X wq K;exact jy (j:=(-s.t.dp).toNat) u155 sz3 rfl rfl (by omega) (by omega) ⟨Below.refl _ _,Left.of rfl⟩
               · refine qq ?_;exact dqz86
             intro vs w27 LE AO AL AF AA;have LBa:=Ba;replace Ba:=Ba.drew.extN LE NotIn.nil;replace E:=E.drew.trans (LE.mono OY);obtain ⟨_,e8,k8⟩:=AL.2.2.2.2.2.2.2.2.1;refine ja (τ:=[(0,_),(1,_),(4,_),(5,_),(6,_),(7,_),(9,.int .i64 ((pt (-s.t.dp).toNat:Nat):Int))]) ⟨rfl,rfl,rfl,rfl,rfl,rfl,congrArg some e8,trivial⟩ ?_;clear AL AF AA LE AO OY e8 k8 LBa;refine zq 9 (.int .i64 ((P:Nat):Int)) rfl ((by rw[hP]:(.int .i64 ((pt (-s.t.dp).toNat:Nat):Int):Value)=_)) ?_;exact dqz142
           ·
            have LTa:=(ze Ba.lt);clear Ba;rintro _ w26 ⟨M25,Ba,_⟩;replace E:=E.trans M25;replace HF:=HF.on E;replace M18:=M18.step E XM18;replace E:=erx (Mut [(some ga)]) w26;refine zx ?_;refine za rfl (zb en241 rfl ((shiftL_any _ ga P s.t hP2 hI.dec hsp (by omega) Ba (HF.on E).here.1.1.1.2 hg).mono ?_));rintro e w28 ⟨rfl,hB,hE⟩;refine ⟨_,rfl,?_⟩;replace Ba:=hB;clear hB;replace E:=E.step1 hE Mut.head;clear hE;refine zu ?_;refine yl ?_;refine zn ?_;exact zo (⟨vk s.t P,s.e-((P:Nat):Int)⟩) (hms) ⟨rfl,rfl,rfl,rfl,rfl,rfl,trivial⟩ ⟨M18.step E XM18,(by exact Ba),hkeep,hu⟩
         ·
          rw[hgg] at h4;have h4:=of_decide_eq_false h4;have hdone:yez s=true:=decide_eq_true h4;rw[yp hdone] at hu;refine zx ?_;exact zt s ⟨rfl,rfl,rfl,rfl,rfl,rfl,trivial⟩ ⟨M16.step E XM16,(by exact Ba),hu⟩
       ·
        have LTa:=(ze Ba.lt);clear Ba;rintro s w17 ⟨M16,Ba,hs2⟩;replace E:=E.trans M16;replace HF:=HF.on E;replace M1:=M1.step E XM1;replace M3:=M3.step E XM3;replace E:=erx (Mut [(some ga)]) w17;clear hs;obtain ⟨hL1,_⟩:=fbL_ends ht hpos (by omega);rw[←hs2] at hL1 hfb0;have hls:=hL1.dec.len;have hsd:=hL1.dp;have hse:=hL1.e;have hsp:=hL1.pos;have hms:0≤((msL s.t:Nat):Int):=by omega
        have hng0:s.t.neg=t.neg:=by rw[hs2];exact fbL_neg ht hpos (by omega)
        refine zn ?_;refine yl ?_;refine yu ?_;refine za rfl (vo (z:=(-1022)) rfl rfl (by kernel_rfl) (zn ?_));replace HF:=HF.on E;replace M1:=M1.step E XM1;replace M3:=M3.step E XM3;replace E:=erx (Mut [(some ga)]) w17;refine yh (ι:=Dec×Int) (fun (t3,e3)=>[(0,.pointer (some ⟨ga,0,none⟩)),(1,.pointer (some ⟨8,0,none⟩)),(4,.int .u64 0),(5,.bool false),(6,.int .i64 e3),(7,.int .u64 0)]) (fun (t3,e3) w'=>Ext (Mut [(some ga)]) w17 w'∧Blk w' ga 229 (yj t3)∧(zfk t=(if 1024≤e3 then (0,2047,true) else vbk (vk t3 53) e3)∧DecI t3∧0<t3.nd∧(-11000000≤t3.dp∧t3.dp≤1000000)∧(-1022≤e3∧e3≤90000)∧t3.neg=t.neg)) ?_ ?_
        ·
         have M29:=erx (Mut [(some ga)]) w17;have XM29:=grx (Mut [(some ga)]) w17;refine zg rfl (fun h4=>?_) (fun h4=>?_)
         ·
          have h4:=of_decide_eq_true h4;have hSh:ShI ⟨s.t,(-1022-(s.e-1)).toNat⟩:=⟨hL1.dec,hsp,by show 1≤(-1022-(s.e-1)).toNat∧(-1022-(s.e-1)).toNat≤300000;omega,by show -10000000+15*(((-1022-(s.e-1)).toNat:Nat):Int)≤s.t.dp∧s.t.dp≤1000000;omega⟩;obtain ⟨hq1,hq2,hq3,hq4⟩:=shrD_keeps hSh;have hq5:(shrD s.t (-1022-(s.e-1)).toNat).neg=t.neg:=by rw[shrD_neg hSh];exact hng0
          have hfe:zfk t=vbk (vk (shrD s.t (-1022-(s.e-1)).toNat) 53) (-1022):=by rw[hfb0];unfold fbMid;rw[if_pos (by omega)]
          refine zl ?_;refine za rfl (vo (z:=(-1022)) rfl rfl (by kernel_rfl) (stp ?_));refine yl ?_;refine zp ?_;refine zjz ?_;refine zf 121 (.int .i64 (-(((-1022-(s.e-1)).toNat:Nat):Int))) rfl (by congr 1;omega) (za rfl (zb en241 rfl ((shiftR_any _ ga (-1022-(s.e-1)).toNat s.t hSh Ba).mono ?_)));rintro e w31 ⟨rfl,hB,hE⟩;refine ⟨_,rfl,?_⟩;replace Ba:=hB;clear hB;replace E:=E.step1 hE Mut.head;clear hE;refine je ?_;refine zq 6 (.int .i64 (-1022)) rfl ((by congr 1;omega:(.int .i64 ((s.e-1)+((-1022)-(s.e-1))):Value)=_)) ?_;exact zt (shrD s.t (-1022-(s.e-1)).toNat,-1022) ⟨rfl,rfl,rfl,rfl,rfl,rfl,trivial⟩ ⟨M29.step E XM29,(by exact Ba),by rw[if_neg (by decide)];exact hfe,hq1,hq2,⟨hq3,hq4⟩,by decide,hq5⟩
         ·
          have h4:=of_decide_eq_false h4;have hfe:zfk t=(if 1024≤s.e-1 then (0,2047,true) else vbk (vk s.t 53) (s.e-1)):=by rw[hfb0];unfold fbMid;rw[if_neg (by omega)]
          refine stp ?_;exact zt (s.t,s.e-1) ⟨rfl,rfl,rfl,rfl,rfl,rfl,trivial⟩ ⟨M29.step E XM29,(by exact Ba),hfe,hL1.dec,hsp,by omega,by omega,hng0⟩
        ·
         have LTa:=(ze Ba.lt);clear Ba;rintro ⟨t3,e3⟩ w30 ⟨M29,Ba,⟨hfb,ht3,hp3,hd3,he3,hn3⟩⟩;replace E:=E.trans M29;replace HF:=HF.on E;replace M1:=M1.step E XM1;replace M3:=M3.step E XM3;replace E:=erx (Mut [(some ga)]) w30;have hl3:=ht3.len;refine zm ?_;replace HF:=HF.on E;replace M1:=M1.step E XM1;replace M3:=M3.step E XM3;replace E:=erx (Mut [(some ga)]) w30;refine yh (ι:=Bool) (fun g=>[(0,.pointer (some ⟨ga,0,none⟩)),(1,.pointer (some ⟨8,0,none⟩)),(4,.int .u64 0),(5,.bool false),(6,.int .i64 e3),(7,.int .u64 0),(138,.bool g)]) (fun g w'=>Ext (Mut [(some ga)]) w30 w'∧Blk w' ga 229 (yj t3)∧(g=decide (1024≤e3))) ?_ ?_
         ·
          have M32:=erx (Mut [(some ga)]) w30;have XM32:=grx (Mut [(some ga)]) w30;have OY:∀q9,(Mut (xz [])) q9→q9<(World.drew w30).heap.size→(Mut [(some ga)]) q9:=fun k h _=>(Mut.none_) k h;refine qm (Mut [(some ga)]) (Mut.grow Mut.none_ (ze Ba.lt)) [] [] (zcx [Fx.of (.int .i64 e3),
           Fx.of (.pointer (some ⟨8,0,none⟩)),
           Fx.of (.pointer (some ⟨8,0,none⟩)),
           Fx.of (.pointer (some ⟨8,2,none⟩)),
           Fx.of (.int .i64 (-1023)),
           Fx.of (.int .i64 (e3-(-1023))),
           Fx.of (.pointer (some ⟨8,0,none⟩)),
           Fx.of (.pointer (some ⟨8,0,none⟩)),
           Fx.of (.pointer (some ⟨8,1,none⟩)),
           Fx.of (.int .u64 11),
           Fx.of (.int .i64 2048),
           Fx.of (.int .i64 2047),
           Fx.of (.bool (decide (1024≤e3)))]) mixed rfl trivial (fun _ h=>by cases h) ?_ ?_
          · exact dqz32
          intro vs w34 LE AO AL AF AA;have LBa:=Ba;replace Ba:=Ba.drew.extN LE NotIn.nil;replace E:=E.drew.trans (LE.mono OY);obtain ⟨_,e12,k12⟩:=AL.2.2.2.2.2.2.2.2.2.2.2.2.1;refine ja (τ:=[(0,_),(1,_),(4,_),(5,_),(6,_),(7,_),(138,.bool (decide (1024≤e3)))]) ⟨rfl,rfl,rfl,rfl,rfl,rfl,congrArg some e12,trivial⟩ ?_;clear AL AF AA LE AO OY e12 k12 LBa;exact zt (decide (1024≤e3)) ⟨rfl,rfl,rfl,rfl,rfl,rfl,rfl,trivial⟩ ⟨M32.step E XM32,(by exact Ba),rfl⟩
         ·
          have LTa:=(ze Ba.lt);clear Ba;rintro g w33 ⟨M32,Ba,hgg⟩;replace E:=E.trans M32;replace HF:=HF.on E;replace M1:=M1.step E XM1;replace M3:=M3.step E XM3;replace E:=erx (Mut [(some ga)]) w33;refine zg rfl (fun h4=>?_) (fun h4=>?_)
          ·
           rw[hgg] at h4;have h4:=of_decide_eq_true h4;rw[if_pos h4] at hfb;refine zm ?_;exact yux rfl TLM3 t3 ⟨rfl,rfl,trivial⟩ ⟨M3.step E XM3,(by exact Ba),hfb,hl3,hn3⟩
          ·
           rw[hgg] at h4;have h4:=of_decide_eq_false h4;rw[if_neg h4] at hfb;obtain ⟨hq1,hq2,hq3,hq4,_,hq5⟩:=ydz ht3 hp3 (.inr (.inr (.inr (.inr (.inr (.inr (.inr (.inr (.inr (.inr rfl))))))))):Shl 53);have hl5:=hq1.len;have hn5:(vk t3 53).neg=t.neg:=hq5.trans hn3;obtain ⟨M,hM⟩:∃M,M=zdv (vk t3 53):=⟨_,rfl⟩;have hM64:M<18446744073709551616:=by rw[hM];exact roundD_lt _
           unfold vbk at hfb;rw[←hM] at hfb;refine qd ?_;refine za rfl (vo (z:=53) rfl rfl (by kernel_rfl) (za rfl (jp (z:=53) Tryz.underlying3 u87 rfl (by kernel_rfl) (za rfl (zb en241 rfl ((shiftL_any _ ga 53 t3 (.inr (.inr (.inr (.inr (.inr (.inr (.inr (.inr (.inr (.inr rfl)))))))))) ht3 hp3 (by omega) Ba (HF.on E).here.1.1.1.2 hg).mono ?_))))));rintro e w35 ⟨rfl,hB,hE⟩;refine ⟨_,rfl,?_⟩;replace Ba:=hB;clear hB;replace E:=E.step1 hE Mut.head;clear hE;refine zu ?_;refine za rfl (zb en258 rfl ((rinteger_any _ ga (vk t3 53) hq1 (by omega) Ba).mono ?_));rintro e w36 ⟨rfl,hb⟩;refine ⟨_,rfl,?_⟩;have Ec:=Ext.of_below hb No;replace Ba:=Ba.extN Ec NotIn.nil;replace E:=E.trans Ec.no;refine zf 148 (.int .u64 ((M:Nat):Int)) rfl (by rw[hM]<;>rfl) (yu ?_);refine za rfl (gq (z:=9007199254740992) rfl rfl (by decide) (by kernel_rfl) (zn ?_));refine zg rfl (fun h5=>?_) (fun h5=>?_)
           ·
            have h5:M=9007199254740992:=by have h5:=eq_of_beq h5;omega
            rw[if_pos h5] at hfb;refine zd 7 (.int .u64 9007199254740992) rfl (by rw[h5];rfl) (zn ?_);refine za rfl (jh (z:=4503599627370496) rfl rfl (by decide) (by kernel_rfl) (zl ?_));refine yo ?_;refine zx ?_;replace HF:=HF.on E;replace M1:=M1.step E XM1;replace M3:=M3.step E XM3;replace E:=erx (Mut [(some ga)]) w36;refine yh (ι:=Bool) (fun g=>[(0,.pointer (some ⟨ga,0,none⟩)),(1,.pointer (some ⟨8,0,none⟩)),(4,.int .u64 0),(5,.bool false),(6,.int .i64 (e3+1)),(7,.int .u64 4503599627370496),(172,.bool g)]) (fun g w'=>Ext (Mut [(some ga)]) w36 w'∧Blk w' ga 229 (yj (vk t3 53))∧(g=decide (1023≤e3))) ?_ ?_
            ·
             have M37:=erx (Mut [(some ga)]) w36;have XM37:=grx (Mut [(some ga)]) w36;have OY:∀q9,(Mut (xz [])) q9→q9<(World.drew w36).heap.size→(Mut [(some ga)]) q9:=fun k h _=>(Mut.none_) k h;refine qm (Mut [(some ga)]) (Mut.grow Mut.none_ (ze Ba.lt)) [] [] (zcx [Fx.of (.int .i64 (e3+1)),
              Fx.of (.pointer (some ⟨8,0,none⟩)),
              Fx.of (.pointer (some ⟨8,0,none⟩)),
              Fx.of (.pointer (some ⟨8,2,none⟩)),
              Fx.of (.int .i64 (-1023)),
              Fx.of (.int .i64 ((e3+1)-(-1023))),
              Fx.of (.pointer (some ⟨8,0,none⟩)),
              Fx.of (.pointer (some ⟨8,0,none⟩)),
              Fx.of (.pointer (some ⟨8,1,none⟩)),
              Fx.of (.int .u64 11),
              Fx.of (.int .i64 2048),
              Fx.of (.int .i64 2047),
              Fx.of (.bool (decide (1023≤e3)))]) mixed rfl trivial (fun _ h=>by cases h) ?_ ?_
             · exact dqz32
             intro vs w39 LE AO AL AF AA;have LBa:=Ba;replace Ba:=Ba.drew.extN LE NotIn.nil;replace E:=E.drew.trans (LE.mono OY);obtain ⟨_,e12,k12⟩:=AL.2.2.2.2.2.2.2.2.2.2.2.2.1;refine ja (τ:=[(0,_),(1,_),(4,_),(5,_),(6,_),(7,_),(172,.bool (decide (1023≤e3)))]) ⟨rfl,rfl,rfl,rfl,rfl,rfl,congrArg some e12,trivial⟩ ?_;clear AL AF AA LE AO OY e12 k12 LBa;exact zt (decide (1023≤e3)) ⟨rfl,rfl,rfl,rfl,rfl,rfl,rfl,trivial⟩ ⟨M37.step E XM37,(by exact Ba),rfl⟩
            ·
             have LTa:=(ze Ba.lt);clear Ba;rintro g w38 ⟨M37,Ba,hg3⟩;replace E:=E.trans M37;replace HF:=HF.on E;replace M1:=M1.step E XM1;replace M3:=M3.step E XM3;replace E:=erx (Mut [(some ga)]) w38;refine zg rfl (fun h6=>?_) (fun h6=>?_)
             ·
              rw[hg3] at h6;have h6:=of_decide_eq_true h6;rw[if_pos h6] at hfb;refine zm ?_;exact yux rfl TLM3 (vk t3 53) ⟨rfl,rfl,trivial⟩ ⟨M3.step E XM3,(by exact Ba),hfb,hl5,hn5⟩
             ·
              rw[hg3] at h6;have h6:=of_decide_eq_false h6;rw[if_neg h6] at hfb;obtain ⟨Kx,hK⟩:∃Kx,Kx=(e3+1+1023).toNat:=⟨_,rfl⟩;rw[←hK] at hfb;refine zx ?_;refine zd 7 (.int .u64 ((4503599627370496:Nat):Int)) rfl (rfl) (zl ?_);refine qdz ?_;refine za rfl (gf rfl rfl (and_hi (m:=4503599627370496) (by decide)) (zn ?_));refine zd 180 (.bool false) rfl (by rw[vm (by decide +kernel)]<;>rfl) (zl ?_);refine zq 6 (.int .i64 (((Kx:Nat):Int)-1023)) rfl ((by congr 1;omega:(.int .i64 (e3+1):Value)=_)) ?_;exact yux rfl TLM1 (4503599627370496,Kx,false,vk t3 53) ⟨rfl,rfl,rfl,rfl,rfl,trivial⟩ ⟨M1.step E XM1,(by exact Ba),hfb,by decide,by omega,hl5,hn5⟩
           ·
            have h5:¬M=9007199254740992:=fun e=>absurd h5 (by rw[e];decide);rw[if_neg h5] at hfb;refine zz ?_;refine qdz ?_;refine za rfl (gf rfl rfl (and_hi hM64) (zn ?_));refine zg rfl (fun h6=>?_) (fun h6=>?_)
            ·
             have h6:M &&& 4503599627370496=0:=by have h6:=eq_of_beq h6;omega
             rw[if_pos h6] at hfb;obtain ⟨Kx,hK⟩:∃Kx:Nat,Kx=0:=⟨_,rfl⟩;rw[←hK] at hfb;refine yu ?_;refine zq 6 (.int .i64 (((Kx:Nat):Int)-1023)) rfl ((by rw[hK];rfl:(.int .i64 (-1023):Value)=_)) ?_;exact dqz113
            ·
             have h6:¬M &&& 4503599627370496=0:=fun e=>absurd h6 (by rw[e];decide);rw[if_neg h6] at hfb;obtain ⟨Kx,hK⟩:∃Kx,Kx=(e3+1023).toNat:=⟨_,rfl⟩;rw[←hK] at hfb;refine zu ?_;refine zq 6 (.int .i64 (((Kx:Nat):Int)-1023)) rfl ((by congr 1;omega:(.int .i64 e3:Value)=_)) ?_;exact dqz113
  ·
   have LTa:=(ze Ba.lt);clear Ba;rintro u w4 ⟨M3,Ba,⟨hfb,hl5,hn5⟩⟩;replace E:=E.trans M3;replace HF:=HF.on E;replace LW:=LW.step E XLW;replace E:=erx (Mut [(some ga)]) w4;refine qd ?_;have OY:∀q9,(Mut (xz [])) q9→q9<(World.drew w4).heap.size→(Mut [(some ga)]) q9:=fun k h _=>(Mut.none_) k h;refine qm (Mut [(some ga)]) (Mut.grow Mut.none_ (ze Ba.lt)) [] [] (zcx [Fx.of (.pointer (some ⟨8,0,none⟩)),
    Fx.of (.pointer (some ⟨8,0,none⟩)),
    Fx.of (.pointer (some ⟨8,1,none⟩)),
    Fx.of (.int .u64 11),
    Fx.of (.int .i64 2048),
    Fx.of (.int .i64 2047),
    Fx.of (.pointer (some ⟨8,0,none⟩)),
    Fx.of (.pointer (some ⟨8,0,none⟩)),
    Fx.of (.pointer (some ⟨8,2,none⟩)),
    Fx.of (.int .i64 (-1023)),
    Fx.of (.int .i64 1024),
    Fx.of (.int .i64 1024)]) mixed rfl trivial (fun _ h=>by cases h) ?_ ?_
   · refine ⟨arm,arm,arm,arm,?_,?_,arm,arm,arm,arm,?_,arm,trivial⟩
     · exact dqz82
     · exact dqz64
     · refine qq ?_;intro vs X wq K;exact vo (z:=1024) rfl rfl (by kernel_rfl) ⟨Below.refl _ _,Left.of rfl⟩
   intro vs w40 LE AO AL AF AA;have LBa:=Ba;replace Ba:=Ba.drew.extN LE NotIn.nil;replace E:=E.drew.trans (LE.mono OY);obtain ⟨_,e11,k11⟩:=AL.2.2.2.2.2.2.2.2.2.2.2.1;refine ja (τ:=[(0,_),(1,_),(6,.int .i64 1024),(7,_)]) ⟨rfl,rfl,congrArg some e11,rfl,trivial⟩ ?_;clear AL AF AA LE AO OY e11 k11 LBa;refine zp ?_;refine cw_label (yi ?_);refine qdz ?_;refine za rfl (jg (z:=4503599627370495) rfl rfl (by kernel_rfl) (qck ?_));refine zx ?_;have OY:∀q9,(Mut (xz [])) q9→q9<(World.drew w40).heap.size→(Mut [(some ga)]) q9:=fun k h _=>(Mut.none_) k h;refine qm (Mut [(some ga)]) (Mut.grow Mut.none_ (ze Ba.lt)) [] [] (zcx [Fx.of (.int .u64 0),
    Fx.of (.int .i64 1024),
    Fx.of (.pointer (some ⟨8,0,none⟩)),
    Fx.of (.pointer (some ⟨8,0,none⟩)),
    Fx.of (.pointer (some ⟨8,2,none⟩)),
    Fx.of (.int .i64 (-1023)),
    Fx.of (.int .i64 2047),
    Fx.of (.pointer (some ⟨8,0,none⟩)),
    Fx.of (.pointer (some ⟨8,0,none⟩)),
    Fx.of (.pointer (some ⟨8,1,none⟩)),
    Fx.of (.int .u64 11),
    Fx.of (.int .i64 2048),
    Fx.of (.int .i64 2047),
    Fx.of (.int .i64 2047),
    Fx.of (.int .u64 2047),
    Fx.of (.pointer (some ⟨8,0,none⟩)),
    Fx.of (.pointer (some ⟨8,0,none⟩)),
    Fx.of (.pointer (some ⟨8,0,none⟩)),
    Fx.of (.int .u64 52),
    Fx.of (.int .u64 9218868437227405312),
    Fx.of (.int .u64 9218868437227405312),
    Fx.of (.int .u64 9218868437227405312)]) mixed rfl trivial (fun _ h=>by cases h) ?_ ?_
   · refine ⟨arm,arm,arm,arm,arm,arm,?_,arm,arm,arm,arm,?_,?_,?_,?_,arm,arm,arm,arm,?_,?_,arm,trivial⟩
     · exact dqz64
     · exact dqz82
     · exact dqz64
     · refine qq ?_;intro vs X wq K;exact gf (z:=2047) rfl rfl (by kernel_rfl) ⟨Below.refl _ _,Left.of rfl⟩
     · refine qq ?_;intro vs X wq K;exact jp (z:=2047) u25 Tryz.underlying3 rfl (by kernel_rfl) ⟨Below.refl _ _,Left.of rfl⟩
     · refine qq ?_;intro vs X wq K;exact gq (z:=9218868437227405312) rfl rfl (by decide) (by kernel_rfl) ⟨Below.refl _ _,Left.of rfl⟩
     · refine qq ?_;intro vs X wq K;exact zaz (z:=9218868437227405312) rfl rfl (by kernel_rfl) ⟨Below.refl _ _,Left.of rfl⟩
   intro vs w41 LE AO AL AF AA;have LBa:=Ba;replace Ba:=Ba.drew.extN LE NotIn.nil;replace E:=E.drew.trans (LE.mono OY);obtain ⟨_,e21,k21⟩:=AL.2.2.2.2.2.2.2.2.2.2.2.2.2.2.2.2.2.2.2.2.2.1;refine ja (τ:=[(0,_),(1,_),(5,_),(11,.int .u64 9218868437227405312)]) ⟨rfl,rfl,rfl,congrArg some e21,trivial⟩ ?_;clear AL AF AA LE AO OY e21 k21 LBa;refine zp ?_;refine za rfl (ye u4 rfl rfl Ba (ngAt hl5 t.neg hn5) (zm ?_));refine zg rfl (fun hng=>?_) (fun hng=>?_)
   ·
    have OY:∀q9,(Mut (xz [])) q9→q9<(World.drew w41).heap.size→(Mut [(some ga)]) q9:=fun k h _=>(Mut.none_) k h;refine qm (Mut [(some ga)]) (Mut.grow Mut.none_ (ze Ba.lt)) [] [] (zcx [Fx.of (.int .u64 9218868437227405312),
     Fx.of (.pointer (some ⟨8,0,none⟩)),
     Fx.of (.pointer (some ⟨8,0,none⟩)),
     Fx.of (.pointer (some ⟨8,0,none⟩)),
     Fx.of (.int .u64 52),
     Fx.of (.int .u64 4503599627370496),
     Fx.of (.pointer (some ⟨8,0,none⟩)),
     Fx.of (.pointer (some ⟨8,0,none⟩)),
     Fx.of (.pointer (some ⟨8,1,none⟩)),
     Fx.of (.int .u64 11),
     Fx.of (.int .u64 9223372036854775808),
     Fx.of (.int .u64 18442240474082181120),
     Fx.of (.int .u64 18442240474082181120)]) mixed rfl trivial (fun _ h=>by cases h) ?_ ?_
    · refine ⟨arm,arm,arm,arm,arm,?_,arm,arm,arm,arm,?_,?_,arm,trivial⟩
      · exact dqz125
      · exact dqz123
      · refine qq ?_;intro vs X wq K;exact zaz (z:=18442240474082181120) rfl rfl (by kernel_rfl) ⟨Below.refl _ _,Left.of rfl⟩
    intro vs w42 LE AO AL AF AA;have LBa:=Ba;replace Ba:=Ba.drew.extN LE NotIn.nil;replace E:=E.drew.trans (LE.mono OY);obtain ⟨_,e12,k12⟩:=AL.2.2.2.2.2.2.2.2.2.2.2.2.1;refine ja (τ:=[(5,_),(11,.int .u64 18442240474082181120)]) ⟨rfl,congrArg some e12,trivial⟩ ?_;clear AL AF AA LE AO OY e12 k12 LBa;refine zz ?_;refine od ?_;have e:ztx t=18442240474082181120:=by unfold ztx;rw[hfb,hng];decide +kernel
    exact dqz93
   ·
    refine yu ?_;refine od ?_;have e:ztx t=9218868437227405312:=by unfold ztx;rw[hfb,hng];decide +kernel
    exact dqz93
 ·
  have LTa:=(ze Ba.lt);clear Ba;rintro ⟨m,k,ov,u⟩ w2 ⟨M1,Ba,⟨hfb,hmm,hee,hl5,hn5⟩⟩;replace E:=E.trans M1;replace HF:=HF.on E;replace LW:=LW.step E XLW;replace E:=erx (Mut [(some ga)]) w2;refine zz ?_;refine qdz ?_;refine za rfl (jg (z:=4503599627370495) rfl rfl (by kernel_rfl) (za rfl (gf rfl rfl (and_lo hmm) (zx ?_))));have OY:∀q9,(Mut (xz [])) q9→q9<(World.drew w2).heap.size→(Mut [(some ga)]) q9:=fun k h _=>(Mut.none_) k h;refine qm (Mut [(some ga)]) (Mut.grow Mut.none_ (ze Ba.lt)) [] [] (zcx [Fx.of (.int .u64 ((m &&& 4503599627370495:Nat):Int)),
   Fx.of (.int .i64 (((k:Nat):Int)-1023)),
   Fx.of (.pointer (some ⟨8,0,none⟩)),
   Fx.of (.pointer (some ⟨8,0,none⟩)),
   Fx.of (.pointer (some ⟨8,2,none⟩)),
   Fx.of (.int .i64 (-1023)),
   Fx.of (.int .i64 ((k:Nat):Int)),
   Fx.of (.pointer (some ⟨8,0,none⟩)),
   Fx.of (.pointer (some ⟨8,0,none⟩)),
   Fx.of (.pointer (some ⟨8,1,none⟩)),
   Fx.of (.int .u64 11),
   Fx.of (.int .i64 2048),
   Fx.of (.int .i64 2047),
   Fx.of (.int .i64 ((k:Nat):Int)),
   Fx.of (.int .u64 ((k:Nat):Int)),
   Fx.of (.pointer (some ⟨8,0,none⟩)),
   Fx.of (.pointer (some ⟨8,0,none⟩)),
   Fx.of (.pointer (some ⟨8,0,none⟩)),
   Fx.of (.int .u64 52),
   Fx.of (.int .u64 ((k*4503599627370496:Nat):Int)),
   Fx.of (.int .u64 ((zoz m k:Nat):Int)),
   Fx.of (.int .u64 ((zoz m k:Nat):Int))]) mixed rfl trivial (fun _ h=>by cases h) ?_ ?_
  · refine ⟨arm,arm,arm,arm,arm,arm,?_,arm,arm,arm,arm,?_,?_,?_,?_,arm,arm,arm,arm,?_,?_,arm,trivial⟩
    · refine qq ?_;intro vs X wq K;exact jg rfl rfl (yx (by omega)) ⟨Below.refl _ _,Left.of ((by congr 1;omega:(.int .i64 ((((k:Nat):Int)-1023)-(-1023)):Value)=_))⟩
    · exact dqz82
    · exact dqz64
    · refine qq ?_;intro vs X wq K;exact gf rfl rfl (and_i2047 hee) ⟨Below.refl _ _,Left.of rfl⟩
    · refine qq ?_;intro vs X wq K;exact jp u25 Tryz.underlying3 rfl (wrap_u64 (by omega)) ⟨Below.refl _ _,Left.of rfl⟩
    · refine qq ?_;intro vs X wq K;exact gq rfl rfl (by decide) (shl_52 hee) ⟨Below.refl _ _,Left.of rfl⟩
    · refine qq ?_;intro vs X wq K;exact zaz rfl rfl (slowC_or hee) ⟨Below.refl _ _,Left.of rfl⟩
  intro vs w43 LE AO AL AF AA;have LBa:=Ba;replace Ba:=Ba.drew.extN LE NotIn.nil;replace E:=E.drew.trans (LE.mono OY);obtain ⟨_,e21,k21⟩:=AL.2.2.2.2.2.2.2.2.2.2.2.2.2.2.2.2.2.2.2.2.2.1;refine ja (τ:=[(0,_),(1,_),(5,_),(11,.int .u64 ((zoz m k:Nat):Int))]) ⟨rfl,rfl,rfl,congrArg some e21,trivial⟩ ?_;clear AL AF AA LE AO OY e21 k21 LBa;refine zp ?_;refine za rfl (ye u4 rfl rfl Ba (ngAt hl5 t.neg hn5) (zm ?_));refine zg rfl (fun hng=>?_) (fun hng=>?_)
  ·
   have OY:∀q9,(Mut (xz [])) q9→q9<(World.drew w43).heap.size→(Mut [(some ga)]) q9:=fun k h _=>(Mut.none_) k h;refine qm (Mut [(some ga)]) (Mut.grow Mut.none_ (ze Ba.lt)) [] [] (zcx [Fx.of (.int .u64 ((zoz m k:Nat):Int)),
    Fx.of (.pointer (some ⟨8,0,none⟩)),
    Fx.of (.pointer (some ⟨8,0,none⟩)),
    Fx.of (.pointer (some ⟨8,0,none⟩)),
    Fx.of (.int .u64 52),
    Fx.of (.int .u64 4503599627370496),
    Fx.of (.pointer (some ⟨8,0,none⟩)),
    Fx.of (.pointer (some ⟨8,0,none⟩)),
    Fx.of (.pointer (some ⟨8,1,none⟩)),
    Fx.of (.int .u64 11),
    Fx.of (.int .u64 9223372036854775808),
    Fx.of (.int .u64 ((zoz m k ||| 9223372036854775808:Nat):Int)),
    Fx.of (.int .u64 ((zoz m k ||| 9223372036854775808:Nat):Int))]) mixed rfl trivial (fun _ h=>by cases h) ?_ ?_
   · refine ⟨arm,arm,arm,arm,arm,?_,arm,arm,arm,arm,?_,?_,arm,trivial⟩
     · exact dqz125
     · exact dqz123
     · refine qq ?_;intro vs X wq K;exact zaz rfl rfl (slowC_neg hee) ⟨Below.refl _ _,Left.of rfl⟩
   intro vs w44 LE AO AL AF AA;have LBa:=Ba;replace Ba:=Ba.drew.extN LE NotIn.nil;replace E:=E.drew.trans (LE.mono OY);obtain ⟨_,e12,k12⟩:=AL.2.2.2.2.2.2.2.2.2.2.2.2.1;refine ja (τ:=[(5,_),(11,.int .u64 ((zoz m k ||| 9223372036854775808:Nat):Int))]) ⟨rfl,congrArg some e12,trivial⟩ ?_;clear AL AF AA LE AO OY e12 k12 LBa;refine zz ?_;refine od ?_;have e:ztx t=zoz m k ||| 9223372036854775808:=by unfold ztx slowB zoz;rw[hfb,if_pos hng]
   exact dqz93
  ·
   refine yu ?_;refine od ?_;have e:ztx t=zoz m k:=by unfold ztx slowB zoz;rw[hfb,if_neg (by rw[hng];decide)]
   exact dqz93
end
end Go.Proofs.YtmnmebdmpigddaaGreatDoor
namespace Go.Proofs.YtmnmebdmpigddaaGreatDoor
open Go.RowKit
theorem stpdq316 {P Q:Prop} (k:Q) (h:(Unit→Q)→P:=by
 intro zK;refine zm ?_;refine onx rfl (yn (j:=k) (b:=bAt s (k)) u9 rfl rfl rfl (qh (by omega)) ?_);exact zK ()):P:=h fun _=>k
theorem stpdq314 {P Q:Prop} (k:Q) (h:(Unit→Q)→P:=by
 intro zK;refine zm ?_;refine onx rfl (yn (j:=y.i) (b:=bAt s (y.i)) u9 rfl rfl rfl (qh (by omega)) ?_);exact zK ()):P:=h fun _=>k
theorem stpdq261 {P Q:Prop} (k:Q) (h:(Unit→Q)→P:=by
 intro zK;refine za rfl (ye Tryz.underlying3 rfl rfl Ba (yiz hlx (x.t.nd) rfl) (zm ?_));refine zk (qr sz3 rfl rfl Ba rfl rfl (in_ hlx (by decide:801<804)) (qrz hlx (x.t.nd:Int)) ?_);exact zK ()):P:=h fun _=>k
theorem stpdq248 {P Q:Prop} (k:Q) (h:(Unit→Q)→P:=by
 intro zK;refine ja (τ:=[(0,_),(1,_),(4,_),(5,_),(6,_),(7,_),(99,.int .u8 ((bAt s x.i:Nat):Int)),(102,.pointer (some ⟨ga,x.t.nd,none⟩))]) ⟨rfl,rfl,rfl,rfl,rfl,rfl,congrArg some e7,congrArg some e10,trivial⟩ ?_;exact zK ()):P:=h fun _=>k
theorem stpdq237 {P Q:Prop} (k:Q) (h:(Unit→Q)→P:=by
 intro zK;refine zm ?_;refine onx rfl (yn (j:=x.i) (b:=bAt s (x.i)) u9 rfl rfl rfl (qh (by omega)) ?_);exact zK ()):P:=h fun _=>k
theorem stpdq222 {P Q:Prop} (k:Q) (h:(Unit→Q)→P:=by
 intro zK;refine zl ?_;refine za rfl (ye Tryz.underlying3 rfl rfl Ba (yiz hly (x.t.nd) rfl) (yo ?_));refine zm ?_;refine zf 107 (.int .i64 ((x.t.nd+1:Nat):Int)) rfl (rfl) (zk (qr sz3 rfl rfl Ba rfl rfl (in_ hly (by decide:800<804)) (set_nd hly (x.t.nd+1)) ?_));exact zK ()):P:=h fun _=>k
theorem zkz {P Q:Prop} (k:Q) (h:(Unit→Q)→P:=by
 intro zK;refine za rfl (yn (j:=x.i) (b:=bAt s (x.i)) u9 rfl rfl rfl (qh (by omega)) ?_);exact zK ()):P:=h fun _=>k
theorem dqz163 {P:Prop} (h:P:=by
 exact zt () ⟨rfl,rfl,rfl,rfl,trivial⟩ ⟨M3.step E XM3,(by exact Ba),trivial⟩):P:=h
theorem dqz155 {P:Prop} (h:P:=by
 exact zt x ⟨rfl,rfl,rfl,rfl,rfl,rfl,trivial⟩ ⟨M6.step E XM6,(by exact Ba),hu⟩):P:=h
theorem dqz30 {P:Prop} (h:P:=by
 refine ⟨arm,arm,arm,arm,?_,arm,arm,?_,arm,arm,?_,trivial⟩
 · refine qq ?_;intro vs X wq K;have LE:=K.1;exact ye Tryz.underlying3 rfl rfl (Ba.drew.extN LE NotIn.nil) (yiz hlx x.t.nd rfl) ⟨Below.refl _ _,Left.of rfl⟩
 · refine qq ?_;intro vs X wq K;exact yn (j:=x.i) (b:=bAt s x.i) u9 rfl rfl rfl (qh (by omega)) ⟨Below.refl _ _,Left.of rfl⟩
 · refine qq ?_;intro vs X wq K;exact vc (j:=x.t.nd) u227 sz5 rfl rfl rfl (by omega) ⟨Below.refl _ _,Left.of rfl⟩):P:=h
theorem dqz18 {P:Prop} (h:P:=by
 replace E:=E.step1 Ea Mut.head;refine zn ?_;refine qa rfl (zu ?_);refine za rfl (vo rfl rfl (yx (by omega)) (zm ?_));refine zq 5 (.int .i64 ((x.i+1:Nat):Int)) rfl (rfl) ?_;exact zo ({ x with i:=x.i+1,dig:=true,t:={ x.t with tr:=true } }) (by show Z-(x.i+1)<Z-x.i;omega) ⟨rfl,rfl,rfl,rfl,rfl,rfl,trivial⟩ ⟨M8.step E XM8,(by exact Ba),hkeep,hu2⟩):P:=h
theorem dqz17 {P:Prop} (h:P:=by
 replace E:=E.step1 Ea Mut.head;refine zn ?_;refine qa rfl (zu ?_);refine za rfl (vo rfl rfl (yx (by omega)) (zm ?_));refine zq 5 (.int .i64 ((x.i+1:Nat):Int)) rfl (rfl) ?_;exact zo ({ x with i:=x.i+1,dig:=true,t:={ x.t with d:=x.t.d.set x.t.nd (bAt s x.i),nd:=x.t.nd+1 } }) (by show Z-(x.i+1)<Z-x.i;omega) ⟨rfl,rfl,rfl,rfl,rfl,rfl,trivial⟩ ⟨M8.step E XM8,(by exact Ba),hkeep,hu2⟩):P:=h
theorem dqz13 {P:Prop} (h:P:=by
 have h6:bAt s x.i=48:=by
  rcases Nat.decEq (bAt s x.i) 48 with h7 | h7
  · rw[bne_iff_ne.2 (by omega)] at h6;cases h6
  · exact h7
 rw[if_neg (fun h=>h h6)] at hst;rw[hst] at hkeep hu2;refine zn ?_;refine qa rfl (zu ?_);refine za rfl (vo rfl rfl (yx (by omega)) (zm ?_));refine zq 5 (.int .i64 ((x.i+1:Nat):Int)) rfl (rfl) ?_;exact zo ({ x with i:=x.i+1,dig:=true,t:={ x.t with tr:=x.t.tr } }) (by show Z-(x.i+1)<Z-x.i;omega) ⟨rfl,rfl,rfl,rfl,rfl,rfl,trivial⟩ ⟨M8.step E XM8,(by exact Ba),hkeep,hu2⟩):P:=h
attribute [local irreducible] OW RS CW EW
theorem putIn {s:ByteArray} {a:StS} (h1:bAt s a.i≠46) (h2:¬(bAt s a.i=48∧a.t.nd=0)) (h3:a.t.nd<800):kz s a= { a with i:=a.i+1,dig:=true,t:={ a.t with d:=a.t.d.set a.t.nd (bAt s a.i),nd:=a.t.nd+1 } }:=by
 unfold kz;rw[if_neg h1,if_neg h2,if_pos h3]
theorem putOut {s:ByteArray} {a:StS} (h1:bAt s a.i≠46) (h2:¬(bAt s a.i=48∧a.t.nd=0)) (h3:¬a.t.nd<800):kz s a= { a with i:=a.i+1,dig:=true,t:={ a.t with tr:=if bAt s a.i≠48 then true else a.t.tr } }:=by
 unfold kz;rw[if_neg h1,if_neg h2,if_neg h3]
theorem pt180_1:Gives 180 #[.int .u8 101] (.int .u8 101):=by
 exact dqz52
section
variable (w:World)
theorem set_any (ga:Nat) (s:ByteArray) (f:Nat) (neg:Bool) {p Z q:Nat} (hsg:SgnAt s f neg) (hs:Nm s f p Z q) (hl:s.size<100000) (hB:Blk w ga 229 (yj (yfq false))) :
 Calls Tryz.prog 222 #[.pointer (some ⟨ga,0,none⟩),.string s] w fun e w'=>e= .returned (.bool true)∧Blk w' ga 229 (yj (setD s f neg))∧Ext (Mut [some ga]) w w':=by
 have hfs:f<s.size:=hs.size;have hfd:=hs.first;have hl0:(yfq false).d.length=800:=(dec0_ok false).len;refine zc Tryz.func222 rfl Tryz.ntmps222 rfl ?_;have Ba:=hB;have LW:=erx (Mut [(some ga)]) w;have XLW:=grx (Mut [(some ga)]) w;have E:=erx (Mut [(some ga)]) w;refine ky ?_;refine zk (qr sz4 rfl rfl Ba rfl rfl (in_ hl0 (by decide:802<804)) (set_neg hl0 false) ?_);intro w1 Bx Ea;replace Ba:Blk w1 ga 229 (yj (yfq false)):=Bx;replace E:=E.step1 Ea Mut.head;refine zp ?_;refine zk (qr sz4 rfl rfl Ba rfl rfl (in_ hl0 (by decide:803<804)) (set_tr hl0 false) ?_);intro w2 Bx Ea;replace Ba:Blk w2 ga 229 (yj (yfq false)):=Bx;replace E:=E.step1 Ea Mut.head;refine zp ?_;refine zy ?_;refine zn ?_;refine zd 19 (.bool false) rfl (by rw[decide_eq_false (by omega)]<;>rfl) (yi ?_);refine qek ?_;refine zm ?_;replace LW:=LW.step E XLW;replace E:=erx (Mut [(some ga)]) w2;refine yh (ι:=Unit) (fun _=>[(0,.pointer (some ⟨ga,0,none⟩)),(1,.string s),(4,.bool false),(5,.int .i64 ((f:Nat):Int))]) (fun _ w'=>Ext (Mut [(some ga)]) w2 w'∧Blk w' ga 229 (yj (yfq neg))∧(True)) ?_ ?_
 ·
  have M3:=erx (Mut [(some ga)]) w2;have XM3:=grx (Mut [(some ga)]) w2;refine zp ?_;by_cases hneg:neg=true
  ·
   obtain ⟨hf1,h45⟩:=hsg.neg hneg;refine zd 23 (.bool false) rfl (by rw[h45];rfl) (zp ?_);refine zd 27 (.bool true) rfl (by rw[h45];rfl) (zx ?_);refine za rfl (vo (z:=1) rfl rfl (by kernel_rfl) (zp ?_));refine zk (qr sz4 rfl rfl Ba rfl rfl (in_ hl0 (by decide:802<804)) (set_neg hl0 true) ?_);intro w5 Bx Ea;replace Ba:Blk w5 ga 229 (yj (yfq true)):=Bx;replace E:=E.step1 Ea Mut.head;refine zm ?_;refine zq 5 (.int .i64 ((f:Nat):Int)) rfl ((by rw[hf1];rfl:(.int .i64 1:Value)=_)) ?_;replace Ba:Blk w5 ga 229 (yj (yfq neg)):=by rw[hneg];exact Ba
   exact dqz163
  ·
   have hf0:=hsg.pos hneg;rw[hf0] at hfd;refine zd 23 (.bool false) rfl (by rw[vm (by omega)]<;>rfl) (zp ?_);refine zd 27 (.bool false) rfl (by rw[vm (by omega)]<;>rfl) (zn ?_);refine zq 5 (.int .i64 ((f:Nat):Int)) rfl ((by rw[hf0];rfl:(.int .i64 0:Value)=_)) ?_;replace Ba:Blk w2 ga 229 (yj (yfq neg)):=by rw[Bool.eq_false_iff.2 hneg];exact Ba
   exact dqz163
 ·
  have LTa:=(ze Ba.lt);clear Ba;rintro _ w4 ⟨M3,Ba,_⟩;replace E:=E.trans M3;replace LW:=LW.step E XLW;replace E:=erx (Mut [(some ga)]) w4;refine yu ?_;replace LW:=LW.step E XLW;replace E:=erx (Mut [(some ga)]) w4;refine yh (ι:=StS) (fun x=>[(0,.pointer (some ⟨ga,0,none⟩)),(1,.string s),(4,.bool false),(5,.int .i64 (x.i:Int)),(6,.bool x.dot),(7,.bool x.dig)]) (fun x w'=>Ext (Mut [(some ga)]) w4 w'∧Blk w' ga 229 (yj x.t)∧(x=stA s f neg)) ?_ ?_
  ·
   have M6:=erx (Mut [(some ga)]) w4;have XM6:=grx (Mut [(some ga)]) w4;refine stp ?_;replace M6:=M6.step E XM6;replace E:=erx (Mut [(some ga)]) w4;refine yw (ι:=StS) (fun x=>[(0,.pointer (some ⟨ga,0,none⟩)),(1,.string s),(4,.bool false),(5,.int .i64 (x.i:Int)),(6,.bool x.dot),(7,.bool x.dig)]) (fun x w'=>Ext (Mut [(some ga)]) w4 w'∧Blk w' ga 229 (yj x.t)∧(StN s f p Z q x∧qk (zgq s) (kz s) x=stA s f neg)) (fun x=>Z-x.i) (⟨f,false,false,yfq neg⟩) ⟨rfl,rfl,rfl,rfl,rfl,rfl,trivial⟩ ⟨Ext.refl _ _,(by exact Ba),qqv neg hs,rfl⟩ ?_;have LTa:=(ze Ba.lt);clear Ba;rintro x w9 ⟨M8,Ba,⟨hI,hu⟩⟩;have XM8:Gro (Mut [(some ga)]) (Mut [(some ga)]) w4:=(Mut.grow Mut.none_ (fun k e=>Or.inl (Mut.head k e)));replace E:=E.trans M8;replace M6:=M6.step E XM6;replace E:=erx (Mut [(some ga)]) w9;have hlx:=hI.dec.len;have hnx:=hI.dec.hn;have hsE:=hs.hE;have hiE:=hI.iE;have hfi:=hI.fi;have hpp:=hI.hp;refine zu ?_;refine zy ?_;refine zn ?_;refine zg rfl (fun h1=>?_) (fun h1=>?_)
   ·
    have h1:x.i<s.size:=by have h1:=of_decide_eq_true h1;omega
    refine zz ?_;refine zkz ?_;by_cases hE2:x.i<Z
    ·
     have hdone:=stN_cont hs hI hE2;have hkeep:=(qrx hs hI hdone).1;have hu2:=hu;rw[qp hdone] at hu2;have hc:=hs.at_ hfi hE2;have hb:=bAt_lt s x.i;refine zx ?_;refine zd 40 (.bool false) rfl (by rw[vm (by omega)]<;>rfl) (zu ?_);refine zkz ?_;refine zx ?_;by_cases hdot:bAt s x.i=46
     ·
      have hstep:kz s x= { x with i:=x.i+1,dot:=true,t:={ x.t with dp:=(x.t.nd:Int) } }:=by unfold kz;rw[if_pos hdot]
      have hnodot:x.dot=false:=by
       rcases hc with ⟨_,h3⟩ | ⟨h3,_⟩
       · omega
       · cases h4:x.dot with
         | false=>rfl
         | true=>have:=hI.dt h4;omega
      rw[hstep] at hkeep hu2;refine zd 45 (.bool true) rfl (by rw[hdot];rfl) (zp ?_);refine zd 50 (.bool false) rfl (by rw[hnodot]<;>rfl) (jm ?_);refine stpdq261 ?_;intro w10 Bx Ea;replace Ba:Blk w10 ga 229 (yj { x.t with dp:=(x.t.nd:Int) }):=Bx;replace E:=E.step1 Ea Mut.head;refine zn ?_;refine qa rfl (je ?_);refine zq 5 (.int .i64 ((x.i+1:Nat):Int)) rfl (rfl) ?_;exact zo ({ x with i:=x.i+1,dot:=true,t:={ x.t with dp:=(x.t.nd:Int) } }) (by show Z-(x.i+1)<Z-x.i;omega) ⟨rfl,rfl,rfl,rfl,rfl,rfl,trivial⟩ ⟨M8.step E XM8,(by exact Ba),hkeep,hu2⟩
     ·
      have hc:48≤bAt s x.i∧bAt s x.i≤57:=by omega
      refine zd 45 (.bool false) rfl (by rw[vm (by omega)]<;>rfl) (zu ?_);refine zkz ?_;refine zm ?_;refine zf 63 (.bool true) rfl (by rw[decide_eq_true (by omega)]<;>rfl) (stpdq237 ?_);refine zu ?_;refine zd 58 (.bool true) rfl (by rw[decide_eq_true (by omega)]<;>rfl) (yu ?_);refine zkz ?_;refine zm ?_;refine zj 73 rfl (fun h3=>?_) (fun h3=>?_)
      ·
       have h3:bAt s x.i=48:=by have h3:=eq_of_beq h3;omega
       refine zn ?_;refine onx rfl (ye Tryz.underlying3 rfl rfl Ba (yiz hlx (x.t.nd) rfl) (zx ?_));refine zg rfl (fun h4=>?_) (fun h4=>?_)
       ·
        have h4:x.t.nd=0:=by have h4:=eq_of_beq h4;omega
        have hstep:kz s x= { x with i:=x.i+1,dig:=true,t:={ x.t with dp:=x.t.dp-1 } }:=by unfold kz;rw[if_neg hdot,if_pos ⟨h3,h4⟩]
        rw[hstep] at hkeep hu2;refine zu ?_;refine za rfl (ye Tryz.underlying3 rfl rfl Ba (dpAt hlx x.t.dp rfl) (yl ?_));refine zm ?_;refine zk (qr sz3 rfl rfl Ba rfl rfl (in_ hlx (by decide:801<804)) (qrz hlx (x.t.dp-1)) ?_);intro w11 Bx Ea;replace Ba:Blk w11 ga 229 (yj { x.t with dp:=x.t.dp-1 }):=Bx;replace E:=E.step1 Ea Mut.head;refine zx ?_;refine qa rfl (je ?_);refine zq 5 (.int .i64 ((x.i+1:Nat):Int)) rfl (rfl) ?_;exact zo ({ x with i:=x.i+1,dig:=true,t:={ x.t with dp:=x.t.dp-1 } }) (by show Z-(x.i+1)<Z-x.i;omega) ⟨rfl,rfl,rfl,rfl,rfl,rfl,trivial⟩ ⟨M8.step E XM8,(by exact Ba),hkeep,hu2⟩
       ·
        have hnz:¬(bAt s x.i=48∧x.t.nd=0):=fun h=>absurd h4 (by rw[h.2];decide);refine yi ?_;refine za rfl (ye Tryz.underlying3 rfl rfl Ba (yiz hlx (x.t.nd) rfl) (zn ?_));refine zg rfl (fun h5=>?_) (fun h5=>?_)
        ·
         have h5:x.t.nd<800:=by have h5:=of_decide_eq_true h5;omega
         have hst:=putIn hdot hnz h5;have hst2:(x.t.d.set x.t.nd (bAt s x.i)).length=800:=by rw[List.length_set];exact hlx
         have hly:({ x.t with d:=x.t.d.set x.t.nd (bAt s x.i) }:Dec).d.length=800:=hst2;rw[hst] at hkeep hu2;refine stp ?_;have OY:∀q9,(Mut (xz [])) q9→q9<(World.drew w9).heap.size→(Mut [(some ga)]) q9:=fun k h _=>(Mut.none_) k h;refine cw_any mixed (ak_cut 11 rfl ?_);refine aw_drawn (Mut [(some ga)]) (Mut.grow Mut.none_ (ze Ba.lt)) [] [] (zcx [Fx.of (.pointer (some ⟨ga,0,none⟩)),
          Fx.of (.pointer (some ⟨ga,0,none⟩)),
          Fx.of (.pointer (some ⟨ga,0,none⟩)),
          Fx.of (.pointer (some ⟨ga,800,none⟩)),
          Fx.of (.int .i64 (x.t.nd:Int)),
          Fx.of (.string s),
          Fx.of (.int .i64 (x.i:Int)),
          Fx.of (.int .u8 ((bAt s x.i:Nat):Int)),
          Fx.of (.pointer (some ⟨ga,0,none⟩)),
          Fx.of (.pointer (some ⟨ga,0,none⟩)),
          Fx.of (.pointer (some ⟨ga,x.t.nd,none⟩))]) rfl trivial (fun _ h=>by cases h) ?_ ?_
         · exact dqz30
         intro vs w12 LE AO AL AF AA;have LBa:=Ba;replace Ba:=Ba.drew.extN LE NotIn.nil;replace E:=E.drew.trans (LE.mono OY);obtain ⟨_,e7,k7⟩:=AL.2.2.2.2.2.2.2.1;obtain ⟨_,e10,k10⟩:=AL.2.2.2.2.2.2.2.2.2.2.1;refine stpdq248 ?_;clear AL AF AA LE AO OY e7 e10 k7 k10 LBa;refine ew_ak (ak_of_rs (by kernel_rfl) (fun _ _ d_ _ _ h=>by cases d_<;>exact h) (ykq ?_));intro w13 Bx Ea;replace Ba:Blk w13 ga 229 (yj { x.t with d:=x.t.d.set x.t.nd (bAt s x.i) }):=Bx;replace E:=E.step1 Ea Mut.head;refine stpdq222 ?_;intro w14 Bx Ea;replace Ba:Blk w14 ga 229 (yj { x.t with d:=x.t.d.set x.t.nd (bAt s x.i),nd:=x.t.nd+1 }):=Bx;exact dqz17
        ·
         have h5:¬x.t.nd<800:=by have h5:=of_decide_eq_false h5;omega
         have hst:=putOut hdot hnz h5;refine zx ?_;refine zkz ?_;refine zn ?_;refine zg rfl (fun h6=>?_) (fun h6=>?_)
         ·
          have h6:bAt s x.i≠48:=fun e=>absurd h6 (by rw[e];decide);rw[if_pos h6] at hst;rw[hst] at hkeep hu2;refine qfx ?_;intro w15 Bx Ea;replace Ba:Blk w15 ga 229 (yj { x.t with tr:=true }):=Bx;exact dqz18
         ·
          exact dqz13
      ·
       have hnz:¬(bAt s x.i=48∧x.t.nd=0):=fun h=>absurd h3 (by rw[h.1];decide);refine zxz ?_;refine za rfl (ye Tryz.underlying3 rfl rfl Ba (yiz hlx (x.t.nd) rfl) (zn ?_));refine zg rfl (fun h5=>?_) (fun h5=>?_)
       ·
        have h5:x.t.nd<800:=by have h5:=of_decide_eq_true h5;omega
        have hst:=putIn hdot hnz h5;have hst2:(x.t.d.set x.t.nd (bAt s x.i)).length=800:=by rw[List.length_set];exact hlx
        have hly:({ x.t with d:=x.t.d.set x.t.nd (bAt s x.i) }:Dec).d.length=800:=hst2;rw[hst] at hkeep hu2;refine stp ?_;have OY:∀q9,(Mut (xz [])) q9→q9<(World.drew w9).heap.size→(Mut [(some ga)]) q9:=fun k h _=>(Mut.none_) k h;refine cw_any mixed (ak_cut 11 rfl ?_);refine aw_drawn (Mut [(some ga)]) (Mut.grow Mut.none_ (ze Ba.lt)) [] [] (zcx [Fx.of (.pointer (some ⟨ga,0,none⟩)),
         Fx.of (.pointer (some ⟨ga,0,none⟩)),
         Fx.of (.pointer (some ⟨ga,0,none⟩)),
         Fx.of (.pointer (some ⟨ga,800,none⟩)),
         Fx.of (.int .i64 (x.t.nd:Int)),
         Fx.of (.string s),
         Fx.of (.int .i64 (x.i:Int)),
         Fx.of (.int .u8 ((bAt s x.i:Nat):Int)),
         Fx.of (.pointer (some ⟨ga,0,none⟩)),
         Fx.of (.pointer (some ⟨ga,0,none⟩)),
         Fx.of (.pointer (some ⟨ga,x.t.nd,none⟩))]) rfl trivial (fun _ h=>by cases h) ?_ ?_
        · exact dqz30
        intro vs w16 LE AO AL AF AA;have LBa:=Ba;replace Ba:=Ba.drew.extN LE NotIn.nil;replace E:=E.drew.trans (LE.mono OY);obtain ⟨_,e7,k7⟩:=AL.2.2.2.2.2.2.2.1;obtain ⟨_,e10,k10⟩:=AL.2.2.2.2.2.2.2.2.2.2.1;refine stpdq248 ?_;clear AL AF AA LE AO OY e7 e10 k7 k10 LBa;refine ew_ak (ak_of_rs (by kernel_rfl) (fun _ _ d_ _ _ h=>by cases d_<;>exact h) (ykq ?_));intro w17 Bx Ea;replace Ba:Blk w17 ga 229 (yj { x.t with d:=x.t.d.set x.t.nd (bAt s x.i) }):=Bx;replace E:=E.step1 Ea Mut.head;refine stpdq222 ?_;intro w18 Bx Ea;replace Ba:Blk w18 ga 229 (yj { x.t with d:=x.t.d.set x.t.nd (bAt s x.i),nd:=x.t.nd+1 }):=Bx;exact dqz17
       ·
        have h5:¬x.t.nd<800:=by have h5:=of_decide_eq_false h5;omega
        have hst:=putOut hdot hnz h5;refine zx ?_;refine zkz ?_;refine zn ?_;refine zg rfl (fun h6=>?_) (fun h6=>?_)
        ·
         have h6:bAt s x.i≠48:=fun e=>absurd h6 (by rw[e];decide);rw[if_pos h6] at hst;rw[hst] at hkeep hu2;refine qfx ?_;intro w19 Bx Ea;replace Ba:Blk w19 ga 229 (yj { x.t with tr:=true }):=Bx;exact dqz18
        ·
         exact dqz13
    ·
     have e:x.i=Z:=by omega
     have hb:bAt s x.i=101:=by rw[e];exact (hs.exp (by omega)).1
     have hdone:zgq s x=true:=by
      unfold zgq;rw[Bool.or_eq_true];right
      rw[hb];rfl
     rw[yp hdone] at hu;refine zx ?_;refine zd 40 (.bool false) rfl (by rw[hb];rfl) (zu ?_);refine zkz ?_;refine zx ?_;refine zd 45 (.bool false) rfl (by rw[hb];rfl) (zu ?_);refine zkz ?_;refine zm ?_;refine zf 63 (.bool true) rfl (by rw[hb];rfl) (stpdq237 ?_);refine zu ?_;refine zd 58 (.bool false) rfl (by rw[hb];rfl) (zu ?_);refine qa rfl (zn ?_);exact dqz155
   ·
    have h1:¬x.i<s.size:=by have h1:=of_decide_eq_false h1;omega
    have hdone:zgq s x=true:=by
     unfold zgq;rw[decide_eq_true (by omega)];rfl
    rw[yp hdone] at hu;refine zx ?_;exact dqz155
  ·
   have LTa:=(ze Ba.lt);clear Ba;rintro x w7 ⟨M6,Ba,hx⟩;replace E:=E.trans M6;replace LW:=LW.step E XLW;replace E:=erx (Mut [(some ga)]) w7;obtain ⟨hR,hRi⟩:=stA_ends neg hs;rw[←hx] at hR hRi;have hfp:=hs.fp;have hpE:=hs.pE;have hsE:=hs.hE;have hdig:x.dig=true:=hR.dg (by omega);have hlx:=hR.dec.len;have hnx:=hR.dec.hn;have hpp:=hR.hp;have hti:=hR.iE;refine zp ?_;refine zd 118 (.bool false) rfl (by rw[hdig];rfl) (zz ?_);replace LW:=LW.step E XLW;replace E:=erx (Mut [(some ga)]) w7;refine yh (ι:=Int) (fun d2=>[(0,.pointer (some ⟨ga,0,none⟩)),(1,.string s),(4,.bool false),(5,.int .i64 (x.i:Int))]) (fun d2 w'=>Ext (Mut [(some ga)]) w7 w'∧Blk w' ga 229 (yj { x.t with dp:=d2 })∧(d2=(if x.dot then x.t.dp else (x.t.nd:Int)))) ?_ ?_
   ·
    have M20:=erx (Mut [(some ga)]) w7;have XM20:=grx (Mut [(some ga)]) w7;by_cases hdd:x.dot=true
    ·
     refine zd 120 (.bool false) rfl (by rw[hdd];rfl) (zm ?_);replace Ba:Blk w7 ga 229 (yj { x.t with dp:=x.t.dp }):=Ba;exact zt x.t.dp ⟨rfl,rfl,rfl,rfl,trivial⟩ ⟨M20.step E XM20,(by exact Ba),by rw[hdd,if_pos rfl]⟩
    ·
     refine zd 120 (.bool true) rfl (by rw[Bool.eq_false_iff.2 hdd];rfl) (zl ?_);refine stpdq261 ?_;intro w22 Bx Ea;replace Ba:Blk w22 ga 229 (yj { x.t with dp:=(x.t.nd:Int) }):=Bx;replace E:=E.step1 Ea Mut.head;refine stp ?_;exact zt (x.t.nd:Int) ⟨rfl,rfl,rfl,rfl,trivial⟩ ⟨M20.step E XM20,(by exact Ba),by rw[if_neg hdd]⟩
   ·
    have LTa:=(ze Ba.lt);clear Ba;rintro d2 w21 ⟨M20,Ba,hd2⟩;replace E:=E.trans M20;replace LW:=LW.step E XLW;replace E:=erx (Mut [(some ga)]) w21;have hb2:-100000≤d2∧d2≤100000:=by rw[hd2];split<;>omega
    have hl2:({ x.t with dp:=d2 }:Dec).d.length=800:=hlx;have hP0:setD s f neg= { x.t with dp:=d2+zrv s Z }:=by unfold setD;rw[←hx,hRi,hd2]
    by_cases he:Z<s.size
    ·
     obtain ⟨hx1,hx2,hx3,hx4⟩:=hs.exp he;have hb:bAt s x.i=101:=by rw[hRi];exact hx1
     refine zjx ?_;refine zf 132 (.bool true) rfl (by rw[decide_eq_true (by omega)]<;>rfl) (stpdq237 ?_);refine zf 135 (.int .u8 101) rfl (by rw[hb];rfl) (onx rfl (zb en180 rfl ((pt180_1 _).mono ?_)));rintro e w23 ⟨rfl,hb⟩;refine ⟨_,rfl,?_⟩;have Ec:=Ext.of_below hb No;replace Ba:=Ba.extN Ec NotIn.nil;replace E:=E.trans Ec.no;refine yi ?_;refine yo ?_;refine yi ?_;refine zy ?_;refine zn ?_;refine zd 144 (.bool false) rfl (by rw[decide_eq_false (by omega)]<;>rfl) (jt ?_);refine za rfl (yn (j:=x.i+1) (b:=bAt s (x.i+1)) u9 rfl rfl rfl (qh (by omega)) ?_);rw[←hRi] at hx2;refine zm ?_;replace LW:=LW.step E XLW;replace E:=erx (Mut [(some ga)]) w23;refine yh (ι:=Nat×Int) (fun (k,g)=>[(0,.pointer (some ⟨ga,0,none⟩)),(1,.string s),(4,.bool false),(5,.int .i64 ((k:Nat):Int)),(8,.int .i64 g)]) (fun (k,g) w'=>Ext (Mut [(some ga)]) w23 w'∧Blk w' ga 229 (yj { x.t with dp:=d2 })∧(k=q∧g=(if bAt s (x.i+1)=45 then -1 else 1))) ?_ ?_
     ·
      have M24:=erx (Mut [(some ga)]) w23;have XM24:=grx (Mut [(some ga)]) w23;refine zp ?_;by_cases c43:bAt s (x.i+1)=43
      ·
       refine zd 148 (.bool true) rfl (by rw[c43];rfl) (zn ?_);refine yo ?_;refine zn ?_;exact zt (x.i+2,1) ⟨rfl,rfl,rfl,rfl,rfl,trivial⟩ ⟨M24.step E XM24,(by exact Ba),by omega,by rw[if_neg (by omega)]⟩
      ·
       refine zd 148 (.bool false) rfl (by rw[vm (by omega)]<;>rfl) (zp ?_);by_cases c45:bAt s (x.i+1)=45
       ·
        refine zd 152 (.bool true) rfl (by rw[c45];rfl) (zx ?_);refine yo ?_;refine zp ?_;exact zt (x.i+2,-1) ⟨rfl,rfl,rfl,rfl,rfl,trivial⟩ ⟨M24.step E XM24,(by exact Ba),by omega,by rw[if_pos c45]⟩
       ·
        refine zd 152 (.bool false) rfl (by rw[vm (by omega)]<;>rfl) (zn ?_);exact zt (x.i+1,1) ⟨rfl,rfl,rfl,rfl,rfl,trivial⟩ ⟨M24.step E XM24,(by exact Ba),by omega,by rw[if_neg c45]⟩
     ·
      have LTa:=(ze Ba.lt);clear Ba;rintro ⟨k,g⟩ w25 ⟨M24,Ba,⟨hk,hg⟩⟩;replace E:=E.trans M24;replace LW:=LW.step E XLW;replace E:=erx (Mut [(some ga)]) w25;subst hk;have hdq:=hx4 k (Nat.le_refl _) hx3;refine zjx ?_;refine zf 160 (.bool false) rfl (by rw[decide_eq_false (by omega)]<;>rfl) (stpdq316 ?_);refine zn ?_;refine zf 166 (.bool false) rfl (by rw[decide_eq_false (by omega)]<;>rfl) (stpdq316 ?_);refine zx ?_;refine zd 171 (.bool false) rfl (by rw[decide_eq_false (by omega)]<;>rfl) (qd ?_);replace LW:=LW.step E XLW;replace E:=erx (Mut [(some ga)]) w25;refine yh (ι:=ExS) (fun y=>[(0,.pointer (some ⟨ga,0,none⟩)),(1,.string s),(4,.bool false),(5,.int .i64 (y.i:Int)),(8,.int .i64 g),(9,.int .i64 (y.e:Int))]) (fun y w'=>Ext (Mut [(some ga)]) w25 w'∧Blk w' ga 229 (yj { x.t with dp:=d2 })∧(y=exA s k)) ?_ ?_
      ·
       have M26:=erx (Mut [(some ga)]) w25;have XM26:=grx (Mut [(some ga)]) w25;refine stp ?_;replace M26:=M26.step E XM26;replace E:=erx (Mut [(some ga)]) w25;refine yw (ι:=ExS) (fun y=>[(0,.pointer (some ⟨ga,0,none⟩)),(1,.string s),(4,.bool false),(5,.int .i64 (y.i:Int)),(8,.int .i64 g),(9,.int .i64 (y.e:Int))]) (fun y w'=>Ext (Mut [(some ga)]) w25 w'∧Blk w' ga 229 (yj { x.t with dp:=d2 })∧(ExI s k y∧qk (oi s) (zlk s) y=exA s k)) (fun y=>s.size-y.i) (⟨k,0⟩) ⟨rfl,rfl,rfl,rfl,rfl,rfl,trivial⟩ ⟨Ext.refl _ _,(by exact Ba),⟨⟨Nat.le_refl _,Nat.le_of_lt hx3⟩,by show 0<100000;decide⟩,rfl⟩ ?_;have LTa:=(ze Ba.lt);clear Ba;rintro y w29 ⟨M28,Ba,⟨hI,hu⟩⟩;have XM28:Gro (Mut [(some ga)]) (Mut [(some ga)]) w25:=(Mut.grow Mut.none_ (fun k e=>Or.inl (Mut.head k e)));replace E:=E.trans M28;replace M26:=M26.step E XM26;replace E:=erx (Mut [(some ga)]) w29;have hhi:=hI.hi;have hhe:=hI.he;refine zjx ?_;refine zj 176 rfl (fun h7=>?_) (fun h7=>?_)
       ·
        have h7:y.i<s.size:=by have h7:=of_decide_eq_true h7;omega
        have hc:=hx4 y.i hhi.1 h7;have hdone:oi s y=false:=by unfold oi;rw[decide_eq_false (by omega),qlx hc];rfl
        have hkeep:=(ex_keeps hI hdone).1;rw[qp hdone] at hu;refine stpdq314 ?_;refine zm ?_;refine zf 181 (.bool true) rfl (by rw[decide_eq_true (by omega)]<;>rfl) (stpdq314 ?_);refine zn ?_;refine zf 187 (.bool true) rfl (by rw[decide_eq_true (by omega)]<;>rfl) (yhq ?_);refine za rfl (yn (j:=y.i) (b:=bAt s (y.i)) u9 rfl rfl rfl (qh (by omega)) (zn ?_));refine zd 199 (.bool false) rfl (by rw[vm (by omega)]<;>rfl) (qd ?_);refine zg rfl (fun h8=>?_) (fun h8=>?_)
        ·
         have h8:y.e<10000:=by have h8:=of_decide_eq_true h8;omega
         have hstep:zlk s y= ⟨y.i+1,y.e*10+(bAt s y.i-48)⟩:=by unfold zlk;rw[if_pos h8]
         rw[hstep] at hkeep hu;refine zm ?_;refine qcz ?_;refine zm ?_;refine za rfl (yn (j:=y.i) (b:=bAt s (y.i)) u9 rfl rfl rfl (qh (by omega)) (qev ?_));refine yl ?_;refine zwq ?_;refine zq 9 (.int .i64 ((y.e*10+(bAt s y.i-48):Nat):Int)) rfl ((by congr 1;omega:(.int .i64 ((((y.e:Int)*10)+((bAt s (y.i):Nat):Int))-48):Value)=_)) ?_;exact zo (⟨y.i+1,y.e*10+(bAt s y.i-48)⟩) (by show s.size-(y.i+1)<s.size-y.i;omega) ⟨rfl,rfl,rfl,rfl,rfl,rfl,trivial⟩ ⟨M28.step E XM28,(by exact Ba),hkeep,hu⟩
        ·
         have h8:¬y.e<10000:=by have h8:=of_decide_eq_false h8;omega
         have hstep:zlk s y= ⟨y.i+1,y.e⟩:=by unfold zlk;rw[if_neg h8]
         rw[hstep] at hkeep hu;refine je ?_;exact zo (⟨y.i+1,y.e⟩) (by show s.size-(y.i+1)<s.size-y.i;omega) ⟨rfl,rfl,rfl,rfl,rfl,rfl,trivial⟩ ⟨M28.step E XM28,(by exact Ba),hkeep,hu⟩
       ·
        have h7:¬y.i<s.size:=by have h7:=of_decide_eq_false h7;omega
        have hdone:oi s y=true:=by unfold oi;rw[decide_eq_true (by omega)];rfl
        rw[yp hdone] at hu;refine stp24 ?_;exact zt y ⟨rfl,rfl,rfl,rfl,rfl,rfl,trivial⟩ ⟨M26.step E XM26,(by exact Ba),hu⟩
      ·
       have LTa:=(ze Ba.lt);clear Ba;rintro y w27 ⟨M26,Ba,hy⟩;replace E:=E.trans M26;replace LW:=LW.step E XLW;replace E:=erx (Mut [(some ga)]) w27;obtain ⟨hI,hdx⟩:=yoz (s:=s) (q:=k) (by omega);rw[←hy] at hI hdx;have hxi:=ex_out hx4 hI hdx;have hxe:=hI.he;have hX:IntKind.i64.wrap ((y.e:Int)*g)=zrv s Z:=by
        have e9:zrv s Z=(y.e:Int)*g:=by
         unfold zrv;rw[if_neg (by omega),←hRi,hg,hy];exact dqz71
        have h12:=qmv hs;rw[←e9];exact yx (by omega)
       have h12:=qmv hs;refine zx ?_;refine za rfl (ye Tryz.underlying3 rfl rfl Ba (dpAt hl2 d2 rfl) (zm ?_));refine za rfl (xq rfl rfl hX (yo ?_));refine zm ?_;refine zk (qr sz3 rfl rfl Ba rfl rfl (in_ hl2 (by decide:801<804)) (qrz hl2 (d2+zrv s Z)) ?_);intro w30 Bx Ea;replace Ba:Blk w30 ga 229 (yj { x.t with dp:=d2+zrv s Z }):=Bx;replace E:=E.step1 Ea Mut.head;refine zp ?_;refine zy ?_;refine zn ?_;refine zd 223 (.bool false) rfl (by rw[hxi];simp) (zz ?_);exact ⟨rfl,by rw[hP0];exact Ba,(LW.step E XLW)⟩
    ·
     have hz:zrv s Z=0:=by unfold zrv;rw[if_pos (by omega)]
     refine zjx ?_;refine zf 132 (.bool false) rfl (by rw[decide_eq_false (by omega)]<;>rfl) (og ?_);refine zy ?_;refine zn ?_;refine zd 223 (.bool false) rfl (by rw[show x.i=s.size by omega];simp) (zz ?_);exact ⟨rfl,by rw[hP0,hz,Int.add_zero];exact Ba,(LW.step E XLW)⟩
end
end Go.Proofs.YtmnmebdmpigddaaGreatDoor
namespace Go.Proofs.YtmnmebdmpigddaaGreatDoor
open Go.RowKit
attribute [local irreducible] OW RS CW EW
def RetNumE (W:World) (A0:Option Addr) (xs0:List Nat) (v f:Int) (e:Ending) (w':World):Prop:=∃A c,e= .returned (.tuple #[.agg #[.bool (decide (v<0)),.slice A (tens v).length c],.int .i64 f])∧Nums8 w' A (tens v)∧((∀q,A=some q→W.heap.size≤q.block)∨(A=A0∧tens v=xs0))∧Below W.heap.size W w'
section
variable (i j:Int) (A B:Option Addr) (c d:Nat) (w:World) (hi:i.natAbs<B18^30) (hj:j.natAbs<B18^30) (hx:Nums8 w A (tens i)) (hy:Nums8 w B (tens j))
include hi hj hx hy
end
end Go.Proofs.YtmnmebdmpigddaaGreatDoor
namespace Go.Proofs.YtmnmebdmpigddaaGreatDoor
open Go.RowKit
theorem stpdq318 {P Q:Prop} (k:Q) (h:(Unit→Q)→P:=by
 intro zK;refine zm ?_;refine onx rfl (gu (j:=s.size-1-k) u9 rfl rfl (by omega) hat (zx ?_));exact zK ()):P:=h fun _=>k
theorem stpdq317 {P Q:Prop} (k:Q) (h:(Unit→Q)→P:=by
 intro zK;refine zxz ?_;refine zy ?_;refine zm ?_;refine zf 11 (.bool true) rfl (by rw[decide_eq_true hpos]) (qfq ?_);exact zK ()):P:=h fun _=>k
theorem stpdq297 {P Q:Prop} (k:Q) (h:(Unit→Q)→P:=by
 intro zK;refine zd 19 (.bool false) rfl (by rw[beq_eq_false_iff_ne.2 (by omega)]) (vp ?_);refine zy ?_;refine yl ?_;refine zx ?_;exact zK ()):P:=h fun _=>k
theorem stpdq265 {P Q:Prop} (k:Q) (h:(Unit→Q)→P:=by
 intro zK;refine za rfl (jg rfl rfl (yak (by omega)) (za rfl (oq (cs:=#[.int .u8 ((b.toNat:Int)-48)]) u46 sz5 zr5 (by decide) rfl (by rw[zqz];rfl) ?_)));exact zK ()):P:=h fun _=>k
theorem qdk {P Q:Prop} (k:Q) (h:(Unit→Q)→P:=by
 intro zK;refine za rfl (gu (j:=s.size-1-k) u9 rfl rfl (by omega) hat ?_);exact zK ()):P:=h fun _=>k
theorem stpdq229 {P Q:Prop} (k:Q) (h:(Unit→Q)→P:=by
 intro zK;refine za rfl (zyx (news:=[.int .u8 ((b.toNat:Int)-48)]) u46 inf5 rfl (by decide) rfl Od rfl (yrq (HF.on E).here.2 ((HF.on E).here.2).lt rfl) (by simp[Value.oneCell']) (by unfold maxLen;omega) (by omega) (by exact Nat.le_trans LW.size E.size) ?_);exact zK ()):P:=h fun _=>k
theorem stpdq225 {P Q:Prop} (k:Q) (h:(Unit→Q)→P:=by
 intro zK;refine zl ?_;refine yl ?_;refine zm ?_;refine zq 7 (.int .i64 ((s.size:Int)-1-((k+1:Nat):Int))) rfl ((by rw[show (s.size:Int)-1-(k:Int)-1=(s.size:Int)-1-((k+1:Nat):Int) by omega]:(.int .i64 (((s.size:Int)-1-(k:Int))-1):Value)=_)) ?_;exact zK ()):P:=h fun _=>k
theorem qfq {P Q:Prop} (k:Q) (h:(Unit→Q)→P:=by
 intro zK;refine stp ?_;refine onx rfl (gu (j:=0) u9 rfl rfl rfl hat0 ?_);exact zK ()):P:=h fun _=>k
theorem dqz91 {P:Prop} (h:P:=by
 refine zm ?_;refine za rfl (qn (cs:=#[.bool false,.slice none 0 0]) pl48 zr48 rfl rfl (zk (yb zuv rfl rfl Bb1 rfl rfl (Nat.le_of_ble_eq_true rfl) ?_)));intro w6 Bx Eb1;exact dqz29):P:=h
theorem dqz90 {P:Prop} (h:P:=by
 refine zz ?_;refine za rfl (qn (cs:=#[.bool false,.slice none 0 0]) pl48 zr48 rfl rfl (zk (yb zuv rfl rfl Bb1 rfl rfl (Nat.le_of_ble_eq_true rfl) ?_)));intro w5 Bx Eb1;exact dqz29):P:=h
theorem dqz87 {P:Prop} (h:P:=by
 have e:((zzk (r.reverse.take k)):List Value)++([.int .u8 ((b.toNat:Int)-48)]:List Value)=zzk (r.reverse.take (k+1)):=by rw[hb9];exact dvals_succ (by simpa using hk1)
 rw[←e];exact On):P:=h
theorem dqz61 {P:Prop} (h:P:=by
 refine zm ?_;refine za rfl (qn (cs:=#[.bool false,.slice none 0 0]) pl48 zr48 rfl rfl (zk (yb zuv rfl rfl Bb1 rfl rfl (Nat.le_of_ble_eq_true rfl) ?_)));intro w11 Bx Eb1;replace Bb1:=Bx;replace E:=E.step1 Eb1 Mut.head;refine zl ?_;exact by rw[e1,e2];exact ycx (LW.step E XLW).toBelow):P:=h
theorem dqz49 {P:Prop} (h:P:=by
 refine za rfl (qjz u9 rfl (zn ?_));refine zd 19 (.bool true) rfl (by rw[hz];rfl) (zn ?_);refine za rfl (qn (cs:=#[.bool false,.slice none 0 0]) pl48 zr48 rfl rfl (zk (yb zuv rfl rfl Bb1 rfl rfl (Nat.le_of_ble_eq_true rfl) ?_)));intro w3 Bx Eb1;replace Bb1:=Bx;replace E:=E.step1 Eb1 Mut.head;refine zl ?_;exact ycx (LW.step E XLW).toBelow):P:=h
theorem dqz29 {P:Prop} (h:P:=by
 replace Bb1:=Bx;replace Od:=vt Od Eb1 (NotIn.cons Dd_b1 NotIn.nil);replace E:=E.step1 Eb1 (Mut.tail Mut.head);refine yu ?_;exact by rw[e1,e2];exact ycx (LW.step E XLW).toBelow):P:=h
attribute [local irreducible] OW RS CW EW
theorem Apart.re {A:Option Addr} {n c m d:Nat} {r:Option Nat} (h:Apart (Value.slice A n c).ownBlock r):Apart (Value.slice A m d).ownBlock r:=by cases A<;>exact h
def vd (b:UInt8):Bool:=decide (48≤b.toNat)&&decide (b.toNat≤57)
def dv (b:UInt8):Nat:=b.toNat-48
def ya (r:List UInt8):Nat:=val 10 (r.reverse.map dv)
def qz (neg:Bool) (r:List UInt8):Int:=if r≠ []∧r.all vd=true∧ya r<B18^30 then sgn neg (ya r) else 0
def qy (r:List UInt8):Int:=if r≠ []∧r.all vd=true then (if ya r<B18^30 then 0 else 2) else 4
def yhx (bs:List UInt8):Bool:=decide (bs.head? =some 45)
def kx (bs:List UInt8):List UInt8:=if bs.head? =some 45 then bs.tail else bs
theorem qnx {r:List UInt8} (h:r.all vd=true):small 10 (r.map dv):=by
 intro x hx;obtain ⟨b,hb,rfl⟩:=List.mem_map.1 hx;have h1:=List.all_eq_true.1 h b hb;unfold vd at h1;unfold dv;simp at h1
 omega
theorem ba_get (s:ByteArray) (j:Nat):s[j]? =s.data.toList[j]? :=by
 show (if h:j<s.size then some s[j] else none)=_
 by_cases h:j<s.size
 · rw[dif_pos h,List.getElem?_eq_getElem (by simpa using h)];rfl
 · rw[dif_neg h,List.getElem?_eq_none (by simpa using h)]
theorem text_at {s:ByteArray} {pre r:List UInt8} (h:s.data.toList=pre++r) {k:Nat} (hk:k<r.length):s[s.size-1-k]? =some (r.reverse.getD k 0):=by
 have hsz:s.size=pre.length+r.length:=by have:=congrArg List.length h;simpa using this
 rw[ba_get,h,List.getElem?_append_right (by omega),List.getD_eq_getElem?_getD,List.getElem?_reverse hk,show s.size-1-k-pre.length=r.length-1-k by omega,List.getElem?_eq_getElem (by omega)];rfl
def zzk (l:List UInt8):List Value:=l.map fun b=>.int .u8 ((b.toNat:Int)-48)
theorem dvals_succ {l:List UInt8} {k:Nat} (hk:k<l.length):zzk (l.take k)++ [.int .u8 (((l.getD k 0).toNat:Int)-48)]=zzk (l.take (k+1)):=by
 rw[List.take_add_one,zzk,zzk,List.map_append,List.getElem?_eq_getElem hk,List.getD_eq_getElem?_getD,List.getElem?_eq_getElem hk];rfl
theorem dig_of {b:UInt8} (h1:48≤b.toNat) (h2:b.toNat≤57):vd b=true:=by unfold vd;simp[h1,h2]
theorem viq {r:List UInt8} {k:Nat} (hk:k<r.length) (h:vd (r.reverse.getD k 0)=false):r.all vd=false:=by
 rw[Bool.eq_false_iff];intro ha;have hm:r.reverse.getD k 0∈r:=by
  rw[List.getD_eq_getElem?_getD,List.getElem?_eq_getElem (by simpa using hk)];exact List.mem_reverse.1 (List.getElem_mem _)
 rw[List.all_eq_true.1 ha _ hm] at h;cases h
theorem dvals_own {w:World} {base n c:Nat} {A:Option Addr} {r:List UInt8} (h:w.ownsRow base 5 1 (.slice A n c) n (zzk r.reverse)) (hr:r.all vd=true) (hn:n=r.length):Own8 w base A c (r.reverse.map dv):=by
 subst hn;have hall:(r.reverse).all vd=true:=by rw[List.all_reverse];exact hr
 have e:zzk r.reverse=(r.reverse.map dv).map fun x:Nat=>Value.int .u8 (x:Int):=by
  rw[zzk,List.map_map];apply List.map_congr_left
  intro b hb;have h1:=List.all_eq_true.1 hall b hb;unfold vd at h1;simp at h1
  simp only[Function.comp_apply,dv]
  congr 1
  omega
 refine ⟨?_,fun x hx=>Nat.lt_trans (qnx hall x hx) (by decide)⟩;rw[←e];simpa using h
def yvz (W:World) (v f:Int) (e:Ending) (w':World):Prop:=∃A c,e= .returned (.tuple #[.agg #[.bool (decide (v<0)),.slice A (tens v).length c],.int .i64 f])∧Own8 w' W.heap.size A c (tens v)∧Below W.heap.size W w'
theorem own8_nil (w:World) (base:Nat):Own8 w base none 0 []:=⟨⟨by simp,Or.inl ⟨rfl,rfl⟩⟩,fun x hx=>by cases hx⟩
theorem ycx {W w':World} {f:Int} (hb:Below W.heap.size W w'):yvz W 0 f (.returned (.tuple #[.agg #[.bool false,.slice none 0 0],.int .i64 f])) w':=
 ⟨none,0,by rw[zax];rfl,by rw[zax];exact own8_nil _ _,hb⟩
theorem ziv {neg:Bool} {r:List UInt8} (h:r.all vd=false):qz neg r=0∧qy r=4:=by
 unfold qz qy;simp[h]
theorem all_take {p:UInt8→Bool} {l:List UInt8} {k:Nat} (hk:k<l.length) (h:(l.take k).all p=true) (hp:p (l.getD k 0)=true):(l.take (k+1)).all p=true:=by
 rw[List.take_add_one,List.all_append,h,List.getElem?_eq_getElem hk];rw[List.getD_eq_getElem?_getD,List.getElem?_eq_getElem hk] at hp;simpa using hp
section
variable (s:ByteArray) (r:List UInt8) (w:World)
theorem read_neg (hr:r≠ []) (hbs:s.data.toList= [45]++r) (hs:s.size≤140737488355328):Calls Tryz.prog 54 #[.string s] w (yvz w (qz true r) (qy r)):=by
 have hat0:s[0]? =some 45:=by rw[ba_get,hbs];rfl
 have hpos:(0:Int)<(s.size:Int):=by have:=congrArg List.length hbs;simp at this;omega
 refine zc Tryz.func54 rfl Tryz.ntmps54 rfl ?_;obtain ⟨HF,LW,XLW,E⟩:=wk0 w;refine zm ?_;refine gj ?_;intro gb1 w2 Bb1 Eb1 Gb1;obtain ⟨Gb1,HF,E,XLW⟩:=alx HF LW E XLW Eb1 Gb1;refine stpdq317 ?_;refine stp19 ?_;refine zy ?_;refine zn ?_;have hsz:s.size=1+r.length:=by have:=congrArg List.length hbs;simpa [Nat.add_comm] using this
 have hrl:0<r.length:=List.length_pos_iff.2 hr;refine stpdq297 ?_;have Od:World.ownsRow w2 w.heap.size 5 1 (.slice none 0 0) 0 ([]):=zeq;have Dd_b1:Apart ((Value.slice none 0 0).ownBlock) (some gb1):=fun _ e=>by cases e
 have Db1_d:=Dd_b1.symm;replace HF:=HF.cons (gh);replace E:=E.cons ((Value.slice none 0 0).ownBlock);replace XLW:=Mut.grow XLW (fun k e=>Or.inr (Nat.le_trans LW.size ((gh) k e)));refine zd 7 (.int .i64 ((s.size:Int)-1-((0:Nat):Int))) rfl (by simp) ?_;replace HF:=HF.on E;replace LW:=LW.step E XLW;replace E:=erx (Mut [((Value.slice none 0 0).ownBlock),(some gb1)]) w2;refine yw (ι:=Nat×Option Addr×Nat) (fun (k,A1,c1)=>[(0,.string s),(2,.pointer (some ⟨gb1,0,none⟩)),(4,.bool true),(5,.int .i64 1),(6,.slice A1 k c1),(7,.int .i64 ((s.size:Int)-1-(k:Int)))]) (fun (k,A1,c1) w'=>Ext (Mut [((Value.slice none 0 0).ownBlock),(some gb1)]) w2 w'∧World.ownsRow w' w.heap.size 5 1 (.slice A1 k c1) k (zzk (r.reverse.take k))∧Blk w' gb1 48 (#[.bool false,.slice none 0 0])∧(∀q9,((Value.slice A1 k c1).ownBlock)=some q9→((Value.slice none 0 0).ownBlock)=some q9∨w2.heap.size≤q9)∧(k≤r.length∧(r.reverse.take k).all vd=true)) (fun (k,A1,c1)=>r.length-k) (0,none,0) ⟨rfl,rfl,rfl,rfl,rfl,rfl,trivial⟩ ⟨Ext.refl _ _,(by exact Od),(by exact Bb1),(fun _ e=>Or.inl e),⟨Nat.zero_le _,rfl⟩⟩ ?_;have LTd:=(jx Od);have LTb1:=(ze Bb1.lt);clear Od;rintro ⟨k,A1,c1⟩ w4 ⟨M3,Od,Bb1,KdM3,⟨hk,hall⟩⟩;replace Dd_b1:Apart ((Value.slice A1 k c1).ownBlock) (some gb1):=Dd_b1.turn KdM3 LTb1;replace Db1_d:=Dd_b1.symm;have XM3:Gro (Mut [((Value.slice A1 k c1).ownBlock),(some gb1)]) (Mut [((Value.slice none 0 0).ownBlock),(some gb1)]) w2:=(Mut.grow (Mut.grow Mut.none_ (fun k e=>Or.inl ((Mut.tail Mut.head) k e))) (fun k e=>(KdM3 k e).elim (fun e=>Or.inl (Mut.head k e)) Or.inr));replace E:=E.trans M3;replace HF:=HF.turn E XM3;have ZLW:=LW.size;have XT:=fun q9 (h:(Mut [((Value.slice A1 k c1).ownBlock),(some gb1)]) q9)=>(XM3 q9 h).elim (XLW q9) (fun h=>Or.inr (Nat.le_trans LW.size h));replace LW:=LW.step E XLW;replace XLW:=XT;clear ZLW;replace E:=erx (Mut [((Value.slice A1 k c1).ownBlock),(some gb1)]) w4;clear LTd;clear LTb1;refine yi ?_;refine zg rfl (fun q=>?_) (fun q=>?_)
 ·
  have q:=of_decide_eq_true q;have hk1:k<r.length:=by omega
  have hat:=text_at hbs hk1;obtain ⟨b,hb9⟩:∃b,b=r.reverse.getD k 0:=⟨_,rfl⟩;rw[←hb9] at hat;refine qd ?_;refine qdk ?_;refine zm ?_;refine zj 33 rfl (fun h=>?_) (fun h=>?_)
  ·
   have h:=of_decide_eq_true h;obtain ⟨e1,e2⟩:=ziv (neg:=true) (viq hk1 (by rw[←hb9];unfold vd;simp;omega));exact dqz90
  ·
   have h:=of_decide_eq_false h;refine stpdq318 ?_;refine zg rfl (fun h2=>?_) (fun h2=>?_)
   ·
    have h2:=of_decide_eq_true h2;obtain ⟨e1,e2⟩:=ziv (neg:=true) (viq hk1 (by rw[←hb9];unfold vd;simp;omega));exact dqz91
   ·
    have h2:=of_decide_eq_false h2;refine zl ?_;refine qdk ?_;have hdig:vd (r.reverse.getD k 0)=true:=by rw[←hb9];exact dig_of (by omega) (by omega)
    refine stpdq265 ?_;intro gb7 w8 Bb7 Eb7 Gb7;have Db7_d:Apart (some gb7) ((Value.slice A1 k c1).ownBlock):=Apart.of_lt (jx Od) Gb7;have Dd_b7:=Db7_d.symm;have Db7_b1:Apart (some gb7) (some gb1):=Apart.of_lt (ze Bb1.lt) Gb7;have Db1_b7:=Db7_b1.symm;have Gb7:_≤gb7:=Nat.le_trans E.size Gb7;have GLb7:=Nat.le_trans LW.size Gb7;replace Od:=vt Od Eb7 NotIn.nil;replace Bb1:=Bb1.extN Eb7 NotIn.nil;replace E:=E.trans Eb7.no;replace HF:=HF.cons (ym Gb7);replace E:=E.cons (some gb7);replace XLW:=Mut.grow XLW (fun k e=>Or.inr (Nat.le_trans LW.size ((ym Gb7) k e)));replace XM3:=Mut.grow XM3 (fun k e=>Or.inr (Nat.le_trans M3.size ((ym Gb7) k e)));replace HF:=HF.on E;replace LW:=LW.step E XLW;replace M3:=M3.step E XM3;have SB:∀q9,Mut [((Value.slice A1 k c1).ownBlock),(some gb1)] q9→Mut [(some gb7),((Value.slice A1 k c1).ownBlock),(some gb1)] q9:=(Mut.skip (Mut.keep (Mut.keep Mut.nil_)));replace HF:=HF.less SB;replace XLW:=fun k h=>XLW k (SB k h);replace XM3:=fun k h=>XM3 k (SB k h);clear SB;replace E:=erx (Mut [((Value.slice A1 k c1).ownBlock),(some gb1)]) w8;replace HF:=HF.and (Per.blkN Bb7 (NotIn.cons Db7_d (NotIn.cons Db7_b1 NotIn.nil)));refine stpdq229 ?_;intro v0 w9 On En KN;obtain ⟨A2,c2,rfl⟩:=gl On;replace KN:∀q9,((Value.slice A2 (k+1) c2).ownBlock)=some q9→((Value.slice A1 k c1).ownBlock)=some q9∨w8.heap.size≤q9:=KN;have LTb1:=(ze Bb1.lt);replace Bb1:=Bb1.extN En (NotIn.cons Db1_d NotIn.nil);replace Dd_b1:Apart ((Value.slice A2 (k+1) c2).ownBlock) (some gb1):=Dd_b1.turn KN LTb1;replace Db1_d:=Dd_b1.symm;clear LTb1;have HY:Gro (Mut [((Value.slice A2 (k+1) c2).ownBlock),(some gb1)]) (Mut [((Value.slice A1 k c1).ownBlock),(some gb1)]) w8:=(Mut.grow (Mut.grow Mut.none_ (fun k e=>Or.inl ((Mut.tail Mut.head) k e))) (fun k e=>(KN k e).elim (fun e=>Or.inl (Mut.head k e)) (fun h=>Or.inr (Nat.le_trans E.size h))));replace KdM3:∀q9,((Value.slice A2 (k+1) c2).ownBlock)=some q9→((Value.slice none 0 0).ownBlock)=some q9∨w2.heap.size≤q9:=fun k e=>(KN k e).elim (KdM3 k) (fun h=>Or.inr (Nat.le_trans M3.size (Nat.le_trans E.size h)));replace E:=E.step1 En Mut.head;have XT:=fun q9 (h:(Mut [((Value.slice A2 (k+1) c2).ownBlock),(some gb1)]) q9)=>(HY q9 h).elim (XLW q9) (fun h=>Or.inr (Nat.le_trans LW.size h));have XT:=fun q9 (h:(Mut [((Value.slice A2 (k+1) c2).ownBlock),(some gb1)]) q9)=>(HY q9 h).elim (XM3 q9) (fun h=>Or.inr (Nat.le_trans M3.size h));replace M3:=M3.step E XM3;replace XM3:=XT;replace E:=erx (Mut [((Value.slice A2 (k+1) c2).ownBlock),(some gb1)]) w9;clear HY;replace Od:World.ownsRow w9 w.heap.size 5 1 (.slice A2 (k+1) c2) (k+1) (zzk (r.reverse.take (k+1))):=by
     exact dqz87
    clear On KN En;refine stpdq225 ?_;exact zo (k+1,A2,c2) (by show r.length-(k+1)<r.length-k;omega) ⟨rfl,rfl,rfl,rfl,rfl,rfl,trivial⟩ ⟨M3.step E XM3,(by exact Od),(by exact Bb1),KdM3,by omega,all_take (by simpa using hk1) hall hdig⟩
 ·
  have q:=of_decide_eq_false q;have hkr:k=r.length:=by omega
  have hxs:r.reverse.take k=r.reverse:=by rw[hkr,←List.length_reverse,List.take_length]
  rw[hxs] at hall;rw[List.all_reverse] at hall;have Od9:=Od;rw[hxs] at Od9;have o8:=dvals_own Od9 hall hkr;have hsv:val 10 (r.reverse.map dv)=(sgn true (ya r)).natAbs:=by rw[qt];rfl
  have hsm:small 10 (r.reverse.map dv):=qnx (by rw[List.all_reverse];exact hall);have hlen:(r.reverse.map dv).length=r.length:=by simp
  have hcut:∀w',Own8 w' w.heap.size A1 c1 (r.reverse.map dv)→Calls Tryz.prog 106 #[.slice A1 k c1] w' fun e w2=>e= .returned (.slice A1 (tens (sgn true (ya r))).length c1)∧Own8 w' w.heap.size A1 c1 (tens (sgn true (ya r)))∧w'=w2:=fun w' h=>by
   have h9:=qtx w.heap.size A1 c1 _ _ w' h hsm hsv (by rw[hlen];omega);rwa [hlen,←hkr] at h9
  refine yi ?_;refine za rfl (zb en106 rfl ((hcut _ o8).mono ?_));rintro e w10 ⟨rfl,o9,rfl⟩;refine ⟨_,rfl,?_⟩;have o9s:=o9.2;obtain ⟨HF,LW,XLW,E⟩:=frg HF LW E XLW (Y:=Mut [(some gb1)]) (Mut.skip (Mut.keep Mut.nil_)) (Per.ownsN Od (NotIn.cons Dd_b1 NotIn.nil));clear Od;obtain ⟨HF,LW,E⟩:=fra HF LW E XLW (Per.ownsN o9.1 (NotIn.cons Dd_b1.re NotIn.nil));have hnum:ya r<B18^30↔(tens (sgn true (ya r))).length≤540:=by rw[oo,qt]
  refine yu ?_;refine zg rfl (fun h3=>?_) (fun h3=>?_)
  ·
   have h3:=of_decide_eq_true h3;have e1:qy r=2:=by unfold qy;rw[if_pos ⟨hr,hall⟩,if_neg (by omega)]
   have e2:qz true r=0:=by unfold qz;rw[if_neg (by rintro ⟨_,_,h⟩;omega)]
   exact dqz61
  ·
   have h3:=of_decide_eq_false h3;have e1:qy r=0:=by unfold qy;rw[if_pos ⟨hr,hall⟩,if_pos (by omega)]
   have e2:qz true r=sgn true (ya r):=by unfold qz;rw[if_pos ⟨hr,hall,by omega⟩]
   refine yu ?_;refine za rfl (qn (cs:=#[.bool (decide (0<((((tens (sgn true (ya r))).length:Nat)):Int))),.slice A1 (tens (sgn true (ya r))).length c1]) pl48 zr48 rfl rfl (zjv ?_));intro w12 Bx Eb1;replace Bb1:=Bx;replace E:=E.step1 Eb1 Mut.head;obtain ⟨HF,LW,XLW,E⟩:=frg HF LW E XLW (Y:=No) (Mut.skip Mut.nil_) (Per.blkN Bb1 NotIn.nil);refine zx ?_;have hlv:decide ((0:Int)<((tens (sgn true (ya r))).length:Int))=decide (ya r≠0):=by
    rcases Nat.eq_zero_or_pos (ya r) with h | h
    · rw[h];cases hq:true<;>simp[sgn,zax]
    · have:=zix (j:=sgn true (ya r)) (by intro e;have:=qt true (ya r);rw[e] at this;simp at this;omega);exact dqz143
   refine stp ?_;exact by rw[e1,e2];exact ⟨A1,c1,by rw[qhx,Bool.true_and,←hlv];rfl,⟨(HF.on E).here.1.2,o9s⟩,(LW.step E XLW).toBelow⟩
theorem read_pos (hr:r≠ []) (hbs:s.data.toList= []++r) (h45:r.head? ≠some 45) (hs:s.size≤140737488355328):Calls Tryz.prog 54 #[.string s] w (yvz w (qz false r) (qy r)):=by
 obtain ⟨b0,hb0⟩:∃b,r.head? =some b:=by cases r with | nil=>exact absurd rfl hr | cons b _=>exact ⟨b,rfl⟩
 have hat0:s[0]? =some b0:=by rw[ba_get,hbs,List.nil_append];cases r with | nil=>cases hb0 | cons b _=>simpa using hb0
 have hne:b0.toNat≠45:=fun e=>h45 (by rw[hb0,show b0=45 from UInt8.toNat_inj.1 e]);have hpos:(0:Int)<(s.size:Int):=by have h1:=congrArg List.length hbs;have h2:=List.length_pos_iff.2 hr;simp at h1;omega
 refine zc Tryz.func54 rfl Tryz.ntmps54 rfl ?_;obtain ⟨HF,LW,XLW,E⟩:=wk0 w;refine zm ?_;refine gj ?_;intro gb1 w2 Bb1 Eb1 Gb1;obtain ⟨Gb1,HF,E,XLW⟩:=alx HF LW E XLW Eb1 Gb1;refine stpdq317 ?_;refine zx ?_;refine zd 15 (.bool false) rfl (by rw[beq_eq_false_iff_ne.2 (by omega)]<;>rfl) (yi ?_);refine zy ?_;refine zn ?_;have hsz:s.size=0+r.length:=by have:=congrArg List.length hbs;simpa [Nat.add_comm] using this
 have hrl:0<r.length:=List.length_pos_iff.2 hr;refine stpdq297 ?_;have Od:World.ownsRow w2 w.heap.size 5 1 (.slice none 0 0) 0 ([]):=zeq;have Dd_b1:Apart ((Value.slice none 0 0).ownBlock) (some gb1):=fun _ e=>by cases e
 have Db1_d:=Dd_b1.symm;replace HF:=HF.cons (gh);replace E:=E.cons ((Value.slice none 0 0).ownBlock);replace XLW:=Mut.grow XLW (fun k e=>Or.inr (Nat.le_trans LW.size ((gh) k e)));refine zd 7 (.int .i64 ((s.size:Int)-1-((0:Nat):Int))) rfl (by simp) ?_;replace HF:=HF.on E;replace LW:=LW.step E XLW;replace E:=erx (Mut [((Value.slice none 0 0).ownBlock),(some gb1)]) w2;refine yw (ι:=Nat×Option Addr×Nat) (fun (k,A1,c1)=>[(0,.string s),(2,.pointer (some ⟨gb1,0,none⟩)),(4,.bool false),(5,.int .i64 0),(6,.slice A1 k c1),(7,.int .i64 ((s.size:Int)-1-(k:Int)))]) (fun (k,A1,c1) w'=>Ext (Mut [((Value.slice none 0 0).ownBlock),(some gb1)]) w2 w'∧World.ownsRow w' w.heap.size 5 1 (.slice A1 k c1) k (zzk (r.reverse.take k))∧Blk w' gb1 48 (#[.bool false,.slice none 0 0])∧(∀q9,((Value.slice A1 k c1).ownBlock)=some q9→((Value.slice none 0 0).ownBlock)=some q9∨w2.heap.size≤q9)∧(k≤r.length∧(r.reverse.take k).all vd=true)) (fun (k,A1,c1)=>r.length-k) (0,none,0) ⟨rfl,rfl,rfl,rfl,rfl,rfl,trivial⟩ ⟨Ext.refl _ _,(by exact Od),(by exact Bb1),(fun _ e=>Or.inl e),⟨Nat.zero_le _,rfl⟩⟩ ?_;have LTd:=(jx Od);have LTb1:=(ze Bb1.lt);clear Od;rintro ⟨k,A1,c1⟩ w4 ⟨M3,Od,Bb1,KdM3,⟨hk,hall⟩⟩;replace Dd_b1:Apart ((Value.slice A1 k c1).ownBlock) (some gb1):=Dd_b1.turn KdM3 LTb1;replace Db1_d:=Dd_b1.symm;have XM3:Gro (Mut [((Value.slice A1 k c1).ownBlock),(some gb1)]) (Mut [((Value.slice none 0 0).ownBlock),(some gb1)]) w2:=(Mut.grow (Mut.grow Mut.none_ (fun k e=>Or.inl ((Mut.tail Mut.head) k e))) (fun k e=>(KdM3 k e).elim (fun e=>Or.inl (Mut.head k e)) Or.inr));replace E:=E.trans M3;replace HF:=HF.turn E XM3;have ZLW:=LW.size;have XT:=fun q9 (h:(Mut [((Value.slice A1 k c1).ownBlock),(some gb1)]) q9)=>(XM3 q9 h).elim (XLW q9) (fun h=>Or.inr (Nat.le_trans LW.size h));replace LW:=LW.step E XLW;replace XLW:=XT;clear ZLW;replace E:=erx (Mut [((Value.slice A1 k c1).ownBlock),(some gb1)]) w4;clear LTd;clear LTb1;refine yi ?_;refine zg rfl (fun q=>?_) (fun q=>?_)
 ·
  have q:=of_decide_eq_true q;have hk1:k<r.length:=by omega
  have hat:=text_at hbs hk1;obtain ⟨b,hb9⟩:∃b,b=r.reverse.getD k 0:=⟨_,rfl⟩;rw[←hb9] at hat;refine qd ?_;refine qdk ?_;refine zm ?_;refine zj 33 rfl (fun h=>?_) (fun h=>?_)
  ·
   have h:=of_decide_eq_true h;obtain ⟨e1,e2⟩:=ziv (neg:=false) (viq hk1 (by rw[←hb9];unfold vd;simp;omega));exact dqz90
  ·
   have h:=of_decide_eq_false h;refine stpdq318 ?_;refine zg rfl (fun h2=>?_) (fun h2=>?_)
   ·
    have h2:=of_decide_eq_true h2;obtain ⟨e1,e2⟩:=ziv (neg:=false) (viq hk1 (by rw[←hb9];unfold vd;simp;omega));exact dqz91
   ·
    have h2:=of_decide_eq_false h2;refine zl ?_;refine qdk ?_;have hdig:vd (r.reverse.getD k 0)=true:=by rw[←hb9];exact dig_of (by omega) (by omega)
    refine stpdq265 ?_;intro gb7 w8 Bb7 Eb7 Gb7;have Db7_d:Apart (some gb7) ((Value.slice A1 k c1).ownBlock):=Apart.of_lt (jx Od) Gb7;have Dd_b7:=Db7_d.symm;have Db7_b1:Apart (some gb7) (some gb1):=Apart.of_lt (ze Bb1.lt) Gb7;have Db1_b7:=Db7_b1.symm;have Gb7:_≤gb7:=Nat.le_trans E.size Gb7;have GLb7:=Nat.le_trans LW.size Gb7;replace Od:=vt Od Eb7 NotIn.nil;replace Bb1:=Bb1.extN Eb7 NotIn.nil;replace E:=E.trans Eb7.no;replace HF:=HF.cons (ym Gb7);replace E:=E.cons (some gb7);replace XLW:=Mut.grow XLW (fun k e=>Or.inr (Nat.le_trans LW.size ((ym Gb7) k e)));replace XM3:=Mut.grow XM3 (fun k e=>Or.inr (Nat.le_trans M3.size ((ym Gb7) k e)));replace HF:=HF.on E;replace LW:=LW.step E XLW;replace M3:=M3.step E XM3;have SB:∀q9,Mut [((Value.slice A1 k c1).ownBlock),(some gb1)] q9→Mut [(some gb7),((Value.slice A1 k c1).ownBlock),(some gb1)] q9:=(Mut.skip (Mut.keep (Mut.keep Mut.nil_)));replace HF:=HF.less SB;replace XLW:=fun k h=>XLW k (SB k h);replace XM3:=fun k h=>XM3 k (SB k h);clear SB;replace E:=erx (Mut [((Value.slice A1 k c1).ownBlock),(some gb1)]) w8;replace HF:=HF.and (Per.blkN Bb7 (NotIn.cons Db7_d (NotIn.cons Db7_b1 NotIn.nil)));refine stpdq229 ?_;intro v0 w9 On En KN;obtain ⟨A2,c2,rfl⟩:=gl On;replace KN:∀q9,((Value.slice A2 (k+1) c2).ownBlock)=some q9→((Value.slice A1 k c1).ownBlock)=some q9∨w8.heap.size≤q9:=KN;have LTb1:=(ze Bb1.lt);replace Bb1:=Bb1.extN En (NotIn.cons Db1_d NotIn.nil);replace Dd_b1:Apart ((Value.slice A2 (k+1) c2).ownBlock) (some gb1):=Dd_b1.turn KN LTb1;replace Db1_d:=Dd_b1.symm;clear LTb1;have HY:Gro (Mut [((Value.slice A2 (k+1) c2).ownBlock),(some gb1)]) (Mut [((Value.slice A1 k c1).ownBlock),(some gb1)]) w8:=(Mut.grow (Mut.grow Mut.none_ (fun k e=>Or.inl ((Mut.tail Mut.head) k e))) (fun k e=>(KN k e).elim (fun e=>Or.inl (Mut.head k e)) (fun h=>Or.inr (Nat.le_trans E.size h))));replace KdM3:∀q9,((Value.slice A2 (k+1) c2).ownBlock)=some q9→((Value.slice none 0 0).ownBlock)=some q9∨w2.heap.size≤q9:=fun k e=>(KN k e).elim (KdM3 k) (fun h=>Or.inr (Nat.le_trans M3.size (Nat.le_trans E.size h)));replace E:=E.step1 En Mut.head;have XT:=fun q9 (h:(Mut [((Value.slice A2 (k+1) c2).ownBlock),(some gb1)]) q9)=>(HY q9 h).elim (XLW q9) (fun h=>Or.inr (Nat.le_trans LW.size h));have XT:=fun q9 (h:(Mut [((Value.slice A2 (k+1) c2).ownBlock),(some gb1)]) q9)=>(HY q9 h).elim (XM3 q9) (fun h=>Or.inr (Nat.le_trans M3.size h));replace M3:=M3.step E XM3;replace XM3:=XT;replace E:=erx (Mut [((Value.slice A2 (k+1) c2).ownBlock),(some gb1)]) w9;clear HY;replace Od:World.ownsRow w9 w.heap.size 5 1 (.slice A2 (k+1) c2) (k+1) (zzk (r.reverse.take (k+1))):=by
     exact dqz87
    clear On KN En;refine stpdq225 ?_;exact zo (k+1,A2,c2) (by show r.length-(k+1)<r.length-k;omega) ⟨rfl,rfl,rfl,rfl,rfl,rfl,trivial⟩ ⟨M3.step E XM3,(by exact Od),(by exact Bb1),KdM3,by omega,all_take (by simpa using hk1) hall hdig⟩
 ·
  have q:=of_decide_eq_false q;have hkr:k=r.length:=by omega
  have hxs:r.reverse.take k=r.reverse:=by rw[hkr,←List.length_reverse,List.take_length]
  rw[hxs] at hall;rw[List.all_reverse] at hall;have Od9:=Od;rw[hxs] at Od9;have o8:=dvals_own Od9 hall hkr;have hsv:val 10 (r.reverse.map dv)=(sgn false (ya r)).natAbs:=by rw[qt];rfl
  have hsm:small 10 (r.reverse.map dv):=qnx (by rw[List.all_reverse];exact hall);have hlen:(r.reverse.map dv).length=r.length:=by simp
  have hcut:∀w',Own8 w' w.heap.size A1 c1 (r.reverse.map dv)→Calls Tryz.prog 106 #[.slice A1 k c1] w' fun e w2=>e= .returned (.slice A1 (tens (sgn false (ya r))).length c1)∧Own8 w' w.heap.size A1 c1 (tens (sgn false (ya r)))∧w'=w2:=fun w' h=>by
   have h9:=qtx w.heap.size A1 c1 _ _ w' h hsm hsv (by rw[hlen];omega);rwa [hlen,←hkr] at h9
  refine yi ?_;refine za rfl (zb en106 rfl ((hcut _ o8).mono ?_));rintro e w10 ⟨rfl,o9,rfl⟩;refine ⟨_,rfl,?_⟩;have o9s:=o9.2;obtain ⟨HF,LW,XLW,E⟩:=frg HF LW E XLW (Y:=Mut [(some gb1)]) (Mut.skip (Mut.keep Mut.nil_)) (Per.ownsN Od (NotIn.cons Dd_b1 NotIn.nil));clear Od;obtain ⟨HF,LW,E⟩:=fra HF LW E XLW (Per.ownsN o9.1 (NotIn.cons Dd_b1.re NotIn.nil));have hnum:ya r<B18^30↔(tens (sgn false (ya r))).length≤540:=by rw[oo,qt]
  refine yu ?_;refine zg rfl (fun h3=>?_) (fun h3=>?_)
  ·
   have h3:=of_decide_eq_true h3;have e1:qy r=2:=by unfold qy;rw[if_pos ⟨hr,hall⟩,if_neg (by omega)]
   have e2:qz false r=0:=by unfold qz;rw[if_neg (by rintro ⟨_,_,h⟩;omega)]
   exact dqz61
  ·
   have h3:=of_decide_eq_false h3;have e1:qy r=0:=by unfold qy;rw[if_pos ⟨hr,hall⟩,if_pos (by omega)]
   have e2:qz false r=sgn false (ya r):=by unfold qz;rw[if_pos ⟨hr,hall,by omega⟩]
   refine yu ?_;refine za rfl (qn (cs:=#[.bool false,.slice A1 (tens (sgn false (ya r))).length c1]) pl48 zr48 rfl rfl (zjv ?_));intro w12 Bx Eb1;replace Bb1:=Bx;replace E:=E.step1 Eb1 Mut.head;obtain ⟨HF,LW,XLW,E⟩:=frg HF LW E XLW (Y:=No) (Mut.skip Mut.nil_) (Per.blkN Bb1 NotIn.nil);refine zx ?_;have hlv:decide ((0:Int)<((tens (sgn false (ya r))).length:Int))=decide (ya r≠0):=by
    rcases Nat.eq_zero_or_pos (ya r) with h | h
    · rw[h];cases hq:false<;>simp[sgn,zax]
    · have:=zix (j:=sgn false (ya r)) (by intro e;have:=qt false (ya r);rw[e] at this;simp at this;omega);exact dqz143
   refine stp ?_;exact by rw[e1,e2];exact ⟨A1,c1,by rw[qhx,Bool.false_and];rfl,⟨(HF.on E).here.1.2,o9s⟩,(LW.step E XLW).toBelow⟩
end
section
variable (s:ByteArray) (w:World)
theorem read_empty (neg:Bool) (hbs:s.data.toList=(if neg then [45] else [])) (hs:s.size≤140737488355328):Calls Tryz.prog 54 #[.string s] w (yvz w 0 4):=by
 have _:=hs;cases neg
 · have hz:(s.size:Int)=0:=by have h9:s.data.toList.length=s.size:=Array.length_toList;rw[hbs] at h9;rw[←h9];rfl
   refine zc Tryz.func54 rfl Tryz.ntmps54 rfl ?_;have LW:=erx (No) w;have XLW:=grx (No) w;have E:=erx (No) w;refine zm ?_;refine gj ?_;intro gb1 w2 Bb1 Eb1 Gb1;have Gb1:_≤gb1:=Nat.le_trans E.size Gb1;have GLb1:=Nat.le_trans LW.size Gb1;replace E:=E.trans Eb1.no;replace E:=E.cons (some gb1);replace XLW:=Mut.grow XLW (fun k e=>Or.inr (Nat.le_trans LW.size ((ym Gb1) k e)));refine zxz ?_;refine zy ?_;refine zm ?_;refine zf 11 (.bool false) rfl (by rw[hz];rfl) (jm ?_);exact dqz49
 · have hz:(s.size:Int)=1:=by have h9:s.data.toList.length=s.size:=Array.length_toList;rw[hbs] at h9;rw[←h9];rfl
   have hat0:s[0]? =some 45:=by rw[ba_get,hbs];rfl
   refine zc Tryz.func54 rfl Tryz.ntmps54 rfl ?_;have LW:=erx (No) w;have XLW:=grx (No) w;have E:=erx (No) w;refine zm ?_;refine gj ?_;intro gb1 w2 Bb1 Eb1 Gb1;have Gb1:_≤gb1:=Nat.le_trans E.size Gb1;have GLb1:=Nat.le_trans LW.size Gb1;replace E:=E.trans Eb1.no;replace E:=E.cons (some gb1);replace XLW:=Mut.grow XLW (fun k e=>Or.inr (Nat.le_trans LW.size ((ym Gb1) k e)));refine zxz ?_;refine zy ?_;refine zm ?_;refine zf 11 (.bool true) rfl (by rw[hz];rfl) (qfq ?_);refine stp19 ?_;exact dqz49
theorem ybz {neg:Bool}:qz neg []=0∧qy []=4:=by unfold qz qy;simp
theorem read_any (hs:s.size≤140737488355328):Calls Tryz.prog 54 #[.string s] w (yvz w (qz (yhx s.data.toList) (kx s.data.toList)) (qy (kx s.data.toList))):=by
 generalize hbs:s.data.toList=bs
 unfold yhx kx;by_cases h:bs.head? =some 45
 · rw[decide_eq_true h,if_pos h];obtain ⟨r,rfl⟩:∃r,bs=45::r:=by cases bs with | nil=>cases h | cons b r=>exact ⟨r,by rw[Option.some.inj h]⟩
   by_cases hr:r= []
   · subst hr;obtain ⟨e1,e2⟩:=ybz (neg:=true);show Calls _ _ _ _ (yvz w (qz true []) (qy []))
     rw[e1,e2];exact read_empty s w true hbs hs
   · exact read_neg s r w hr hbs hs
 · rw[decide_eq_false h,if_neg h];by_cases hr:bs= []
   · subst hr;obtain ⟨e1,e2⟩:=ybz (neg:=false);rw[e1,e2];exact read_empty s w false hbs hs
   · exact read_pos s bs w hr hbs h hs
end
end Go.Proofs.YtmnmebdmpigddaaGreatDoor

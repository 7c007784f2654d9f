/- Texts of this claim. -/
import Derived.Test.YtmnmebdmpigddaaGreatDoorT19
import Derived.Lib.ItoaNum
set_option maxRecDepth 100000
set_option maxHeartbeats 20000000
namespace Go.Proofs.YtmnmebdmpigddaaGreatDoor
open Go.RowKit Proofs.Tryz
theorem DX {P Q:Prop} (k:Q) (h:(Unit→Q)→P:=by
 intro zK;refine qd ?_;refine za rfl (kd (j:=(av i).length-1-k) u46 iL rfl rfl om om ?_);exact zK ()):P:=h fun _=>k
theorem DY {P Q:Prop} (k:Q) (h:(Unit→Q)→P:=by
 intro zK;refine qd ?_;refine yl ?_;refine zx ?_;refine zd 4 (.int .i64 (((av i).length:Int)-1-((0:Nat):Int))) rfl (by simp) ?_;exact zK ()):P:=h fun _=>k
theorem DZ {P Q:Prop} (k:Q) (h:(Unit→Q)→P:=by
 intro zK;refine za rfl (zyk (news:=[.int .u8 (48+(nth (av i) ((av i).length-1-k)))]) u46 Rk rfl de rfl Ob rfl (yrv (HF.on E).here.2 ((HF.on E).here.2).lt rfl) (by simp[Value.oneCell']) (by unfold maxLen;omega) om (by exact Nat.le_trans LW.size E.size) ?_);exact zK ()):P:=h fun _=>k
theorem D5 {P Q:Prop} (k:Q) (h:(Unit→Q)→P:=by
 intro zK;refine za rfl (vq u5 rfl rfl (hc9 ((av i).length-1-k) om) (za rfl (vo rfl rfl (ybz om) (za rfl (ou (cs:=#[.int .u8 (48+(nth (av i) ((av i).length-1-k)))]) u46 iL zr5 de rfl (by rw[zqk];rfl) ?_)))));exact zK ()):P:=h fun _=>k
theorem D6 {P Q:Prop} (k:Q) (h:(Unit→Q)→P:=by
 intro zK;refine zl ?_;refine yl ?_;refine zm ?_;refine zq 4 (.int .i64 (((av i).length:Int)-1-((k+1:Nat):Int))) rfl ((by rw[show ((av i).length:Int)-1-(k:Int)-1=((av i).length:Int)-1-((k+1:Nat):Int) from om]:(.int .i64 ((((av i).length:Int)-1-(k:Int))-1):Value)=_)) ?_;exact zK ()):P:=h fun _=>k
theorem WR {P:Prop} (h:P:=by
 refine yi ?_;have e:Lib.itoa 0= [48]:=by rw[Lib.itoa,if_neg de,Lib.decDigits];rfl
 refine aN ?_;exact ⟨by rw[h0,e];rfl,(LW.step E ak).toBelow⟩):P:=h
attribute [local irreducible] OW RS CW EW
def IZ (ds:List Nat) (k:Nat):List Value:=(List.range k).map fun j=>.int .u8 (48+nth ds (ds.length-1-j))
theorem nO (ds:List Nat) (k:Nat):IZ ds k++ [.int .u8 (48+nth ds (ds.length-1-k))]=IZ ds (k+1):=by simp[IZ,List.range_succ]
theorem vbk (i:Int) (k:Nat):0≤nth (av i) k∧nth (av i) k≤9:=by rw[zqx];omega
theorem nP {n:Nat} (hn:n≠0):(aX 10 n).length=Lib.nDigits n:=by
 induction n using qox (b:=10) de with
 | h0=>exact absurd rfl hn
 | hs n h0 ih=>
  rw[kq de h0];by_cases h:n<10
  · rw[Nat.div_eq_of_lt h,Lib.nDigits_small h];rfl
  · rw[Lib.nDigits_big h,List.length_cons,ih om]
theorem LA {i:Int} (h:i≠0):(av i).length=Lib.nDigits i.natAbs:=by rw[jl];exact nP om
theorem tZ {i:Int} (h:i≠0):IZ (av i) (av i).length=(Lib.decDigits i.natAbs).map fun b=>.int .u8 (b.toNat:Int):=by
 have hl:(av i).length=Lib.nDigits i.natAbs:=by rw[jl];exact nP om
 rw[Lib.decDigits_eq,IZ,hl,List.map_map];apply List.map_congr_left
 intro j _;simp only[Function.comp_apply,zqx,Lib.dg]
 have h9:i.natAbs/10^(Lib.nDigits i.natAbs-1-j)%10<10:=Nat.mod_lt _ de;generalize i.natAbs/10^(Lib.nDigits i.natAbs-1-j)%10=u at h9 ⊢
 have e:(UInt8.ofNat (48+u)).toNat=48+u:=by simp;omega
 rw[e];simp
section
variable (i:Int) (A:Option Addr) (c:Nat) (w:World) (hi:i.natAbs<au^30) (hx:aL w A (av i))
include hi hx
theorem I4 (h0:i=0):Calls prog 158 #[.agg #[.bool (decide (i<0)),.slice A (av i).length c]] w (aI w (.string ⟨(Lib.itoa i).toArray⟩)):=by
 have _:=And.intro hi hx;have hl:((av i).length:Int)=0:=by rw[h0,zaq];rfl
 refine zc func158 rfl ntmps158 rfl ?_;obtain ⟨HF,LW,ak,E⟩:=bg w;refine zi ?_;intro aG w2 aA aK aP;obtain ⟨HF,LW,E⟩:=bD HF LW E ak aA aK;refine vp ?_;refine zd 8 (.bool true) rfl (by rw[hl];rfl) ?_;exact WR
theorem Pd (hn:i<0):Calls prog 158 #[.agg #[.bool (decide (i<0)),.slice A (av i).length c]] w (aI w (.string ⟨(Lib.itoa i).toArray⟩)):=by
 have h0:i≠0:=om;have hit:Lib.itoa i=45::Lib.decDigits i.natAbs:=by rw[Lib.itoa,if_pos hn]
 have hl:((av i).length:Int)≠0:=by have:=Yd (j:=i) om;omega
 have hl2:=zsv hi;have hdi:decide (i<0)=true:=decide_eq_true hn;obtain ⟨bx,ox,rfl,hbx,hcx⟩:=hx.2 (Yd om);refine zc func158 rfl ntmps158 rfl ?_;obtain ⟨HF,LW,ak,E⟩:=bg w;replace HF:=HF.and (Per.GU hx);refine zi ?_;intro aG w2 aA aK aP;obtain ⟨HF,LW,E⟩:=bD HF LW E ak aA aK;refine vp ?_;refine zd 8 (.bool false) rfl (by rw[beq_eq_false_iff_ne.2 hl]<;>rfl) (kz ?_);refine zd 10 (.bool true) rfl (by rw[hdi]<;>rfl) ?_;have Ob:World.ownsRow w2 w.heap.size 5 1 (.slice none 0 0) 0 ([]):=Yz;replace HF:=HF.cons (gh);replace E:=E.cons ((Value.slice none 0 0).ownBlock);replace ak:=aj.grow ak (fun k e=>Or.inr (Nat.le_trans LW.size ((gh) k e)));refine zn ?_;refine za rfl (ou (cs:=#[.int .u8 45]) u46 iL zr5 de rfl (by rw[zqk];rfl) ?_);intro aR w4 aF aO aT;have an4:Apart (some aR) ((Value.slice none 0 0).ownBlock):=Apart.of_lt (jx Ob) aT;have aSj:=an4.symm;have aT:_≤aR:=Nat.le_trans E.size aT;have aW1:=Nat.le_trans LW.size aT;replace Ob:=vt Ob aO ah.nil;replace E:=E.trans aO.no;replace HF:=HF.cons (ym aT);replace E:=E.cons (some aR);replace ak:=aj.grow ak (fun k e=>Or.inr (Nat.le_trans LW.size ((ym aT) k e)));obtain ⟨HF,LW,ak,E⟩:=dx HF LW E ak (Y:=aj [((Value.slice none 0 0).ownBlock)]) (aj.skip (aj.keep aj.aU)) (Per.aW aF (ah.cons an4 ah.nil));refine za rfl (zyk (news:=[.int .u8 45]) u46 Rk rfl de rfl Ob rfl (yrv (HF.on E).here.2 ((HF.on E).here.2).lt rfl) (by simp[Value.oneCell']) (by unfold maxLen;omega) om (by exact Nat.le_trans LW.size E.size) ?_);intro v0 w5 On En KN;obtain ⟨A0,c0,rfl⟩:=gl On;replace KN:∀q9,((Value.slice A0 1 c0).ownBlock)=some q9→((Value.slice none 0 0).ownBlock)=some q9∨w4.heap.size≤q9:=KN;have HY:eD (aj [((Value.slice A0 1 c0).ownBlock)]) (aj [((Value.slice none 0 0).ownBlock)]) w4:=(aj.grow aj.none_ (fun k e=>(KN k e).elim (fun e=>Or.inl (aj.head k e)) (fun h=>Or.inr (Nat.le_trans E.size h))));replace E:=E.step1 En aj.head;replace HF:=HF.turn E HY;have XT:=fun q9 (h:(aj [((Value.slice A0 1 c0).ownBlock)]) q9)=>(HY q9 h).elim (ak q9) (fun h=>Or.inr (Nat.le_trans LW.size h));replace LW:=LW.step E ak;replace ak:=XT;replace E:=aD (aj [((Value.slice A0 1 c0).ownBlock)]) w5;clear HY;replace Ob:World.ownsRow w5 w.heap.size 5 1 (.slice A0 1 c0) 1 ([.int .u8 45]):=by
  have e:(([]):List Value)++([.int .u8 45]:List Value)= [.int .u8 45]:=rfl;rw[←e];exact On
 clear On KN En;refine DY ?_;replace HF:=HF.on E;replace LW:=LW.step E ak;replace E:=aD (aj [((Value.slice A0 1 c0).ownBlock)]) w5;refine yw (ι:=Nat×Option Addr×Nat) (fun (k,A1,c1)=>[(1,.pointer (some ⟨aG,0,none⟩)),(3,.slice A1 (1+k) c1),(4,.int .i64 (((av i).length:Int)-1-(k:Int)))]) (fun (k,A1,c1) w'=>Ext (aj [((Value.slice A0 1 c0).ownBlock)]) w5 w'∧World.ownsRow w' w.heap.size 5 1 (.slice A1 (1+k) c1) (1+k) ([.int .u8 45]++IZ (av i) k)∧(∀q9,((Value.slice A1 (1+k) c1).ownBlock)=some q9→((Value.slice A0 1 c0).ownBlock)=some q9∨w5.heap.size≤q9)∧(k≤(av i).length)) (fun (k,A1,c1)=>(av i).length-k) (0,A0,c0) ⟨rfl,rfl,rfl,trivial⟩ ⟨Ext.refl _ _,(by exact Ob),(fun _ e=>Or.inl e),Nat.zero_le _⟩ ?_;have LTb:=(jx Ob);clear Ob;rintro ⟨k,A1,c1⟩ w7 ⟨M6,Ob,ae4,hk⟩;have mW:eD (aj [((Value.slice A1 (1+k) c1).ownBlock)]) (aj [((Value.slice A0 1 c0).ownBlock)]) w5:=(aj.grow aj.none_ (fun k e=>(ae4 k e).elim (fun e=>Or.inl (aj.head k e)) Or.inr));replace E:=E.trans M6;replace HF:=HF.turn E mW;have IY:=LW.size;have XT:=fun q9 (h:(aj [((Value.slice A1 (1+k) c1).ownBlock)]) q9)=>(mW q9 h).elim (ak q9) (fun h=>Or.inr (Nat.le_trans LW.size h));replace LW:=LW.step E ak;replace ak:=XT;clear IY;replace E:=aD (aj [((Value.slice A1 (1+k) c1).ownBlock)]) w7;clear LTb;refine zp ?_;refine zg rfl (fun q=>?_) (fun q=>?_)
 ·
  have q:=of_decide_eq_true q;refine DX ?_;have hin:=vbk i ((av i).length-1-k);obtain ⟨b9,o9,hA9,_,hc9⟩:=((HF.on E).here.1.1.2).2 (Yd h0);obtain ⟨rfl,rfl⟩:b9=bx∧o9=ox:=by simpa using hA9.symm
  refine D5 ?_;intro dO w9 bS iN su;have an5:Apart (some dO) ((Value.slice A1 (1+k) c1).ownBlock):=Apart.of_lt (jx Ob) su;have aT0:=an5.symm;have su:_≤dO:=Nat.le_trans E.size su;have aW2:=Nat.le_trans LW.size su;replace Ob:=vt Ob iN ah.nil;replace E:=E.trans iN.no;replace HF:=HF.cons (ym su);replace E:=E.cons (some dO);replace ak:=aj.grow ak (fun k e=>Or.inr (Nat.le_trans LW.size ((ym su) k e)));replace mW:=aj.grow mW (fun k e=>Or.inr (Nat.le_trans M6.size ((ym su) k e)));replace HF:=HF.on E;replace LW:=LW.step E ak;replace M6:=M6.step E mW;have SB:∀q9,aj [((Value.slice A1 (1+k) c1).ownBlock)] q9→aj [(some dO),((Value.slice A1 (1+k) c1).ownBlock)] q9:=(aj.skip (aj.keep aj.aU));replace HF:=HF.less SB;replace ak:=fun k h=>ak k (SB k h);replace mW:=fun k h=>mW k (SB k h);clear SB;replace E:=aD (aj [((Value.slice A1 (1+k) c1).ownBlock)]) w9;replace HF:=HF.and (Per.aW bS (ah.cons an5 ah.nil));refine DZ ?_;intro v0 dH On En KN;obtain ⟨A2,c2,rfl⟩:=gl On;replace KN:∀q9,((Value.slice A2 (1+(k+1)) c2).ownBlock)=some q9→((Value.slice A1 (1+k) c1).ownBlock)=some q9∨w9.heap.size≤q9:=KN;have HY:eD (aj [((Value.slice A2 (1+(k+1)) c2).ownBlock)]) (aj [((Value.slice A1 (1+k) c1).ownBlock)]) w9:=(aj.grow aj.none_ (fun k e=>(KN k e).elim (fun e=>Or.inl (aj.head k e)) (fun h=>Or.inr (Nat.le_trans E.size h))));replace ae4:∀q9,((Value.slice A2 (1+(k+1)) c2).ownBlock)=some q9→((Value.slice A0 1 c0).ownBlock)=some q9∨w5.heap.size≤q9:=fun k e=>(KN k e).elim (ae4 k) (fun h=>Or.inr (Nat.le_trans M6.size (Nat.le_trans E.size h)));replace E:=E.step1 En aj.head;have XT:=fun q9 (h:(aj [((Value.slice A2 (1+(k+1)) c2).ownBlock)]) q9)=>(HY q9 h).elim (ak q9) (fun h=>Or.inr (Nat.le_trans LW.size h));have XT:=fun q9 (h:(aj [((Value.slice A2 (1+(k+1)) c2).ownBlock)]) q9)=>(HY q9 h).elim (mW q9) (fun h=>Or.inr (Nat.le_trans M6.size h));replace M6:=M6.step E mW;replace mW:=XT;replace E:=aD (aj [((Value.slice A2 (1+(k+1)) c2).ownBlock)]) dH;clear HY;replace Ob:World.ownsRow dH w.heap.size 5 1 (.slice A2 (1+(k+1)) c2) (1+(k+1)) ([.int .u8 45]++IZ (av i) (k+1)):=by
   have e:(([.int .u8 45]++IZ (av i) k):List Value)++([.int .u8 (48+(nth (av i) ((av i).length-1-k)))]:List Value)= [.int .u8 45]++IZ (av i) (k+1):=by rw[List.append_assoc,nO]
   rw[←e];exact On
  clear On KN En;refine D6 ?_;exact zo (k+1,A2,c2) (by show (av i).length-(k+1)<(av i).length-k;omega) ⟨rfl,rfl,rfl,trivial⟩ ⟨M6.step E mW,(by exact Ob),ae4,(by omega:k+1≤(av i).length)⟩
 ·
  have q:=of_decide_eq_false q;obtain rfl:k=(av i).length:=om;have hl9:(45::Lib.decDigits i.natAbs:List UInt8).length=1+(av i).length:=by simp[Lib.decDigits_length,LA h0];try omega
  have hxs:[.int .u8 45]++IZ (av i) (av i).length=(45::Lib.decDigits i.natAbs:List UInt8).map fun b=>.int .u8 (b.toNat:Int):=by rw[tZ h0];rfl
  refine yi ?_;refine za rfl (ymv (l:=45::Lib.decDigits i.natAbs) u46 u5 u9 (congrArg some (congrArg (fun n↦Value.slice A1 n c1) hl9.symm)) (qX Ob hxs) (zu ?_));exact ⟨by rw[hit];rfl,(LW.step E ak).toBelow⟩
theorem Pe (hn:0<i):Calls prog 158 #[.agg #[.bool (decide (i<0)),.slice A (av i).length c]] w (aI w (.string ⟨(Lib.itoa i).toArray⟩)):=by
 have h0:i≠0:=om;have hit:Lib.itoa i=Lib.decDigits i.natAbs:=by rw[Lib.itoa,if_neg om,show i.toNat=i.natAbs from om]
 have hl:((av i).length:Int)≠0:=by have:=Yd (j:=i) om;omega
 have hl2:=zsv hi;have hdi:decide (i<0)=false:=decide_eq_false om;obtain ⟨bx,ox,rfl,hbx,hcx⟩:=hx.2 (Yd om);refine zc func158 rfl ntmps158 rfl ?_;obtain ⟨HF,LW,ak,E⟩:=bg w;replace HF:=HF.and (Per.GU hx);refine zi ?_;intro aG w2 aA aK aP;obtain ⟨HF,LW,E⟩:=bD HF LW E ak aA aK;refine vp ?_;refine zd 8 (.bool false) rfl (by rw[beq_eq_false_iff_ne.2 hl]<;>rfl) (kz ?_);refine zd 10 (.bool false) rfl (by rw[hdi]<;>rfl) ?_;have Ob:World.ownsRow w2 w.heap.size 5 1 (.slice none 0 0) 0 ([]):=Yz;replace HF:=HF.cons (gh);replace E:=E.cons ((Value.slice none 0 0).ownBlock);replace ak:=aj.grow ak (fun k e=>Or.inr (Nat.le_trans LW.size ((gh) k e)));refine DY ?_;replace HF:=HF.on E;replace LW:=LW.step E ak;replace E:=aD (aj [((Value.slice none 0 0).ownBlock)]) w2;refine yw (ι:=Nat×Option Addr×Nat) (fun (k,A1,c1)=>[(1,.pointer (some ⟨aG,0,none⟩)),(3,.slice A1 (0+k) c1),(4,.int .i64 (((av i).length:Int)-1-(k:Int)))]) (fun (k,A1,c1) w'=>Ext (aj [((Value.slice none 0 0).ownBlock)]) w2 w'∧World.ownsRow w' w.heap.size 5 1 (.slice A1 (0+k) c1) (0+k) ([]++IZ (av i) k)∧(∀q9,((Value.slice A1 (0+k) c1).ownBlock)=some q9→((Value.slice none 0 0).ownBlock)=some q9∨w2.heap.size≤q9)∧(k≤(av i).length)) (fun (k,A1,c1)=>(av i).length-k) (0,none,0) ⟨rfl,rfl,rfl,trivial⟩ ⟨Ext.refl _ _,(by exact Ob),(fun _ e=>Or.inl e),Nat.zero_le _⟩ ?_;have LTb:=(jx Ob);clear Ob;rintro ⟨k,A1,c1⟩ w4 ⟨M3,Ob,ae5,hk⟩;have aV:eD (aj [((Value.slice A1 (0+k) c1).ownBlock)]) (aj [((Value.slice none 0 0).ownBlock)]) w2:=(aj.grow aj.none_ (fun k e=>(ae5 k e).elim (fun e=>Or.inl (aj.head k e)) Or.inr));replace E:=E.trans M3;replace HF:=HF.turn E aV;have IY:=LW.size;have XT:=fun q9 (h:(aj [((Value.slice A1 (0+k) c1).ownBlock)]) q9)=>(aV q9 h).elim (ak q9) (fun h=>Or.inr (Nat.le_trans LW.size h));replace LW:=LW.step E ak;replace ak:=XT;clear IY;replace E:=aD (aj [((Value.slice A1 (0+k) c1).ownBlock)]) w4;clear LTb;refine zp ?_;refine zg rfl (fun q=>?_) (fun q=>?_)
 ·
  have q:=of_decide_eq_true q;refine DX ?_;have hin:=vbk i ((av i).length-1-k);obtain ⟨b9,o9,hA9,_,hc9⟩:=((HF.on E).here.1.2).2 (Yd h0);obtain ⟨rfl,rfl⟩:b9=bx∧o9=ox:=by simpa using hA9.symm
  refine D5 ?_;intro dS w6 bN dW lI;have an6:Apart (some dS) ((Value.slice A1 (0+k) c1).ownBlock):=Apart.of_lt (jx Ob) lI;have aT1:=an6.symm;have lI:_≤dS:=Nat.le_trans E.size lI;have aW3:=Nat.le_trans LW.size lI;replace Ob:=vt Ob dW ah.nil;replace E:=E.trans dW.no;replace HF:=HF.cons (ym lI);replace E:=E.cons (some dS);replace ak:=aj.grow ak (fun k e=>Or.inr (Nat.le_trans LW.size ((ym lI) k e)));replace aV:=aj.grow aV (fun k e=>Or.inr (Nat.le_trans M3.size ((ym lI) k e)));replace HF:=HF.on E;replace LW:=LW.step E ak;replace M3:=M3.step E aV;have SB:∀q9,aj [((Value.slice A1 (0+k) c1).ownBlock)] q9→aj [(some dS),((Value.slice A1 (0+k) c1).ownBlock)] q9:=(aj.skip (aj.keep aj.aU));replace HF:=HF.less SB;replace ak:=fun k h=>ak k (SB k h);replace aV:=fun k h=>aV k (SB k h);clear SB;replace E:=aD (aj [((Value.slice A1 (0+k) c1).ownBlock)]) w6;replace HF:=HF.and (Per.aW bN (ah.cons an6 ah.nil));refine DZ ?_;intro v0 w7 On En KN;obtain ⟨A2,c2,rfl⟩:=gl On;replace KN:∀q9,((Value.slice A2 (0+(k+1)) c2).ownBlock)=some q9→((Value.slice A1 (0+k) c1).ownBlock)=some q9∨w6.heap.size≤q9:=KN;have HY:eD (aj [((Value.slice A2 (0+(k+1)) c2).ownBlock)]) (aj [((Value.slice A1 (0+k) c1).ownBlock)]) w6:=(aj.grow aj.none_ (fun k e=>(KN k e).elim (fun e=>Or.inl (aj.head k e)) (fun h=>Or.inr (Nat.le_trans E.size h))));replace ae5:∀q9,((Value.slice A2 (0+(k+1)) c2).ownBlock)=some q9→((Value.slice none 0 0).ownBlock)=some q9∨w2.heap.size≤q9:=fun k e=>(KN k e).elim (ae5 k) (fun h=>Or.inr (Nat.le_trans M3.size (Nat.le_trans E.size h)));replace E:=E.step1 En aj.head;have XT:=fun q9 (h:(aj [((Value.slice A2 (0+(k+1)) c2).ownBlock)]) q9)=>(HY q9 h).elim (ak q9) (fun h=>Or.inr (Nat.le_trans LW.size h));have XT:=fun q9 (h:(aj [((Value.slice A2 (0+(k+1)) c2).ownBlock)]) q9)=>(HY q9 h).elim (aV q9) (fun h=>Or.inr (Nat.le_trans M3.size h));replace M3:=M3.step E aV;replace aV:=XT;replace E:=aD (aj [((Value.slice A2 (0+(k+1)) c2).ownBlock)]) w7;clear HY;replace Ob:World.ownsRow w7 w.heap.size 5 1 (.slice A2 (0+(k+1)) c2) (0+(k+1)) ([]++IZ (av i) (k+1)):=by
   have e:(([]++IZ (av i) k):List Value)++([.int .u8 (48+(nth (av i) ((av i).length-1-k)))]:List Value)= []++IZ (av i) (k+1):=by rw[List.append_assoc,nO]
   rw[←e];exact On
  clear On KN En;refine D6 ?_;exact zo (k+1,A2,c2) (by show (av i).length-(k+1)<(av i).length-k;omega) ⟨rfl,rfl,rfl,trivial⟩ ⟨M3.step E aV,(by exact Ob),ae5,(by omega:k+1≤(av i).length)⟩
 ·
  have q:=of_decide_eq_false q;obtain rfl:k=(av i).length:=om;have hl9:(Lib.decDigits i.natAbs:List UInt8).length=0+(av i).length:=by simp[Lib.decDigits_length,LA h0];try omega
  have hxs:[]++IZ (av i) (av i).length=(Lib.decDigits i.natAbs:List UInt8).map fun b=>.int .u8 (b.toNat:Int):=by rw[tZ h0];rfl
  refine yi ?_;refine za rfl (ymv (l:=Lib.decDigits i.natAbs) u46 u5 u9 (congrArg some (congrArg (fun n↦Value.slice A1 n c1) hl9.symm)) (qX Ob hxs) (zu ?_));exact ⟨by rw[hit];rfl,(LW.step E ak).toBelow⟩
theorem Pf:Calls prog 158 #[.agg #[.bool (decide (i<0)),.slice A (av i).length c]] w (aI w (.string ⟨(Lib.itoa i).toArray⟩)):=by
 rcases Int.lt_trichotomy i 0 with h | h | h
 · exact Pd i A c w hi hx h
 · exact I4 i A c w hi hx h
 · exact Pe i A c w hi hx h
end
end Go.Proofs.YtmnmebdmpigddaaGreatDoor
namespace Go.Proofs.YtmnmebdmpigddaaGreatDoor
theorem WS {P:Prop} (h:P:=by
 rw[List.all_eq_true];intro x hx;exact List.all_eq_true.1 hs x (List.mem_of_mem_take (List.mem_of_mem_drop hx))):P:=h
theorem yak {n:Nat} (h:10≤n):Lib.decDigits n=Lib.decDigits (n/10)++ [UInt8.ofNat (48+n%10)]:=by
 rw[Lib.decDigits,dif_neg om]
theorem yfv {n:Nat} (h:n<10):Lib.decDigits n= [UInt8.ofNat (48+n)]:=Lib.decDigits_one h
def WT (k l:Nat):List UInt8:=List.replicate (k-Lib.nDigits l) 48++Lib.decDigits l
theorem Pg {k l:Nat} (hk:1≤k):WT (k+1) l=WT k (l/10)++ [UInt8.ofNat (48+l%10)]:=by
 unfold WT;rcases Nat.lt_or_ge l 10 with h | h
 · rw[Nat.div_eq_of_lt h,Nat.mod_eq_of_lt h,Lib.nDigits_small h,Lib.nDigits_small (by decide:0<10),yfv h,yfv (by decide:0<10)];obtain ⟨j,rfl⟩:∃j,k=j+1:=⟨k-1,om⟩;rw[show j+1+1-1=j+1 from om,show j+1-1=j from om,List.replicate_succ'];rfl
 · rw[Lib.nDigits_big om,yak h,←List.append_assoc,show k+1-(Lib.nDigits (l/10)+1)=k-Lib.nDigits (l/10) from om]
theorem D7 {a:Nat} (ha:0<a):∀(k l:Nat),l<10^(k+1)→Lib.decDigits (a*10^(k+1)+l)=Lib.decDigits a++WT (k+1) l
 | 0,l,hl=>by
  have h9:l<10:=by simpa using hl
  rw[yak om,show (a*10^(0+1)+l)/10=a from om,show (a*10^(0+1)+l)%10=l from om,WT,Lib.nDigits_small h9,yfv h9];rfl
 | k+1,l,hl=>by
  have e:a*10^(k+1+1)+l=10*(a*10^(k+1))+l:=by rw[Nat.pow_succ 10 (k+1),←Nat.mul_assoc,Nat.mul_comm _ 10]
  have h0:0<a*10^(k+1):=Nat.mul_pos ha (Nat.pow_pos de);have key:∀X l:Nat,(10*X+l)/10=X+l/10∧(10*X+l)%10=l%10∧(0<X→10≤10*X+l):=om;have hd:(a*10^(k+1+1)+l)/10=a*10^(k+1)+l/10:=by rw[e,(key _ _).1]
  have hm:(a*10^(k+1+1)+l)%10=l%10:=by rw[e,(key _ _).2.1]
  have hl2:l/10<10^(k+1):=by rw[Nat.pow_succ 10 (k+1)] at hl;omega
  rw[yak (by rw[e];exact (key _ _).2.2 h0),hd,hm,D7 ha k (l/10) hl2,Pg (k:=k+1) (l:=l) om,List.append_assoc]
theorem I5 {a l:Nat} (ha:0<a) (hl:l<au):Lib.decDigits (a*au+l)=Lib.decDigits a++(List.replicate (18-Lib.nDigits l) 48++Lib.decDigits l):=
 D7 ha 17 l (by simpa [au] using hl)
theorem nR {l:Nat} (hl:l<au):Lib.nDigits l≤18:=by
 rcases Nat.lt_or_ge l 10 with h | h
 · rw[Lib.nDigits_small h];omega
 · rcases Nat.lt_or_ge 18 (Lib.nDigits l) with h1 | h1
   · exfalso
     have h2:∀(k u:Nat),k+1<Lib.nDigits u→10^(k+1)≤u:=by
      intro k;induction k with
      | zero=>
       intro u hu;rcases Nat.lt_or_ge u 10 with h | h
       · rw[Lib.nDigits_small h] at hu;omega
       · simpa using h
      | succ k ih=>
       intro u hu;rcases Nat.lt_or_ge u 10 with h | h
       · rw[Lib.nDigits_small h] at hu;omega
       · rw[Lib.nDigits_big om] at hu;have:=ih (u/10) om;rw[Nat.pow_succ 10 (k+1)];omega
     have h3:=h2 17 l h1;have:(10:Nat)^(17+1)=au:=de;omega
   · exact h1
def kk (i:Int) (k:Nat):List UInt8:=(if i<0 then [45] else [])++(if k=0 then [] else Lib.decDigits (i.natAbs/au^((limbs i).length-k)))
theorem ae6 (i:Int) {k:Nat}:(limbs i).getD k 0=i.natAbs/au^k%au:=by
 rw[qo,qmx (by unfold au;omega) (kc qj _),gz qj]
theorem WU (i:Int) (k:Nat):nth (limbs i) k=((i.natAbs/au^k%au:Nat):Int):=by
 unfold nth;rw[ae6]
theorem Ph {i:Int} {k:Nat} (hk:k<(limbs i).length):0<i.natAbs/au^k:=by
 rcases Nat.eq_zero_or_pos (i.natAbs/au^k) with h | h
 · exfalso
   have h0:0<au^k:=Nat.pow_pos (by unfold au;omega);have h1:i.natAbs<au^k:=by
    rcases Nat.lt_or_ge i.natAbs (au^k) with h1 | h1
    · exact h1
    · have:=Nat.div_pos h1 h0;omega
   have:=(qg qj i.natAbs k).2 h1;rw[←qo] at this;omega
 · exact h
theorem yjk (i:Int):kk i 0=if i<0 then [45] else []:=by simp[kk]
theorem nS {i:Int} (h:0<(limbs i).length):kk i 0++Lib.decDigits (i.natAbs/au^((limbs i).length-1-0)%au)=kk i 1:=by
 have h1:i.natAbs<au^(limbs i).length:=(qg qj i.natAbs _).1 (by rw[←qo];exact Nat.le_refl _);have h2:i.natAbs/au^((limbs i).length-1)<au:=by
  rw[Nat.div_lt_iff_lt_mul (Nat.pow_pos (by unfold au;omega)),←Nat.pow_succ',Nat.succ_eq_add_one,show (limbs i).length-1+1=(limbs i).length from om];exact h1
 rw[Nat.sub_zero,Nat.mod_eq_of_lt h2];simp[kk]
theorem qzk {i:Int} {k:Nat} (hk0:0<k) (hk:k<(limbs i).length) :
 kk i k++(List.replicate (18-Lib.nDigits (i.natAbs/au^((limbs i).length-1-k)%au)) 48++Lib.decDigits (i.natAbs/au^((limbs i).length-1-k)%au))=kk i (k+1):=by
 have e:i.natAbs/au^((limbs i).length-k)=i.natAbs/au^((limbs i).length-1-k)/au:=by
  rw[Nat.div_div_eq_div_mul,←Nat.pow_succ,Nat.succ_eq_add_one,show (limbs i).length-1-k+1=(limbs i).length-k from om]
 have hp:=Ph (i:=i) (k:=(limbs i).length-k) om;have hj:=I5 (a:=i.natAbs/au^((limbs i).length-k)) (l:=i.natAbs/au^((limbs i).length-1-k)%au) hp (Nat.mod_lt _ (by unfold au;omega));rw[kk,kk,if_neg (show ¬k=0 from om),if_neg (show ¬k+1=0 from om),List.append_assoc,←hj,e,Nat.mul_comm,Nat.div_add_mod,show (limbs i).length-(k+1)=(limbs i).length-1-k from om]
theorem I6 {i:Int} (h:0<(limbs i).length):kk i (limbs i).length=Lib.itoa i:=by
 rw[kk,if_neg (show ¬(limbs i).length=0 from om),Nat.sub_self,Nat.pow_zero,Nat.div_one,Lib.itoa];split
 · rfl
 · rw[show i.toNat=i.natAbs from om];rfl
theorem I7 {i:Int} {k:Nat} (hk:k≤(limbs i).length) (hl:(limbs i).length≤30):(kk i k).length≤1+18*k:=by
 have h1:∀k,k≤(limbs i).length→(kk i k).length≤1+18*k:=by
  intro k;induction k with
  | zero=>intro _;rw[yjk];split<;>simp
  | succ k ih=>
   intro hk1;have h2:=ih om;have h3:i.natAbs/au^((limbs i).length-1-k)%au<au:=Nat.mod_lt _ (by unfold au;omega);have h4:=nR h3;rcases Nat.eq_zero_or_pos k with rfl | h0
   · rw[←nS om,List.length_append,Lib.decDigits_length];rw[Nat.sub_zero] at h4 ⊢;omega
   · rw[←qzk h0 om,List.length_append,List.length_append,List.length_replicate,Lib.decDigits_length];omega
 exact h1 k hk
theorem xM (b:Nat):∀(x y:List Nat),val b (x++y)=val b x+b^x.length*val b y
 | [],y=>by simp[val]
 | a::x,y=>by
  rw[List.cons_append,val,val,xM b x y,List.length_cons,Nat.pow_succ,Nat.mul_add,←Nat.add_assoc,Nat.mul_comm (b^x.length) b,Nat.mul_assoc]
theorem ysq (x y:List UInt8):ya (x++y)=ya x*10^y.length+ya y:=by
 unfold ya;rw[List.reverse_append,List.map_append,xM,List.length_map,List.length_reverse,Nat.mul_comm,Nat.add_comm]
theorem Pj:ya []=0:=rfl
theorem I8 (r:List UInt8):ya (48::r)=ya r:=by
 rw[show (48:UInt8)::r= [48]++r from rfl,ysq,show ya [48]=0 from rfl,Nat.zero_mul,Nat.zero_add]
theorem D8 {r:List UInt8} (h:r.all vd=true):ya r<10^r.length:=by
 have h1:=ki (b:=10) (l:=r.reverse.map dv) (qnk (by rw[List.all_reverse];exact h));simpa [ya] using h1
def xe:List UInt8→List UInt8
 | []=>[]
 | b::r=>if b=48 then xe r else b::r
theorem znx:∀r,ya (xe r)=ya r
 | []=>rfl
 | b::r=>by
  rw[xe];split
  · rename_i h;rw[h,I8,znx r]
  · rfl
theorem nT:∀r:List UInt8,∃k,k≤r.length∧xe r=r.drop k∧ ∀j,j<k→r[j]? =some 48
 | []=>⟨0,Nat.le_refl _,rfl,fun j h=>om⟩
 | b::r=>by
  by_cases h:b=48
  · obtain ⟨k,h1,h2,h3⟩:=nT r;refine ⟨k+1,by simp;omega,by rw[xe,if_pos h,h2];rfl,fun j hj=>?_⟩;cases j with
    | zero=>rw[h];rfl
    | succ j=>simpa using h3 j om
  · exact ⟨0,Nat.zero_le _,by rw[xe,if_neg h];rfl,fun j h=>om⟩
theorem I9 (r:List UInt8):(xe r).head? ≠some 48:=by
 induction r with
 | nil=>simp[xe]
 | cons b r ih=>
  rw[xe];split
  · exact ih
  · rename_i h;simpa using h
theorem zwk {r:List UInt8} (h:r.all vd=true):(xe r).all vd=true:=by
 obtain ⟨k,_,e,_⟩:=nT r;rw[e,List.all_eq_true];intro x hx;exact List.all_eq_true.1 h x (List.mem_of_mem_drop hx)
theorem WV {b:UInt8} {r:List UInt8} (h:(b::r).all vd=true) (hb:b≠48):10^r.length≤ya (b::r):=by
 rw[show b::r= [b]++r from rfl,ysq];have h1:vd b=true:=by rw[List.all_cons,Bool.and_eq_true] at h;exact h.1
 have h2:1≤ya [b]:=by
  have h3:ya [b]=dv b:=by simp[ya,val]
  rw[h3];unfold vd at h1;simp at h1
  have h4:b.toNat≠48:=fun e=>hb (UInt8.toNat_inj.1 e);unfold dv;omega
 calc 10^r.length=1*10^r.length:=(Nat.one_mul _).symm
  _≤ya [b]*10^r.length:=Nat.mul_le_mul_right _ h2
  _≤_:=Nat.le_add_right _ _
theorem ae7 {n:Nat} (h:n=18*30):au^30=10^n:=by rw[h,yhx]
theorem yqk {r:List UInt8} (h:r.all vd=true):(xe r).length≤540↔ya r<au^30:=by
 obtain ⟨n,hn⟩:∃n,n=540:=⟨_,rfl⟩;rw[←znx r,ae7 (n:=n) hn,←hn];have ha:=zwk h;have hh:=I9 r;generalize xe r=s at ha hh
 constructor
 · intro h1;exact Nat.lt_of_lt_of_le (D8 ha) (Nat.pow_le_pow_right de h1)
 · intro h1;cases s with
   | nil=>simp
   | cons b s=>
    have h2:=WV ha (by simpa using hh);rcases Nat.lt_or_ge s.length n with h3 | h3
    · simp;omega
    · have:=Nat.pow_le_pow_right (n:=10) de h3;exact absurd (Nat.lt_of_lt_of_le h1 (Nat.le_trans this h2)) (Nat.lt_irrefl _)
theorem yvz {s:List UInt8} (hs:s.all vd=true) {e k:Nat} {xs:List Nat} (hk:xs.length=k) (he:s.length=e+18*k) (hv:val au xs=ya (s.drop e)) :
 val au (xs++ [ya ((s.take e).drop (e-18))])=ya (s.drop (e-18)):=by
 have _:=hs;have e1:s.drop (e-18)=(s.take e).drop (e-18)++s.drop e:=by
  conv=>lhs;rw[←List.take_append_drop e s]
  rw[List.drop_append_of_le_length (by rw[List.length_take];omega)]
 rw[e1,ysq,xM,hv,hk,List.length_drop,he,show e+18*k-e=18*k from om,←yhx];simp only[val]
 rw[Nat.mul_zero,Nat.add_zero,Nat.mul_comm (au^k),Nat.add_comm]
theorem zlk {s:List UInt8} (hs:s.all vd=true) (e:Nat):ya ((s.take e).drop (e-18))<au:=by
 have h1:((s.take e).drop (e-18)).all vd=true:=by
  exact WS
 have h2:=D8 h1;refine Nat.lt_of_lt_of_le h2 ?_;have h3:((s.take e).drop (e-18)).length≤18:=by rw[List.length_drop,List.length_take];omega
 have h4:=Nat.pow_le_pow_right (n:=10) de h3;have h5:(10:Nat)^18=au:=de;omega
end Go.Proofs.YtmnmebdmpigddaaGreatDoor

/- Texts of this claim. -/
import Derived.Test.YtmnmebdmpigddaaGreatDoorB19
import Derived.Lib.ItoaNum
set_option maxRecDepth 100000
set_option maxHeartbeats 20000000
namespace Go.Proofs.YtmnmebdmpigddaaGreatDoor
open Go.RowKit Proofs.Tryz
section
attribute [local irreducible] OW RS CW EW
theorem Ej {P Q:Prop} (k:Q) (h:(Unit→Q)→P:=by
 intro zK;refine qc ?_;refine za rfl (jk (j:=(ah i).length-1-k) u46 gF rfl rfl om om ?_);exact zK ()):P:=h fun _=>k
theorem El {P Q:Prop} (k:Q) (h:(Unit→Q)→P:=by
 intro zK;refine qc ?_;refine yp ?_;refine ye ?_;refine yr 4 (.int .i64 (((ah i).length:Int)-1-((0:Nat):Int))) rfl (by simp) ?_;exact zK ()):P:=h fun _=>k
theorem Em {P Q:Prop} (k:Q) (h:(Unit→Q)→P:=by
 intro zK;refine za rfl (vkx (news:=[.int .u8 (48+(nth (ah i) ((ah i).length-1-k)))]) u46 Z4 rfl de rfl Ob rfl (qE (HF.on E).here.2 ((HF.on E).here.2).lt rfl) (by simp[Value.oneCell']) (by unfold maxLen;omega) om (by exact Nat.le_trans LW.size E.size) ?_);exact zK ()):P:=h fun _=>k
theorem Eo {P Q:Prop} (k:Q) (h:(Unit→Q)→P:=by
 intro zK;refine za rfl (jo u5 rfl rfl (hc9 ((ah i).length-1-k) om) (za rfl (je rfl rfl (qex om) (za rfl (zgq (cs:=#[.int .u8 (48+(nth (ah i) ((ah i).length-1-k)))]) u46 gF zr5 de rfl (by rw[yaz];rfl) ?_)))));exact zK ()):P:=h fun _=>k
theorem Ep {P Q:Prop} (k:Q) (h:(Unit→Q)→P:=by
 intro zK;refine zo ?_;refine yp ?_;refine zi ?_;refine qf 4 (.int .i64 (((ah i).length:Int)-1-((k+1:Nat):Int))) rfl ((by rw[show ((ah i).length:Int)-1-(k:Int)-1=((ah i).length:Int)-1-((k+1:Nat):Int) from om]:(.int .i64 ((((ah i).length:Int)-1-(k:Int))-1):Value)=_)) ?_;exact zK ()):P:=h fun _=>k
theorem Xw {P:Prop} (h:P:=by
 refine yk ?_;have e:Lib.itoa 0= [48]:=by rw[Lib.itoa,if_neg de,Lib.decDigits];rfl
 refine aK ?_;exact ⟨by rw[h0,e];rfl,aP LW E ak⟩):P:=h
def I8 (ds:List Nat) (k:Nat):List Value:=(List.range k).map fun j=>.int .u8 (48+nth ds (ds.length-1-j))
theorem nk (ds:List Nat) (k:Nat):I8 ds k++ [.int .u8 (48+nth ds (ds.length-1-k))]=I8 ds (k+1):=by simp[I8,List.range_succ]
theorem vpk (i:Int) (k:Nat):0≤nth (ah i) k∧nth (ah i) k≤9:=by rw[ztz];omega
theorem nu {n:Nat} (hn:n≠0):(aS 10 n).length=Lib.nDigits n:=by
 induction n using vcz (b:=10) de with
 | h0=>exact absurd rfl hn
 | hs n h0 ih=>
  rw[kg de h0];by_cases h:n<10
  · rw[Nat.div_eq_of_lt h,Lib.nDigits_small h];rfl
  · rw[Lib.nDigits_big h,List.length_cons,ih om]
theorem K9 {i:Int} (h:i≠0):(ah i).length=Lib.nDigits i.natAbs:=by rw[qa];exact nu om
theorem tQ {i:Int} (h:i≠0):I8 (ah i) (ah i).length=(Lib.decDigits i.natAbs).map fun b=>.int .u8 (b.toNat:Int):=by
 have hl:(ah i).length=Lib.nDigits i.natAbs:=by rw[qa];exact nu om
 rw[Lib.decDigits_eq,I8,hl,List.map_map];apply List.map_congr_left
 intro j _;simp only[Function.comp_apply,ztz,Lib.dg]
 have h9:i.natAbs/10^(Lib.nDigits i.natAbs-1-j)%10<10:=Nat.mod_lt _ de;generalize i.natAbs/10^(Lib.nDigits i.natAbs-1-j)%10=u at h9 ⊢
 have e:(UInt8.ofNat (48+u)).toNat=48+u:=by simp;omega
 rw[e];simp
section
variable (i:Int) (A:Option Addr) (c:Nat) (w:World) (hi:i.natAbs<av^30) (hx:aH w A (ah i))
include hi hx
theorem I9 (h0:i=0):Calls prog 158 #[.agg #[.bool (decide (i<0)),.slice A (ah i).length c]] w (aF w (.string ⟨(Lib.itoa i).toArray⟩)):=by
 have _:=And.intro hi hx;have hl:((ah i).length:Int)=0:=by rw[h0,bD];rfl
 refine zj func158 ntmps158 fun HF LW ak E=>?_;refine zi ?_;refine zg HF LW E ak fun aO w2 HF LW E=>?_;refine vp ?_;refine qm 8 rfl (by rw[hl];rfl) ?_;exact Xw
theorem Pg (hn:i<0):Calls prog 158 #[.agg #[.bool (decide (i<0)),.slice A (ah i).length c]] w (aF w (.string ⟨(Lib.itoa i).toArray⟩)):=by
 have h0:i≠0:=om;have hit:Lib.itoa i=45::Lib.decDigits i.natAbs:=by rw[Lib.itoa,if_pos hn]
 have hl:((ah i).length:Int)≠0:=by have:=Uc (j:=i) om;omega
 have hl2:=zrk hi;have hdi:decide (i<0)=true:=decide_eq_true hn;obtain ⟨bx,ox,rfl,hbx,hcx⟩:=hx.2 (Uc om);refine zj func158 ntmps158 fun HF LW ak E=>?_;replace HF:=HF.and (Per.eY hx);refine zi ?_;refine zg HF LW E ak fun aO w2 HF LW E=>?_;refine vp ?_;refine zw 8 rfl (by rw[beq_eq_false_iff_ne.2 hl]<;>rfl) (xf ?_);refine qm 10 rfl (by rw[hdi]<;>rfl) ?_;have Ob:World.ownsRow w2 w.heap.size 5 1 (.slice none 0 0) 0 ([]):=jA;replace HF:=HF.cons (uQ);replace E:=E.cons ((Value.slice none 0 0).ownBlock);replace ak:=aj.grow ak (fun k e=>Or.inr (Nat.le_trans LW.size ((uQ) k e)));refine zr ?_;refine za rfl (zgq (cs:=#[.int .u8 45]) u46 gF zr5 de rfl (by rw[yaz];rfl) ?_);intro bM w4 bP Eb3 sj;have asq:Apart (some bM) ((Value.slice none 0 0).ownBlock):=Apart.of_lt (ypk Ob) sj;have bd7:=asq.symm;have sj:_≤bM:=Nat.le_trans E.size sj;have bb8:=Nat.le_trans LW.size sj;replace Ob:=qgk Ob Eb3 au.nil;replace E:=E.trans Eb3.no;replace HF:=HF.cons (gu sj);replace E:=E.cons (some bM);replace ak:=aj.grow ak (fun k e=>Or.inr (Nat.le_trans LW.size ((gu sj) k e)));obtain ⟨HF,LW,ak,E⟩:=d9 HF LW E ak (Y:=aj [((Value.slice none 0 0).ownBlock)]) (aj.skip (aj.keep aj.bI)) (Per.bH bP (au.cons asq au.nil));refine za rfl (vkx (news:=[.int .u8 45]) u46 Z4 rfl de rfl Ob rfl (qE (HF.on E).here.2 ((HF.on E).here.2).lt rfl) (by simp[Value.oneCell']) (by unfold maxLen;omega) om (by exact Nat.le_trans LW.size E.size) ?_);intro v0 w5 On En KN;obtain ⟨A0,c0,rfl⟩:=zzv On;replace KN:∀q9,((Value.slice A0 1 c0).ownBlock)=some q9→((Value.slice none 0 0).ownBlock)=some q9∨w4.heap.size≤q9:=KN;have HY:oK (aj [((Value.slice A0 1 c0).ownBlock)]) (aj [((Value.slice none 0 0).ownBlock)]) w4:=(aj.grow aj.none_ (fun k e=>(KN k e).elim (fun e=>Or.inl (aj.head k e)) (fun h=>Or.inr (Nat.le_trans E.size h))));replace E:=E.step1 En aj.head;replace HF:=HF.turn E HY;have XT:=fun q9 (h:(aj [((Value.slice A0 1 c0).ownBlock)]) q9)=>(HY q9 h).elim (ak q9) (fun h=>Or.inr (Nat.le_trans LW.size h));replace LW:=LW.step E ak;replace ak:=XT;replace E:=aC (aj [((Value.slice A0 1 c0).ownBlock)]) w5;clear HY;replace Ob:World.ownsRow w5 w.heap.size 5 1 (.slice A0 1 c0) 1 ([.int .u8 45]):=by
  have e:(([]):List Value)++([.int .u8 45]:List Value)= [.int .u8 45]:=rfl;rw[←e];exact On
 clear On KN En;refine El ?_;replace HF:=HF.on E;replace LW:=LW.step E ak;replace E:=aC (aj [((Value.slice A0 1 c0).ownBlock)]) w5;refine qw (ι:=Nat×Option Addr×Nat) (fun (k,A1,c1)=>[(1,.pointer (some ⟨aO,0,none⟩)),(3,.slice A1 (1+k) c1),(4,.int .i64 (((ah i).length:Int)-1-(k:Int)))]) (fun (k,A1,c1) w'=>Ext (aj [((Value.slice A0 1 c0).ownBlock)]) w5 w'∧World.ownsRow w' w.heap.size 5 1 (.slice A1 (1+k) c1) (1+k) ([.int .u8 45]++I8 (ah i) k)∧(∀q9,((Value.slice A1 (1+k) c1).ownBlock)=some q9→((Value.slice A0 1 c0).ownBlock)=some q9∨w5.heap.size≤q9)∧(k≤(ah i).length)) (fun (k,A1,c1)=>(ah i).length-k) (0,A0,c0) ⟨rfl,rfl,rfl,trivial⟩ ⟨Ext.refl _ _,(by exact Ob),(fun _ e=>Or.inl e),Nat.zero_le _⟩ ?_;have LTb:=(ypk Ob);clear Ob;rintro ⟨k,A1,c1⟩ w7 ⟨M6,Ob,aij,hk⟩;have iw:oK (aj [((Value.slice A1 (1+k) c1).ownBlock)]) (aj [((Value.slice A0 1 c0).ownBlock)]) w5:=(aj.grow aj.none_ (fun k e=>(aij k e).elim (fun e=>Or.inl (aj.head k e)) Or.inr));replace E:=E.trans M6;replace HF:=HF.turn E iw;have ZLW:=LW.size;have XT:=fun q9 (h:(aj [((Value.slice A1 (1+k) c1).ownBlock)]) q9)=>(iw q9 h).elim (ak q9) (fun h=>Or.inr (Nat.le_trans LW.size h));replace LW:=LW.step E ak;replace ak:=XT;clear ZLW;replace E:=aC (aj [((Value.slice A1 (1+k) c1).ownBlock)]) w7;clear LTb;refine zp ?_;refine zf rfl (fun q=>?_) (fun q=>?_)
 ·
  have q:=of_decide_eq_true q;refine Ej ?_;have hin:=vpk i ((ah i).length-1-k);obtain ⟨b9,o9,hA9,_,hc9⟩:=((HF.on E).here.1.1.2).2 (Uc h0);obtain ⟨rfl,rfl⟩:b9=bx∧o9=ox:=by simpa using hA9.symm
  refine Eo ?_;intro bR w9 aZ dz eD;have asz:Apart (some bR) ((Value.slice A1 (1+k) c1).ownBlock):=Apart.of_lt (ypk Ob) eD;have bd8:=asz.symm;have eD:_≤bR:=Nat.le_trans E.size eD;have bg9:=Nat.le_trans LW.size eD;replace Ob:=qgk Ob dz au.nil;replace E:=E.trans dz.no;replace HF:=HF.cons (gu eD);replace E:=E.cons (some bR);replace ak:=aj.grow ak (fun k e=>Or.inr (Nat.le_trans LW.size ((gu eD) k e)));replace iw:=aj.grow iw (fun k e=>Or.inr (Nat.le_trans M6.size ((gu eD) k e)));replace HF:=HF.on E;replace LW:=LW.step E ak;replace M6:=M6.step E iw;have SB:∀q9,aj [((Value.slice A1 (1+k) c1).ownBlock)] q9→aj [(some bR),((Value.slice A1 (1+k) c1).ownBlock)] q9:=(aj.skip (aj.keep aj.bI));replace HF:=HF.less SB;replace ak:=fun k h=>ak k (SB k h);replace iw:=fun k h=>iw k (SB k h);clear SB;replace E:=aC (aj [((Value.slice A1 (1+k) c1).ownBlock)]) w9;replace HF:=HF.and (Per.bH aZ (au.cons asz au.nil));refine Em ?_;intro v0 dI On En KN;obtain ⟨A2,c2,rfl⟩:=zzv On;replace KN:∀q9,((Value.slice A2 (1+(k+1)) c2).ownBlock)=some q9→((Value.slice A1 (1+k) c1).ownBlock)=some q9∨w9.heap.size≤q9:=KN;have HY:oK (aj [((Value.slice A2 (1+(k+1)) c2).ownBlock)]) (aj [((Value.slice A1 (1+k) c1).ownBlock)]) w9:=(aj.grow aj.none_ (fun k e=>(KN k e).elim (fun e=>Or.inl (aj.head k e)) (fun h=>Or.inr (Nat.le_trans E.size h))));replace aij:∀q9,((Value.slice A2 (1+(k+1)) c2).ownBlock)=some q9→((Value.slice A0 1 c0).ownBlock)=some q9∨w5.heap.size≤q9:=fun k e=>(KN k e).elim (aij k) (fun h=>Or.inr (Nat.le_trans M6.size (Nat.le_trans E.size h)));replace E:=E.step1 En aj.head;have XT:=fun q9 (h:(aj [((Value.slice A2 (1+(k+1)) c2).ownBlock)]) q9)=>(HY q9 h).elim (ak q9) (fun h=>Or.inr (Nat.le_trans LW.size h));have XT:=fun q9 (h:(aj [((Value.slice A2 (1+(k+1)) c2).ownBlock)]) q9)=>(HY q9 h).elim (iw q9) (fun h=>Or.inr (Nat.le_trans M6.size h));replace M6:=M6.step E iw;replace iw:=XT;replace E:=aC (aj [((Value.slice A2 (1+(k+1)) c2).ownBlock)]) dI;clear HY;replace Ob:World.ownsRow dI w.heap.size 5 1 (.slice A2 (1+(k+1)) c2) (1+(k+1)) ([.int .u8 45]++I8 (ah i) (k+1)):=by
   have e:(([.int .u8 45]++I8 (ah i) k):List Value)++([.int .u8 (48+(nth (ah i) ((ah i).length-1-k)))]:List Value)= [.int .u8 45]++I8 (ah i) (k+1):=by rw[List.append_assoc,nk]
   rw[←e];exact On
  clear On KN En;refine Ep ?_;exact zx (k+1,A2,c2) (by show (ah i).length-(k+1)<(ah i).length-k;omega) ⟨rfl,rfl,rfl,trivial⟩ ⟨M6.step E iw,(by exact Ob),aij,(by omega:k+1≤(ah i).length)⟩
 ·
  have q:=of_decide_eq_false q;obtain rfl:k=(ah i).length:=om;have hl9:(45::Lib.decDigits i.natAbs:List UInt8).length=1+(ah i).length:=by simp[Lib.decDigits_length,K9 h0];try omega
  have hxs:[.int .u8 45]++I8 (ah i) (ah i).length=(45::Lib.decDigits i.natAbs:List UInt8).map fun b=>.int .u8 (b.toNat:Int):=by rw[tQ h0];rfl
  refine yk ?_;refine za rfl (qak (l:=45::Lib.decDigits i.natAbs) u46 u5 u9 (congrArg some (congrArg (fun n↦Value.slice A1 n c1) hl9.symm)) (qD Ob hxs) (zn ?_));exact ⟨by rw[hit];rfl,aP LW E ak⟩
theorem Ph (hn:0<i):Calls prog 158 #[.agg #[.bool (decide (i<0)),.slice A (ah i).length c]] w (aF w (.string ⟨(Lib.itoa i).toArray⟩)):=by
 have h0:i≠0:=om;have hit:Lib.itoa i=Lib.decDigits i.natAbs:=by rw[Lib.itoa,if_neg om,show i.toNat=i.natAbs from om]
 have hl:((ah i).length:Int)≠0:=by have:=Uc (j:=i) om;omega
 have hl2:=zrk hi;have hdi:decide (i<0)=false:=decide_eq_false om;obtain ⟨bx,ox,rfl,hbx,hcx⟩:=hx.2 (Uc om);refine zj func158 ntmps158 fun HF LW ak E=>?_;replace HF:=HF.and (Per.eY hx);refine zi ?_;refine zg HF LW E ak fun aO w2 HF LW E=>?_;refine vp ?_;refine zw 8 rfl (by rw[beq_eq_false_iff_ne.2 hl]<;>rfl) (xf ?_);refine zw 10 rfl (by rw[hdi]<;>rfl) ?_;have Ob:World.ownsRow w2 w.heap.size 5 1 (.slice none 0 0) 0 ([]):=jA;replace HF:=HF.cons (uQ);replace E:=E.cons ((Value.slice none 0 0).ownBlock);replace ak:=aj.grow ak (fun k e=>Or.inr (Nat.le_trans LW.size ((uQ) k e)));refine El ?_;replace HF:=HF.on E;replace LW:=LW.step E ak;replace E:=aC (aj [((Value.slice none 0 0).ownBlock)]) w2;refine qw (ι:=Nat×Option Addr×Nat) (fun (k,A1,c1)=>[(1,.pointer (some ⟨aO,0,none⟩)),(3,.slice A1 (0+k) c1),(4,.int .i64 (((ah i).length:Int)-1-(k:Int)))]) (fun (k,A1,c1) w'=>Ext (aj [((Value.slice none 0 0).ownBlock)]) w2 w'∧World.ownsRow w' w.heap.size 5 1 (.slice A1 (0+k) c1) (0+k) ([]++I8 (ah i) k)∧(∀q9,((Value.slice A1 (0+k) c1).ownBlock)=some q9→((Value.slice none 0 0).ownBlock)=some q9∨w2.heap.size≤q9)∧(k≤(ah i).length)) (fun (k,A1,c1)=>(ah i).length-k) (0,none,0) ⟨rfl,rfl,rfl,trivial⟩ ⟨Ext.refl _ _,(by exact Ob),(fun _ e=>Or.inl e),Nat.zero_le _⟩ ?_;have LTb:=(ypk Ob);clear Ob;rintro ⟨k,A1,c1⟩ w4 ⟨M3,Ob,aj0,hk⟩;have dD:oK (aj [((Value.slice A1 (0+k) c1).ownBlock)]) (aj [((Value.slice none 0 0).ownBlock)]) w2:=(aj.grow aj.none_ (fun k e=>(aj0 k e).elim (fun e=>Or.inl (aj.head k e)) Or.inr));replace E:=E.trans M3;replace HF:=HF.turn E dD;have ZLW:=LW.size;have XT:=fun q9 (h:(aj [((Value.slice A1 (0+k) c1).ownBlock)]) q9)=>(dD q9 h).elim (ak q9) (fun h=>Or.inr (Nat.le_trans LW.size h));replace LW:=LW.step E ak;replace ak:=XT;clear ZLW;replace E:=aC (aj [((Value.slice A1 (0+k) c1).ownBlock)]) w4;clear LTb;refine zp ?_;refine zf rfl (fun q=>?_) (fun q=>?_)
 ·
  have q:=of_decide_eq_true q;refine Ej ?_;have hin:=vpk i ((ah i).length-1-k);obtain ⟨b9,o9,hA9,_,hc9⟩:=((HF.on E).here.1.2).2 (Uc h0);obtain ⟨rfl,rfl⟩:b9=bx∧o9=ox:=by simpa using hA9.symm
  refine Eo ?_;intro aJ w6 ay dw dJ;have asx:Apart (some aJ) ((Value.slice A1 (0+k) c1).ownBlock):=Apart.of_lt (ypk Ob) dJ;have bd9:=asx.symm;have dJ:_≤aJ:=Nat.le_trans E.size dJ;have bb9:=Nat.le_trans LW.size dJ;replace Ob:=qgk Ob dw au.nil;replace E:=E.trans dw.no;replace HF:=HF.cons (gu dJ);replace E:=E.cons (some aJ);replace ak:=aj.grow ak (fun k e=>Or.inr (Nat.le_trans LW.size ((gu dJ) k e)));replace dD:=aj.grow dD (fun k e=>Or.inr (Nat.le_trans M3.size ((gu dJ) k e)));replace HF:=HF.on E;replace LW:=LW.step E ak;replace M3:=M3.step E dD;have SB:∀q9,aj [((Value.slice A1 (0+k) c1).ownBlock)] q9→aj [(some aJ),((Value.slice A1 (0+k) c1).ownBlock)] q9:=(aj.skip (aj.keep aj.bI));replace HF:=HF.less SB;replace ak:=fun k h=>ak k (SB k h);replace dD:=fun k h=>dD k (SB k h);clear SB;replace E:=aC (aj [((Value.slice A1 (0+k) c1).ownBlock)]) w6;replace HF:=HF.and (Per.bH ay (au.cons asx au.nil));refine Em ?_;intro v0 w7 On En KN;obtain ⟨A2,c2,rfl⟩:=zzv On;replace KN:∀q9,((Value.slice A2 (0+(k+1)) c2).ownBlock)=some q9→((Value.slice A1 (0+k) c1).ownBlock)=some q9∨w6.heap.size≤q9:=KN;have HY:oK (aj [((Value.slice A2 (0+(k+1)) c2).ownBlock)]) (aj [((Value.slice A1 (0+k) c1).ownBlock)]) w6:=(aj.grow aj.none_ (fun k e=>(KN k e).elim (fun e=>Or.inl (aj.head k e)) (fun h=>Or.inr (Nat.le_trans E.size h))));replace aj0:∀q9,((Value.slice A2 (0+(k+1)) c2).ownBlock)=some q9→((Value.slice none 0 0).ownBlock)=some q9∨w2.heap.size≤q9:=fun k e=>(KN k e).elim (aj0 k) (fun h=>Or.inr (Nat.le_trans M3.size (Nat.le_trans E.size h)));replace E:=E.step1 En aj.head;have XT:=fun q9 (h:(aj [((Value.slice A2 (0+(k+1)) c2).ownBlock)]) q9)=>(HY q9 h).elim (ak q9) (fun h=>Or.inr (Nat.le_trans LW.size h));have XT:=fun q9 (h:(aj [((Value.slice A2 (0+(k+1)) c2).ownBlock)]) q9)=>(HY q9 h).elim (dD q9) (fun h=>Or.inr (Nat.le_trans M3.size h));replace M3:=M3.step E dD;replace dD:=XT;replace E:=aC (aj [((Value.slice A2 (0+(k+1)) c2).ownBlock)]) w7;clear HY;replace Ob:World.ownsRow w7 w.heap.size 5 1 (.slice A2 (0+(k+1)) c2) (0+(k+1)) ([]++I8 (ah i) (k+1)):=by
   have e:(([]++I8 (ah i) k):List Value)++([.int .u8 (48+(nth (ah i) ((ah i).length-1-k)))]:List Value)= []++I8 (ah i) (k+1):=by rw[List.append_assoc,nk]
   rw[←e];exact On
  clear On KN En;refine Ep ?_;exact zx (k+1,A2,c2) (by show (ah i).length-(k+1)<(ah i).length-k;omega) ⟨rfl,rfl,rfl,trivial⟩ ⟨M3.step E dD,(by exact Ob),aj0,(by omega:k+1≤(ah i).length)⟩
 ·
  have q:=of_decide_eq_false q;obtain rfl:k=(ah i).length:=om;have hl9:(Lib.decDigits i.natAbs:List UInt8).length=0+(ah i).length:=by simp[Lib.decDigits_length,K9 h0];try omega
  have hxs:[]++I8 (ah i) (ah i).length=(Lib.decDigits i.natAbs:List UInt8).map fun b=>.int .u8 (b.toNat:Int):=by rw[tQ h0];rfl
  refine yk ?_;refine za rfl (qak (l:=Lib.decDigits i.natAbs) u46 u5 u9 (congrArg some (congrArg (fun n↦Value.slice A1 n c1) hl9.symm)) (qD Ob hxs) (zn ?_));exact ⟨by rw[hit];rfl,aP LW E ak⟩
theorem Pj:Calls prog 158 #[.agg #[.bool (decide (i<0)),.slice A (ah i).length c]] w (aF w (.string ⟨(Lib.itoa i).toArray⟩)):=by
 rcases Int.lt_trichotomy i 0 with h | h | h
 · exact Pg i A c w hi hx h
 · exact I9 i A c w hi hx h
 · exact Ph i A c w hi hx h
end
end
theorem ymk {n:Nat} (h:10≤n):Lib.decDigits n=Lib.decDigits (n/10)++ [UInt8.ofNat (48+n%10)]:=by
 rw[Lib.decDigits,dif_neg om]
theorem ytz {n:Nat} (h:n<10):Lib.decDigits n= [UInt8.ofNat (48+n)]:=Lib.decDigits_one h
def Xx (k l:Nat):List UInt8:=List.replicate (k-Lib.nDigits l) 48++Lib.decDigits l
theorem Pk {k l:Nat} (hk:1≤k):Xx (k+1) l=Xx k (l/10)++ [UInt8.ofNat (48+l%10)]:=by
 unfold Xx;rcases Nat.lt_or_ge l 10 with h | h
 · rw[Nat.div_eq_of_lt h,Nat.mod_eq_of_lt h,Lib.nDigits_small h,Lib.nDigits_small (by decide:0<10),ytz h,ytz (by decide:0<10)];obtain ⟨j,rfl⟩:∃j,k=j+1:=⟨k-1,om⟩;rw[show j+1+1-1=j+1 from om,show j+1-1=j from om,List.replicate_succ'];rfl
 · rw[Lib.nDigits_big om,ymk h,←List.append_assoc,show k+1-(Lib.nDigits (l/10)+1)=k-Lib.nDigits (l/10) from om]
theorem Er {a:Nat} (ha:0<a):∀(k l:Nat),l<10^(k+1)→Lib.decDigits (a*10^(k+1)+l)=Lib.decDigits a++Xx (k+1) l
 | 0,l,hl=>by
  have h9:l<10:=by simpa using hl
  rw[ymk om,show (a*10^(0+1)+l)/10=a from om,show (a*10^(0+1)+l)%10=l from om,Xx,Lib.nDigits_small h9,ytz h9];rfl
 | k+1,l,hl=>by
  have e:a*10^(k+1+1)+l=10*(a*10^(k+1))+l:=by rw[Nat.pow_succ 10 (k+1),←Nat.mul_assoc,Nat.mul_comm _ 10]
  have h0:0<a*10^(k+1):=Nat.mul_pos ha (Nat.pow_pos de);have key:∀X l:Nat,(10*X+l)/10=X+l/10∧(10*X+l)%10=l%10∧(0<X→10≤10*X+l):=om;have hd:(a*10^(k+1+1)+l)/10=a*10^(k+1)+l/10:=by rw[e,(key _ _).1]
  have hm:(a*10^(k+1+1)+l)%10=l%10:=by rw[e,(key _ _).2.1]
  have hl2:l/10<10^(k+1):=by rw[Nat.pow_succ 10 (k+1)] at hl;omega
  rw[ymk (by rw[e];exact (key _ _).2.2 h0),hd,hm,Er ha k (l/10) hl2,Pk (k:=k+1) (l:=l) om,List.append_assoc]
theorem Ja {a l:Nat} (ha:0<a) (hl:l<av):Lib.decDigits (a*av+l)=Lib.decDigits a++(List.replicate (18-Lib.nDigits l) 48++Lib.decDigits l):=
 Er ha 17 l (by simpa [av] using hl)
theorem ny {l:Nat} (hl:l<av):Lib.nDigits l≤18:=by
 rcases Nat.lt_or_ge l 10 with h | h
 · rw[Lib.nDigits_small h];omega
 · rcases Nat.lt_or_ge 18 (Lib.nDigits l) with h1 | h1
   · exfalso
     have h2:∀(k u:Nat),k+1<Lib.nDigits u→10^(k+1)≤u:=by
      intro k;induction k with
      | zero=>
       intro u hu;rcases Nat.lt_or_ge u 10 with h | h
       · rw[Lib.nDigits_small h] at hu;omega
       · simpa using h
      | succ k ih=>
       intro u hu;rcases Nat.lt_or_ge u 10 with h | h
       · rw[Lib.nDigits_small h] at hu;omega
       · rw[Lib.nDigits_big om] at hu;have:=ih (u/10) om;rw[Nat.pow_succ 10 (k+1)];omega
     have h3:=h2 17 l h1;have:(10:Nat)^(17+1)=av:=de;omega
   · exact h1
def xk (i:Int) (k:Nat):List UInt8:=(if i<0 then [45] else [])++(if k=0 then [] else Lib.decDigits (i.natAbs/av^((limbs i).length-k)))
theorem aj1 (i:Int) {k:Nat}:(limbs i).getD k 0=i.natAbs/av^k%av:=by
 rw[qo,vaq (by unfold av;omega) (xd qk _),kx qk]
theorem Xy (i:Int) (k:Nat):nth (limbs i) k=((i.natAbs/av^k%av:Nat):Int):=by
 unfold nth;rw[aj1]
theorem Pm {i:Int} {k:Nat} (hk:k<(limbs i).length):0<i.natAbs/av^k:=by
 rcases Nat.eq_zero_or_pos (i.natAbs/av^k) with h | h
 · exfalso
   have h0:0<av^k:=Nat.pow_pos (by unfold av;omega);have h1:i.natAbs<av^k:=by
    rcases Nat.lt_or_ge i.natAbs (av^k) with h1 | h1
    · exact h1
    · have:=Nat.div_pos h1 h0;omega
   have:=(zz qk i.natAbs k).2 h1;rw[←qo] at this;omega
 · exact h
theorem ywv (i:Int):xk i 0=if i<0 then [45] else []:=by simp[xk]
theorem nA {i:Int} (h:0<(limbs i).length):xk i 0++Lib.decDigits (i.natAbs/av^((limbs i).length-1-0)%av)=xk i 1:=by
 have h1:i.natAbs<av^(limbs i).length:=(zz qk i.natAbs _).1 (by rw[←qo];exact Nat.le_refl _);have h2:i.natAbs/av^((limbs i).length-1)<av:=by
  rw[Nat.div_lt_iff_lt_mul (Nat.pow_pos (by unfold av;omega)),←Nat.pow_succ',Nat.succ_eq_add_one,show (limbs i).length-1+1=(limbs i).length from om];exact h1
 rw[Nat.sub_zero,Nat.mod_eq_of_lt h2];simp[xk]
theorem vox {i:Int} {k:Nat} (hk0:0<k) (hk:k<(limbs i).length) :
 xk i k++(List.replicate (18-Lib.nDigits (i.natAbs/av^((limbs i).length-1-k)%av)) 48++Lib.decDigits (i.natAbs/av^((limbs i).length-1-k)%av))=xk i (k+1):=by
 have e:i.natAbs/av^((limbs i).length-k)=i.natAbs/av^((limbs i).length-1-k)/av:=by
  rw[Nat.div_div_eq_div_mul,←Nat.pow_succ,Nat.succ_eq_add_one,show (limbs i).length-1-k+1=(limbs i).length-k from om]
 have hp:=Pm (i:=i) (k:=(limbs i).length-k) om;have hj:=Ja (a:=i.natAbs/av^((limbs i).length-k)) (l:=i.natAbs/av^((limbs i).length-1-k)%av) hp (Nat.mod_lt _ (by unfold av;omega));rw[xk,xk,if_neg (show ¬k=0 from om),if_neg (show ¬k+1=0 from om),List.append_assoc,←hj,e,Nat.mul_comm,Nat.div_add_mod,show (limbs i).length-(k+1)=(limbs i).length-1-k from om]
theorem Jc {i:Int} (h:0<(limbs i).length):xk i (limbs i).length=Lib.itoa i:=by
 rw[xk,if_neg (show ¬(limbs i).length=0 from om),Nat.sub_self,Nat.pow_zero,Nat.div_one,Lib.itoa];split
 · rfl
 · rw[show i.toNat=i.natAbs from om];rfl
theorem Jd {i:Int} {k:Nat} (hk:k≤(limbs i).length) (hl:(limbs i).length≤30):(xk i k).length≤1+18*k:=by
 have h1:∀k,k≤(limbs i).length→(xk i k).length≤1+18*k:=by
  intro k;induction k with
  | zero=>intro _;rw[ywv];split<;>simp
  | succ k ih=>
   intro hk1;have h2:=ih om;have h3:i.natAbs/av^((limbs i).length-1-k)%av<av:=Nat.mod_lt _ (by unfold av;omega);have h4:=ny h3;rcases Nat.eq_zero_or_pos k with rfl | h0
   · rw[←nA om,List.length_append,Lib.decDigits_length];rw[Nat.sub_zero] at h4 ⊢;omega
   · rw[←vox h0 om,List.length_append,List.length_append,List.length_replicate,Lib.decDigits_length];omega
 exact h1 k hk
def strip:List UInt8→List UInt8
 | []=>[]
 | b::r=>if b=48 then strip r else b::r
end Go.Proofs.YtmnmebdmpigddaaGreatDoor

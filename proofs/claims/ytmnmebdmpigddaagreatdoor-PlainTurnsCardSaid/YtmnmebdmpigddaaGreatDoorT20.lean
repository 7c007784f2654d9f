/- Texts of this claim. -/
import Derived.Test.YtmnmebdmpigddaaGreatDoorT19
import Derived.Lib.ItoaNum
set_option maxRecDepth 100000
set_option maxHeartbeats 20000000
namespace Go.Proofs.YtmnmebdmpigddaaGreatDoor
open Go.RowKit
theorem stpdq322 {P Q:Prop} (k:Q) (h:(Unit→Q)→P:=by
 intro zK;refine qd ?_;refine za rfl (kd (j:=(tens i).length-1-k) u46 sz5 rfl rfl (by omega) (by omega) ?_);exact zK ()):P:=h fun _=>k
theorem stpdq306 {P Q:Prop} (k:Q) (h:(Unit→Q)→P:=by
 intro zK;refine qd ?_;refine yl ?_;refine zx ?_;refine zd 4 (.int .i64 (((tens i).length:Int)-1-((0:Nat):Int))) rfl (by simp) ?_;exact zK ()):P:=h fun _=>k
theorem stpdq224 {P Q:Prop} (k:Q) (h:(Unit→Q)→P:=by
 intro zK;refine za rfl (zyx (news:=[.int .u8 (48+(nth (tens i) ((tens i).length-1-k)))]) u46 inf5 rfl (by decide) rfl Ob rfl (yrq (HF.on E).here.2 ((HF.on E).here.2).lt rfl) (by simp[Value.oneCell']) (by unfold maxLen;omega) (by omega) (by exact Nat.le_trans LW.size E.size) ?_);exact zK ()):P:=h fun _=>k
theorem stpdq217 {P Q:Prop} (k:Q) (h:(Unit→Q)→P:=by
 intro zK;refine za rfl (vq u5 rfl rfl (hc9 ((tens i).length-1-k) (by omega)) (za rfl (vo rfl rfl (yak (by omega)) (za rfl (oq (cs:=#[.int .u8 (48+(nth (tens i) ((tens i).length-1-k)))]) u46 sz5 zr5 (by decide) rfl (by rw[zqz];rfl) ?_)))));exact zK ()):P:=h fun _=>k
theorem stpdq216 {P Q:Prop} (k:Q) (h:(Unit→Q)→P:=by
 intro zK;refine zl ?_;refine yl ?_;refine zm ?_;refine zq 4 (.int .i64 (((tens i).length:Int)-1-((k+1:Nat):Int))) rfl ((by rw[show ((tens i).length:Int)-1-(k:Int)-1=((tens i).length:Int)-1-((k+1:Nat):Int) by omega]:(.int .i64 ((((tens i).length:Int)-1-(k:Int))-1):Value)=_)) ?_;exact zK ()):P:=h fun _=>k
theorem dqz103 {P:Prop} (h:P:=by
 refine yi ?_;have e:Lib.itoa 0= [48]:=by rw[Lib.itoa,if_neg (by decide),Lib.decDigits];rfl
 refine stp ?_;exact ⟨by rw[h0,e];rfl,(LW.step E XLW).toBelow⟩):P:=h
attribute [local irreducible] OW RS CW EW
def zoq (ds:List Nat) (k:Nat):List Value:=(List.range k).map fun j=>.int .u8 (48+nth ds (ds.length-1-j))
theorem shown_succ (ds:List Nat) (k:Nat):zoq ds k++ [.int .u8 (48+nth ds (ds.length-1-k))]=zoq ds (k+1):=by simp[zoq,List.range_succ]
theorem vbx (i:Int) (k:Nat):0≤nth (tens i) k∧nth (tens i) k≤9:=by rw[zpk];omega
theorem ten_digits {n:Nat} (hn:n≠0):(digs 10 n).length=Lib.nDigits n:=by
 induction n using qnq (b:=10) (by decide) with
 | h0=>exact absurd rfl hn
 | hs n h0 ih=>
  rw[kq (by decide) h0];by_cases h:n<10
  · rw[Nat.div_eq_of_lt h,Lib.nDigits_small h];rfl
  · rw[Lib.nDigits_big h,List.length_cons,ih (by omega)]
theorem ten_len {i:Int} (h:i≠0):(tens i).length=Lib.nDigits i.natAbs:=by rw[jl];exact ten_digits (by omega)
theorem shown_all {i:Int} (h:i≠0):zoq (tens i) (tens i).length=(Lib.decDigits i.natAbs).map fun b=>.int .u8 (b.toNat:Int):=by
 have hl:(tens i).length=Lib.nDigits i.natAbs:=by rw[jl];exact ten_digits (by omega)
 rw[Lib.decDigits_eq,zoq,hl,List.map_map];apply List.map_congr_left
 intro j _;simp only[Function.comp_apply,zpk,Lib.dg]
 have h9:i.natAbs/10^(Lib.nDigits i.natAbs-1-j)%10<10:=Nat.mod_lt _ (by decide);generalize i.natAbs/10^(Lib.nDigits i.natAbs-1-j)%10=u at h9 ⊢
 have e:(UInt8.ofNat (48+u)).toNat=48+u:=by simp;omega
 rw[e];simp
section
variable (i:Int) (A:Option Addr) (c:Nat) (w:World) (hi:i.natAbs<B18^30) (hx:Nums8 w A (tens i))
include hi hx
theorem rshow_zero (h0:i=0):Calls Tryz.prog 158 #[.agg #[.bool (decide (i<0)),.slice A (tens i).length c]] w (RetB w (.string ⟨(Lib.itoa i).toArray⟩)):=by
 have _:=And.intro hi hx;have hl:((tens i).length:Int)=0:=by rw[h0,zax];rfl
 refine zc Tryz.func158 rfl Tryz.ntmps158 rfl ?_;obtain ⟨HF,LW,XLW,E⟩:=wk0 w;refine zi ?_;intro gb1 w2 Bb1 Eb1 Gb1;obtain ⟨HF,LW,E⟩:=frz HF LW E XLW Bb1 Eb1;refine vp ?_;refine zd 8 (.bool true) rfl (by rw[hl];rfl) ?_;exact dqz103
theorem rshow_neg (hn:i<0):Calls Tryz.prog 158 #[.agg #[.bool (decide (i<0)),.slice A (tens i).length c]] w (RetB w (.string ⟨(Lib.itoa i).toArray⟩)):=by
 have h0:i≠0:=by omega
 have hit:Lib.itoa i=45::Lib.decDigits i.natAbs:=by rw[Lib.itoa,if_pos hn]
 have hl:((tens i).length:Int)≠0:=by have:=zix (j:=i) (by omega);omega
 have hl2:=zsq hi;have hdi:decide (i<0)=true:=decide_eq_true hn;obtain ⟨bx,ox,rfl,hbx,hcx⟩:=hx.2 (zix (by omega));refine zc Tryz.func158 rfl Tryz.ntmps158 rfl ?_;obtain ⟨HF,LW,XLW,E⟩:=wk0 w;replace HF:=HF.and (Per.nums80 hx);refine zi ?_;intro gb1 w2 Bb1 Eb1 Gb1;obtain ⟨HF,LW,E⟩:=frz HF LW E XLW Bb1 Eb1;refine vp ?_;refine zd 8 (.bool false) rfl (by rw[beq_eq_false_iff_ne.2 hl]<;>rfl) (ky ?_);refine zd 10 (.bool true) rfl (by rw[hdi]<;>rfl) ?_;have Ob:World.ownsRow w2 w.heap.size 5 1 (.slice none 0 0) 0 ([]):=zeq;replace HF:=HF.cons (gh);replace E:=E.cons ((Value.slice none 0 0).ownBlock);replace XLW:=Mut.grow XLW (fun k e=>Or.inr (Nat.le_trans LW.size ((gh) k e)));refine zn ?_;refine za rfl (oq (cs:=#[.int .u8 45]) u46 sz5 zr5 (by decide) rfl (by rw[zqz];rfl) ?_);intro gb3 w4 Bb3 Eb3 Gb3;have Db3_b:Apart (some gb3) ((Value.slice none 0 0).ownBlock):=Apart.of_lt (jx Ob) Gb3;have Db_b3:=Db3_b.symm;have Gb3:_≤gb3:=Nat.le_trans E.size Gb3;have GLb3:=Nat.le_trans LW.size Gb3;replace Ob:=vt Ob Eb3 NotIn.nil;replace E:=E.trans Eb3.no;replace HF:=HF.cons (ym Gb3);replace E:=E.cons (some gb3);replace XLW:=Mut.grow XLW (fun k e=>Or.inr (Nat.le_trans LW.size ((ym Gb3) k e)));obtain ⟨HF,LW,XLW,E⟩:=frg HF LW E XLW (Y:=Mut [((Value.slice none 0 0).ownBlock)]) (Mut.skip (Mut.keep Mut.nil_)) (Per.blkN Bb3 (NotIn.cons Db3_b NotIn.nil));refine za rfl (zyx (news:=[.int .u8 45]) u46 inf5 rfl (by decide) rfl Ob rfl (yrq (HF.on E).here.2 ((HF.on E).here.2).lt rfl) (by simp[Value.oneCell']) (by unfold maxLen;omega) (by omega) (by exact Nat.le_trans LW.size E.size) ?_);intro v0 w5 On En KN;obtain ⟨A0,c0,rfl⟩:=gl On;replace KN:∀q9,((Value.slice A0 1 c0).ownBlock)=some q9→((Value.slice none 0 0).ownBlock)=some q9∨w4.heap.size≤q9:=KN;have HY:Gro (Mut [((Value.slice A0 1 c0).ownBlock)]) (Mut [((Value.slice none 0 0).ownBlock)]) w4:=(Mut.grow Mut.none_ (fun k e=>(KN k e).elim (fun e=>Or.inl (Mut.head k e)) (fun h=>Or.inr (Nat.le_trans E.size h))));replace E:=E.step1 En Mut.head;replace HF:=HF.turn E HY;have XT:=fun q9 (h:(Mut [((Value.slice A0 1 c0).ownBlock)]) q9)=>(HY q9 h).elim (XLW q9) (fun h=>Or.inr (Nat.le_trans LW.size h));replace LW:=LW.step E XLW;replace XLW:=XT;replace E:=erx (Mut [((Value.slice A0 1 c0).ownBlock)]) w5;clear HY;replace Ob:World.ownsRow w5 w.heap.size 5 1 (.slice A0 1 c0) 1 ([.int .u8 45]):=by
  have e:(([]):List Value)++([.int .u8 45]:List Value)= [.int .u8 45]:=rfl;rw[←e];exact On
 clear On KN En;refine stpdq306 ?_;replace HF:=HF.on E;replace LW:=LW.step E XLW;replace E:=erx (Mut [((Value.slice A0 1 c0).ownBlock)]) w5;refine yw (ι:=Nat×Option Addr×Nat) (fun (k,A1,c1)=>[(1,.pointer (some ⟨gb1,0,none⟩)),(3,.slice A1 (1+k) c1),(4,.int .i64 (((tens i).length:Int)-1-(k:Int)))]) (fun (k,A1,c1) w'=>Ext (Mut [((Value.slice A0 1 c0).ownBlock)]) w5 w'∧World.ownsRow w' w.heap.size 5 1 (.slice A1 (1+k) c1) (1+k) ([.int .u8 45]++zoq (tens i) k)∧(∀q9,((Value.slice A1 (1+k) c1).ownBlock)=some q9→((Value.slice A0 1 c0).ownBlock)=some q9∨w5.heap.size≤q9)∧(k≤(tens i).length)) (fun (k,A1,c1)=>(tens i).length-k) (0,A0,c0) ⟨rfl,rfl,rfl,trivial⟩ ⟨Ext.refl _ _,(by exact Ob),(fun _ e=>Or.inl e),Nat.zero_le _⟩ ?_;have LTb:=(jx Ob);clear Ob;rintro ⟨k,A1,c1⟩ w7 ⟨M6,Ob,KbM6,hk⟩;have XM6:Gro (Mut [((Value.slice A1 (1+k) c1).ownBlock)]) (Mut [((Value.slice A0 1 c0).ownBlock)]) w5:=(Mut.grow Mut.none_ (fun k e=>(KbM6 k e).elim (fun e=>Or.inl (Mut.head k e)) Or.inr));replace E:=E.trans M6;replace HF:=HF.turn E XM6;have ZLW:=LW.size;have XT:=fun q9 (h:(Mut [((Value.slice A1 (1+k) c1).ownBlock)]) q9)=>(XM6 q9 h).elim (XLW q9) (fun h=>Or.inr (Nat.le_trans LW.size h));replace LW:=LW.step E XLW;replace XLW:=XT;clear ZLW;replace E:=erx (Mut [((Value.slice A1 (1+k) c1).ownBlock)]) w7;clear LTb;refine zp ?_;refine zg rfl (fun q=>?_) (fun q=>?_)
 ·
  have q:=of_decide_eq_true q;refine stpdq322 ?_;have hin:=vbx i ((tens i).length-1-k);obtain ⟨b9,o9,hA9,_,hc9⟩:=((HF.on E).here.1.1.2).2 (zix h0);obtain ⟨rfl,rfl⟩:b9=bx∧o9=ox:=by simpa using hA9.symm
  refine stpdq217 ?_;intro gb8 w9 Bb8 Eb8 Gb8;have Db8_b:Apart (some gb8) ((Value.slice A1 (1+k) c1).ownBlock):=Apart.of_lt (jx Ob) Gb8;have Db_b8:=Db8_b.symm;have Gb8:_≤gb8:=Nat.le_trans E.size Gb8;have GLb8:=Nat.le_trans LW.size Gb8;replace Ob:=vt Ob Eb8 NotIn.nil;replace E:=E.trans Eb8.no;replace HF:=HF.cons (ym Gb8);replace E:=E.cons (some gb8);replace XLW:=Mut.grow XLW (fun k e=>Or.inr (Nat.le_trans LW.size ((ym Gb8) k e)));replace XM6:=Mut.grow XM6 (fun k e=>Or.inr (Nat.le_trans M6.size ((ym Gb8) k e)));replace HF:=HF.on E;replace LW:=LW.step E XLW;replace M6:=M6.step E XM6;have SB:∀q9,Mut [((Value.slice A1 (1+k) c1).ownBlock)] q9→Mut [(some gb8),((Value.slice A1 (1+k) c1).ownBlock)] q9:=(Mut.skip (Mut.keep Mut.nil_));replace HF:=HF.less SB;replace XLW:=fun k h=>XLW k (SB k h);replace XM6:=fun k h=>XM6 k (SB k h);clear SB;replace E:=erx (Mut [((Value.slice A1 (1+k) c1).ownBlock)]) w9;replace HF:=HF.and (Per.blkN Bb8 (NotIn.cons Db8_b NotIn.nil));refine stpdq224 ?_;intro v0 w10 On En KN;obtain ⟨A2,c2,rfl⟩:=gl On;replace KN:∀q9,((Value.slice A2 (1+(k+1)) c2).ownBlock)=some q9→((Value.slice A1 (1+k) c1).ownBlock)=some q9∨w9.heap.size≤q9:=KN;have HY:Gro (Mut [((Value.slice A2 (1+(k+1)) c2).ownBlock)]) (Mut [((Value.slice A1 (1+k) c1).ownBlock)]) w9:=(Mut.grow Mut.none_ (fun k e=>(KN k e).elim (fun e=>Or.inl (Mut.head k e)) (fun h=>Or.inr (Nat.le_trans E.size h))));replace KbM6:∀q9,((Value.slice A2 (1+(k+1)) c2).ownBlock)=some q9→((Value.slice A0 1 c0).ownBlock)=some q9∨w5.heap.size≤q9:=fun k e=>(KN k e).elim (KbM6 k) (fun h=>Or.inr (Nat.le_trans M6.size (Nat.le_trans E.size h)));replace E:=E.step1 En Mut.head;have XT:=fun q9 (h:(Mut [((Value.slice A2 (1+(k+1)) c2).ownBlock)]) q9)=>(HY q9 h).elim (XLW q9) (fun h=>Or.inr (Nat.le_trans LW.size h));have XT:=fun q9 (h:(Mut [((Value.slice A2 (1+(k+1)) c2).ownBlock)]) q9)=>(HY q9 h).elim (XM6 q9) (fun h=>Or.inr (Nat.le_trans M6.size h));replace M6:=M6.step E XM6;replace XM6:=XT;replace E:=erx (Mut [((Value.slice A2 (1+(k+1)) c2).ownBlock)]) w10;clear HY;replace Ob:World.ownsRow w10 w.heap.size 5 1 (.slice A2 (1+(k+1)) c2) (1+(k+1)) ([.int .u8 45]++zoq (tens i) (k+1)):=by
   have e:(([.int .u8 45]++zoq (tens i) k):List Value)++([.int .u8 (48+(nth (tens i) ((tens i).length-1-k)))]:List Value)= [.int .u8 45]++zoq (tens i) (k+1):=by rw[List.append_assoc,shown_succ]
   rw[←e];exact On
  clear On KN En;refine stpdq216 ?_;exact zo (k+1,A2,c2) (by show (tens i).length-(k+1)<(tens i).length-k;omega) ⟨rfl,rfl,rfl,trivial⟩ ⟨M6.step E XM6,(by exact Ob),KbM6,(by omega:k+1≤(tens i).length)⟩
 ·
  have q:=of_decide_eq_false q;obtain rfl:k=(tens i).length:=by omega
  have hl9:(45::Lib.decDigits i.natAbs:List UInt8).length=1+(tens i).length:=by simp[Lib.decDigits_length,ten_len h0];try omega
  have hxs:[.int .u8 45]++zoq (tens i) (tens i).length=(45::Lib.decDigits i.natAbs:List UInt8).map fun b=>.int .u8 (b.toNat:Int):=by rw[shown_all h0];rfl
  refine yi ?_;refine za rfl (ymq (l:=45::Lib.decDigits i.natAbs) u46 u5 u9 (congrArg some (congrArg (fun n↦Value.slice A1 n c1) hl9.symm)) (own_bytes Ob hxs) (zu ?_));exact ⟨by rw[hit];rfl,(LW.step E XLW).toBelow⟩
theorem rshow_pos (hn:0<i):Calls Tryz.prog 158 #[.agg #[.bool (decide (i<0)),.slice A (tens i).length c]] w (RetB w (.string ⟨(Lib.itoa i).toArray⟩)):=by
 have h0:i≠0:=by omega
 have hit:Lib.itoa i=Lib.decDigits i.natAbs:=by rw[Lib.itoa,if_neg (by omega),show i.toNat=i.natAbs by omega]
 have hl:((tens i).length:Int)≠0:=by have:=zix (j:=i) (by omega);omega
 have hl2:=zsq hi;have hdi:decide (i<0)=false:=decide_eq_false (by omega);obtain ⟨bx,ox,rfl,hbx,hcx⟩:=hx.2 (zix (by omega));refine zc Tryz.func158 rfl Tryz.ntmps158 rfl ?_;obtain ⟨HF,LW,XLW,E⟩:=wk0 w;replace HF:=HF.and (Per.nums80 hx);refine zi ?_;intro gb1 w2 Bb1 Eb1 Gb1;obtain ⟨HF,LW,E⟩:=frz HF LW E XLW Bb1 Eb1;refine vp ?_;refine zd 8 (.bool false) rfl (by rw[beq_eq_false_iff_ne.2 hl]<;>rfl) (ky ?_);refine zd 10 (.bool false) rfl (by rw[hdi]<;>rfl) ?_;have Ob:World.ownsRow w2 w.heap.size 5 1 (.slice none 0 0) 0 ([]):=zeq;replace HF:=HF.cons (gh);replace E:=E.cons ((Value.slice none 0 0).ownBlock);replace XLW:=Mut.grow XLW (fun k e=>Or.inr (Nat.le_trans LW.size ((gh) k e)));refine stpdq306 ?_;replace HF:=HF.on E;replace LW:=LW.step E XLW;replace E:=erx (Mut [((Value.slice none 0 0).ownBlock)]) w2;refine yw (ι:=Nat×Option Addr×Nat) (fun (k,A1,c1)=>[(1,.pointer (some ⟨gb1,0,none⟩)),(3,.slice A1 (0+k) c1),(4,.int .i64 (((tens i).length:Int)-1-(k:Int)))]) (fun (k,A1,c1) w'=>Ext (Mut [((Value.slice none 0 0).ownBlock)]) w2 w'∧World.ownsRow w' w.heap.size 5 1 (.slice A1 (0+k) c1) (0+k) ([]++zoq (tens i) k)∧(∀q9,((Value.slice A1 (0+k) c1).ownBlock)=some q9→((Value.slice none 0 0).ownBlock)=some q9∨w2.heap.size≤q9)∧(k≤(tens i).length)) (fun (k,A1,c1)=>(tens i).length-k) (0,none,0) ⟨rfl,rfl,rfl,trivial⟩ ⟨Ext.refl _ _,(by exact Ob),(fun _ e=>Or.inl e),Nat.zero_le _⟩ ?_;have LTb:=(jx Ob);clear Ob;rintro ⟨k,A1,c1⟩ w4 ⟨M3,Ob,KbM3,hk⟩;have XM3:Gro (Mut [((Value.slice A1 (0+k) c1).ownBlock)]) (Mut [((Value.slice none 0 0).ownBlock)]) w2:=(Mut.grow Mut.none_ (fun k e=>(KbM3 k e).elim (fun e=>Or.inl (Mut.head k e)) Or.inr));replace E:=E.trans M3;replace HF:=HF.turn E XM3;have ZLW:=LW.size;have XT:=fun q9 (h:(Mut [((Value.slice A1 (0+k) c1).ownBlock)]) q9)=>(XM3 q9 h).elim (XLW q9) (fun h=>Or.inr (Nat.le_trans LW.size h));replace LW:=LW.step E XLW;replace XLW:=XT;clear ZLW;replace E:=erx (Mut [((Value.slice A1 (0+k) c1).ownBlock)]) w4;clear LTb;refine zp ?_;refine zg rfl (fun q=>?_) (fun q=>?_)
 ·
  have q:=of_decide_eq_true q;refine stpdq322 ?_;have hin:=vbx i ((tens i).length-1-k);obtain ⟨b9,o9,hA9,_,hc9⟩:=((HF.on E).here.1.2).2 (zix h0);obtain ⟨rfl,rfl⟩:b9=bx∧o9=ox:=by simpa using hA9.symm
  refine stpdq217 ?_;intro gb5 w6 Bb5 Eb5 Gb5;have Db5_b:Apart (some gb5) ((Value.slice A1 (0+k) c1).ownBlock):=Apart.of_lt (jx Ob) Gb5;have Db_b5:=Db5_b.symm;have Gb5:_≤gb5:=Nat.le_trans E.size Gb5;have GLb5:=Nat.le_trans LW.size Gb5;replace Ob:=vt Ob Eb5 NotIn.nil;replace E:=E.trans Eb5.no;replace HF:=HF.cons (ym Gb5);replace E:=E.cons (some gb5);replace XLW:=Mut.grow XLW (fun k e=>Or.inr (Nat.le_trans LW.size ((ym Gb5) k e)));replace XM3:=Mut.grow XM3 (fun k e=>Or.inr (Nat.le_trans M3.size ((ym Gb5) k e)));replace HF:=HF.on E;replace LW:=LW.step E XLW;replace M3:=M3.step E XM3;have SB:∀q9,Mut [((Value.slice A1 (0+k) c1).ownBlock)] q9→Mut [(some gb5),((Value.slice A1 (0+k) c1).ownBlock)] q9:=(Mut.skip (Mut.keep Mut.nil_));replace HF:=HF.less SB;replace XLW:=fun k h=>XLW k (SB k h);replace XM3:=fun k h=>XM3 k (SB k h);clear SB;replace E:=erx (Mut [((Value.slice A1 (0+k) c1).ownBlock)]) w6;replace HF:=HF.and (Per.blkN Bb5 (NotIn.cons Db5_b NotIn.nil));refine stpdq224 ?_;intro v0 w7 On En KN;obtain ⟨A2,c2,rfl⟩:=gl On;replace KN:∀q9,((Value.slice A2 (0+(k+1)) c2).ownBlock)=some q9→((Value.slice A1 (0+k) c1).ownBlock)=some q9∨w6.heap.size≤q9:=KN;have HY:Gro (Mut [((Value.slice A2 (0+(k+1)) c2).ownBlock)]) (Mut [((Value.slice A1 (0+k) c1).ownBlock)]) w6:=(Mut.grow Mut.none_ (fun k e=>(KN k e).elim (fun e=>Or.inl (Mut.head k e)) (fun h=>Or.inr (Nat.le_trans E.size h))));replace KbM3:∀q9,((Value.slice A2 (0+(k+1)) c2).ownBlock)=some q9→((Value.slice none 0 0).ownBlock)=some q9∨w2.heap.size≤q9:=fun k e=>(KN k e).elim (KbM3 k) (fun h=>Or.inr (Nat.le_trans M3.size (Nat.le_trans E.size h)));replace E:=E.step1 En Mut.head;have XT:=fun q9 (h:(Mut [((Value.slice A2 (0+(k+1)) c2).ownBlock)]) q9)=>(HY q9 h).elim (XLW q9) (fun h=>Or.inr (Nat.le_trans LW.size h));have XT:=fun q9 (h:(Mut [((Value.slice A2 (0+(k+1)) c2).ownBlock)]) q9)=>(HY q9 h).elim (XM3 q9) (fun h=>Or.inr (Nat.le_trans M3.size h));replace M3:=M3.step E XM3;replace XM3:=XT;replace E:=erx (Mut [((Value.slice A2 (0+(k+1)) c2).ownBlock)]) w7;clear HY;replace Ob:World.ownsRow w7 w.heap.size 5 1 (.slice A2 (0+(k+1)) c2) (0+(k+1)) ([]++zoq (tens i) (k+1)):=by
   have e:(([]++zoq (tens i) k):List Value)++([.int .u8 (48+(nth (tens i) ((tens i).length-1-k)))]:List Value)= []++zoq (tens i) (k+1):=by rw[List.append_assoc,shown_succ]
   rw[←e];exact On
  clear On KN En;refine stpdq216 ?_;exact zo (k+1,A2,c2) (by show (tens i).length-(k+1)<(tens i).length-k;omega) ⟨rfl,rfl,rfl,trivial⟩ ⟨M3.step E XM3,(by exact Ob),KbM3,(by omega:k+1≤(tens i).length)⟩
 ·
  have q:=of_decide_eq_false q;obtain rfl:k=(tens i).length:=by omega
  have hl9:(Lib.decDigits i.natAbs:List UInt8).length=0+(tens i).length:=by simp[Lib.decDigits_length,ten_len h0];try omega
  have hxs:[]++zoq (tens i) (tens i).length=(Lib.decDigits i.natAbs:List UInt8).map fun b=>.int .u8 (b.toNat:Int):=by rw[shown_all h0];rfl
  refine yi ?_;refine za rfl (ymq (l:=Lib.decDigits i.natAbs) u46 u5 u9 (congrArg some (congrArg (fun n↦Value.slice A1 n c1) hl9.symm)) (own_bytes Ob hxs) (zu ?_));exact ⟨by rw[hit];rfl,(LW.step E XLW).toBelow⟩
theorem rshow_any:Calls Tryz.prog 158 #[.agg #[.bool (decide (i<0)),.slice A (tens i).length c]] w (RetB w (.string ⟨(Lib.itoa i).toArray⟩)):=by
 rcases Int.lt_trichotomy i 0 with h | h | h
 · exact rshow_neg i A c w hi hx h
 · exact rshow_zero i A c w hi hx h
 · exact rshow_pos i A c w hi hx h
end
end Go.Proofs.YtmnmebdmpigddaaGreatDoor
namespace Go.Proofs.YtmnmebdmpigddaaGreatDoor
theorem dqz139 {P:Prop} (h:P:=by
 rw[List.all_eq_true];intro x hx;exact List.all_eq_true.1 hs x (List.mem_of_mem_take (List.mem_of_mem_drop hx))):P:=h
theorem yax {n:Nat} (h:10≤n):Lib.decDigits n=Lib.decDigits (n/10)++ [UInt8.ofNat (48+n%10)]:=by
 rw[Lib.decDigits,dif_neg (by omega)]
theorem yfz {n:Nat} (h:n<10):Lib.decDigits n= [UInt8.ofNat (48+n)]:=Lib.decDigits_one h
def padk (k l:Nat):List UInt8:=List.replicate (k-Lib.nDigits l) 48++Lib.decDigits l
theorem padk_push {k l:Nat} (hk:1≤k):padk (k+1) l=padk k (l/10)++ [UInt8.ofNat (48+l%10)]:=by
 unfold padk;rcases Nat.lt_or_ge l 10 with h | h
 · rw[Nat.div_eq_of_lt h,Nat.mod_eq_of_lt h,Lib.nDigits_small h,Lib.nDigits_small (by decide:0<10),yfz h,yfz (by decide:0<10)];obtain ⟨j,rfl⟩:∃j,k=j+1:=⟨k-1,by omega⟩;rw[show j+1+1-1=j+1 by omega,show j+1-1=j by omega,List.replicate_succ'];rfl
 · rw[Lib.nDigits_big (by omega),yax h,←List.append_assoc,show k+1-(Lib.nDigits (l/10)+1)=k-Lib.nDigits (l/10) by omega]
theorem dec_join {a:Nat} (ha:0<a):∀(k l:Nat),l<10^(k+1)→Lib.decDigits (a*10^(k+1)+l)=Lib.decDigits a++padk (k+1) l
 | 0,l,hl=>by
  have h9:l<10:=by simpa using hl
  rw[yax (by omega),show (a*10^(0+1)+l)/10=a by omega,show (a*10^(0+1)+l)%10=l by omega,padk,Lib.nDigits_small h9,yfz h9];rfl
 | k+1,l,hl=>by
  have e:a*10^(k+1+1)+l=10*(a*10^(k+1))+l:=by rw[Nat.pow_succ 10 (k+1),←Nat.mul_assoc,Nat.mul_comm _ 10]
  have h0:0<a*10^(k+1):=Nat.mul_pos ha (Nat.pow_pos (by decide));have key:∀X l:Nat,(10*X+l)/10=X+l/10∧(10*X+l)%10=l%10∧(0<X→10≤10*X+l):=by omega
  have hd:(a*10^(k+1+1)+l)/10=a*10^(k+1)+l/10:=by rw[e,(key _ _).1]
  have hm:(a*10^(k+1+1)+l)%10=l%10:=by rw[e,(key _ _).2.1]
  have hl2:l/10<10^(k+1):=by rw[Nat.pow_succ 10 (k+1)] at hl;omega
  rw[yax (by rw[e];exact (key _ _).2.2 h0),hd,hm,dec_join ha k (l/10) hl2,padk_push (k:=k+1) (l:=l) (by omega),List.append_assoc]
theorem dec_join18 {a l:Nat} (ha:0<a) (hl:l<B18):Lib.decDigits (a*B18+l)=Lib.decDigits a++(List.replicate (18-Lib.nDigits l) 48++Lib.decDigits l):=
 dec_join ha 17 l (by simpa [B18] using hl)
theorem nDigits_18 {l:Nat} (hl:l<B18):Lib.nDigits l≤18:=by
 rcases Nat.lt_or_ge l 10 with h | h
 · rw[Lib.nDigits_small h];omega
 · rcases Nat.lt_or_ge 18 (Lib.nDigits l) with h1 | h1
   · exfalso
     have h2:∀(k u:Nat),k+1<Lib.nDigits u→10^(k+1)≤u:=by
      intro k;induction k with
      | zero=>
       intro u hu;rcases Nat.lt_or_ge u 10 with h | h
       · rw[Lib.nDigits_small h] at hu;omega
       · simpa using h
      | succ k ih=>
       intro u hu;rcases Nat.lt_or_ge u 10 with h | h
       · rw[Lib.nDigits_small h] at hu;omega
       · rw[Lib.nDigits_big (by omega)] at hu;have:=ih (u/10) (by omega);rw[Nat.pow_succ 10 (k+1)];omega
     have h3:=h2 17 l h1;have:(10:Nat)^(17+1)=B18:=by decide
     omega
   · exact h1
def kk (i:Int) (k:Nat):List UInt8:=(if i<0 then [45] else [])++(if k=0 then [] else Lib.decDigits (i.natAbs/B18^((limbs i).length-k)))
theorem limb_at (i:Int) {k:Nat}:(limbs i).getD k 0=i.natAbs/B18^k%B18:=by
 rw[qo,qlq (by unfold B18;omega) (kc qj _),gz qj]
theorem nth_limb (i:Int) (k:Nat):nth (limbs i) k=((i.natAbs/B18^k%B18:Nat):Int):=by
 unfold nth;rw[limb_at]
theorem limbs_top {i:Int} {k:Nat} (hk:k<(limbs i).length):0<i.natAbs/B18^k:=by
 rcases Nat.eq_zero_or_pos (i.natAbs/B18^k) with h | h
 · exfalso
   have h0:0<B18^k:=Nat.pow_pos (by unfold B18;omega);have h1:i.natAbs<B18^k:=by
    rcases Nat.lt_or_ge i.natAbs (B18^k) with h1 | h1
    · exact h1
    · have:=Nat.div_pos h1 h0;omega
   have:=(qg qj i.natAbs k).2 h1;rw[←qo] at this;omega
 · exact h
theorem yjz (i:Int):kk i 0=if i<0 then [45] else []:=by simp[kk]
theorem texted_one {i:Int} (h:0<(limbs i).length):kk i 0++Lib.decDigits (i.natAbs/B18^((limbs i).length-1-0)%B18)=kk i 1:=by
 have h1:i.natAbs<B18^(limbs i).length:=(qg qj i.natAbs _).1 (by rw[←qo];exact Nat.le_refl _);have h2:i.natAbs/B18^((limbs i).length-1)<B18:=by
  rw[Nat.div_lt_iff_lt_mul (Nat.pow_pos (by unfold B18;omega)),←Nat.pow_succ',Nat.succ_eq_add_one,show (limbs i).length-1+1=(limbs i).length by omega];exact h1
 rw[Nat.sub_zero,Nat.mod_eq_of_lt h2];simp[kk]
theorem qzx {i:Int} {k:Nat} (hk0:0<k) (hk:k<(limbs i).length) :
 kk i k++(List.replicate (18-Lib.nDigits (i.natAbs/B18^((limbs i).length-1-k)%B18)) 48++Lib.decDigits (i.natAbs/B18^((limbs i).length-1-k)%B18))=kk i (k+1):=by
 have e:i.natAbs/B18^((limbs i).length-k)=i.natAbs/B18^((limbs i).length-1-k)/B18:=by
  rw[Nat.div_div_eq_div_mul,←Nat.pow_succ,Nat.succ_eq_add_one,show (limbs i).length-1-k+1=(limbs i).length-k by omega]
 have hp:=limbs_top (i:=i) (k:=(limbs i).length-k) (by omega);have hj:=dec_join18 (a:=i.natAbs/B18^((limbs i).length-k)) (l:=i.natAbs/B18^((limbs i).length-1-k)%B18) hp (Nat.mod_lt _ (by unfold B18;omega));rw[kk,kk,if_neg (show ¬k=0 by omega),if_neg (show ¬k+1=0 by omega),List.append_assoc,←hj,e,Nat.mul_comm,Nat.div_add_mod,show (limbs i).length-(k+1)=(limbs i).length-1-k by omega]
theorem texted_all {i:Int} (h:0<(limbs i).length):kk i (limbs i).length=Lib.itoa i:=by
 rw[kk,if_neg (show ¬(limbs i).length=0 by omega),Nat.sub_self,Nat.pow_zero,Nat.div_one,Lib.itoa];split
 · rfl
 · rw[show i.toNat=i.natAbs by omega];rfl
theorem texted_len {i:Int} {k:Nat} (hk:k≤(limbs i).length) (hl:(limbs i).length≤30):(kk i k).length≤1+18*k:=by
 have h1:∀k,k≤(limbs i).length→(kk i k).length≤1+18*k:=by
  intro k;induction k with
  | zero=>intro _;rw[yjz];split<;>simp
  | succ k ih=>
   intro hk1;have h2:=ih (by omega);have h3:i.natAbs/B18^((limbs i).length-1-k)%B18<B18:=Nat.mod_lt _ (by unfold B18;omega);have h4:=nDigits_18 h3;rcases Nat.eq_zero_or_pos k with rfl | h0
   · rw[←texted_one (by omega),List.length_append,Lib.decDigits_length];rw[Nat.sub_zero] at h4 ⊢;omega
   · rw[←qzx h0 (by omega),List.length_append,List.length_append,List.length_replicate,Lib.decDigits_length];omega
 exact h1 k hk
/-! ### the number that digits spell -/
theorem val_app (b:Nat):∀(x y:List Nat),val b (x++y)=val b x+b^x.length*val b y
 | [],y=>by simp[val]
 | a::x,y=>by
  rw[List.cons_append,val,val,val_app b x y,List.length_cons,Nat.pow_succ,Nat.mul_add,←Nat.add_assoc,Nat.mul_comm (b^x.length) b,Nat.mul_assoc]
theorem ysx (x y:List UInt8):ya (x++y)=ya x*10^y.length+ya y:=by
 unfold ya;rw[List.reverse_append,List.map_append,val_app,List.length_map,List.length_reverse,Nat.mul_comm,Nat.add_comm]
theorem num10_nil:ya []=0:=rfl
theorem num10_zero (r:List UInt8):ya (48::r)=ya r:=by
 rw[show (48:UInt8)::r= [48]++r from rfl,ysx,show ya [48]=0 from rfl,Nat.zero_mul,Nat.zero_add]
theorem num10_lt {r:List UInt8} (h:r.all vd=true):ya r<10^r.length:=by
 have h1:=ki (b:=10) (l:=r.reverse.map dv) (qnx (by rw[List.all_reverse];exact h));simpa [ya] using h1
def xd:List UInt8→List UInt8
 | []=>[]
 | b::r=>if b=48 then xd r else b::r
theorem zmk:∀r,ya (xd r)=ya r
 | []=>rfl
 | b::r=>by
  rw[xd];split
  · rename_i h;rw[h,num10_zero,zmk r]
  · rfl
theorem strip_drop:∀r:List UInt8,∃k,k≤r.length∧xd r=r.drop k∧ ∀j,j<k→r[j]? =some 48
 | []=>⟨0,Nat.le_refl _,rfl,fun j h=>by omega⟩
 | b::r=>by
  by_cases h:b=48
  · obtain ⟨k,h1,h2,h3⟩:=strip_drop r;refine ⟨k+1,by simp;omega,by rw[xd,if_pos h,h2];rfl,fun j hj=>?_⟩;cases j with
    | zero=>rw[h];rfl
    | succ j=>simpa using h3 j (by omega)
  · exact ⟨0,Nat.zero_le _,by rw[xd,if_neg h];rfl,fun j h=>by omega⟩
theorem strip_head (r:List UInt8):(xd r).head? ≠some 48:=by
 induction r with
 | nil=>simp[xd]
 | cons b r ih=>
  rw[xd];split
  · exact ih
  · rename_i h;simpa using h
theorem zwz {r:List UInt8} (h:r.all vd=true):(xd r).all vd=true:=by
 obtain ⟨k,_,e,_⟩:=strip_drop r;rw[e,List.all_eq_true];intro x hx;exact List.all_eq_true.1 h x (List.mem_of_mem_drop hx)
theorem head_num {b:UInt8} {r:List UInt8} (h:(b::r).all vd=true) (hb:b≠48):10^r.length≤ya (b::r):=by
 rw[show b::r= [b]++r from rfl,ysx];have h1:vd b=true:=by rw[List.all_cons,Bool.and_eq_true] at h;exact h.1
 have h2:1≤ya [b]:=by
  have h3:ya [b]=dv b:=by simp[ya,val]
  rw[h3];unfold vd at h1;simp at h1
  have h4:b.toNat≠48:=fun e=>hb (UInt8.toNat_inj.1 e);unfold dv;omega
 calc 10^r.length=1*10^r.length:=(Nat.one_mul _).symm
  _≤ya [b]*10^r.length:=Nat.mul_le_mul_right _ h2
  _≤_:=Nat.le_add_right _ _
theorem B18_len {n:Nat} (h:n=18*30):B18^30=10^n:=by rw[h,ygq]
theorem yqz {r:List UInt8} (h:r.all vd=true):(xd r).length≤540↔ya r<B18^30:=by
 obtain ⟨n,hn⟩:∃n,n=540:=⟨_,rfl⟩;rw[←zmk r,B18_len (n:=n) hn,←hn];have ha:=zwz h;have hh:=strip_head r;generalize xd r=s at ha hh
 constructor
 · intro h1;exact Nat.lt_of_lt_of_le (num10_lt ha) (Nat.pow_le_pow_right (by decide) h1)
 · intro h1;cases s with
   | nil=>simp
   | cons b s=>
    have h2:=head_num ha (by simpa using hh);rcases Nat.lt_or_ge s.length n with h3 | h3
    · simp;omega
    · have:=Nat.pow_le_pow_right (n:=10) (by decide) h3;exact absurd (Nat.lt_of_lt_of_le h1 (Nat.le_trans this h2)) (Nat.lt_irrefl _)
theorem yuv {s:List UInt8} (hs:s.all vd=true) {e k:Nat} {xs:List Nat} (hk:xs.length=k) (he:s.length=e+18*k) (hv:val B18 xs=ya (s.drop e)) :
 val B18 (xs++ [ya ((s.take e).drop (e-18))])=ya (s.drop (e-18)):=by
 have _:=hs;have e1:s.drop (e-18)=(s.take e).drop (e-18)++s.drop e:=by
  conv=>lhs;rw[←List.take_append_drop e s]
  rw[List.drop_append_of_le_length (by rw[List.length_take];omega)]
 rw[e1,ysx,val_app,hv,hk,List.length_drop,he,show e+18*k-e=18*k by omega,←ygq];simp only[val]
 rw[Nat.mul_zero,Nat.add_zero,Nat.mul_comm (B18^k),Nat.add_comm]
theorem zlz {s:List UInt8} (hs:s.all vd=true) (e:Nat):ya ((s.take e).drop (e-18))<B18:=by
 have h1:((s.take e).drop (e-18)).all vd=true:=by
  exact dqz139
 have h2:=num10_lt h1;refine Nat.lt_of_lt_of_le h2 ?_;have h3:((s.take e).drop (e-18)).length≤18:=by rw[List.length_drop,List.length_take];omega
 have h4:=Nat.pow_le_pow_right (n:=10) (by decide) h3;have h5:(10:Nat)^18=B18:=by decide
 omega
end Go.Proofs.YtmnmebdmpigddaaGreatDoor

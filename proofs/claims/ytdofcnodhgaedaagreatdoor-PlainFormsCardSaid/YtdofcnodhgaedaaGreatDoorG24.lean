/- Texts of this claim. -/
import Derived.Test.YtdofcnodhgaedaaGreatDoorG23
import Derived.Sort.Grow
set_option maxRecDepth 100000
set_option maxHeartbeats 20000000
namespace Go.Proofs.YtdofcnodhgaedaaGreatDoor
open Go.RowKit Proofs.Tryz
theorem WB {P:Prop} (h:P:=by
 refine yt ?_;intro vs X wq K;exact vu rfl rfl (yj om) ⟨Below.refl _ _,Left.of ((by congr 1;omega:(.int .i64 (p+1):Value)=_))⟩):P:=h
theorem l6 (l:List UInt8) (a b:Nat):(⟨l.toArray⟩:ByteArray).extract a b= ⟨((l.drop a).take (b-a)).toArray⟩:=by
 refine ByteArray.ext ?_;rw[ByteArray.data_extract];refine Array.toList_inj.1 ?_;rw[Array.toList_extract]
theorem DL (l:List UInt8) (a b:Nat):((⟨l.toArray⟩:ByteArray).extract a b).size≤l.length:=by
 rw[l6];show ((l.drop a).take (b-a)).length≤_
 rw[List.length_take,List.length_drop];omega
theorem gc (l:List UInt8):(⟨l.toArray⟩:ByteArray).size=l.length:=rfl
theorem sZ (b:Nat):jf (rg b)=jf b:=by unfold jf rg;omega
theorem qcq (b:Nat):vv (rg b)=vv b:=by
 unfold vv;rw[sZ,show rg b%4503599627370496=b%4503599627370496 by unfold rg;omega]
theorem WC (b:Nat):fX (rg b)=fX b:=by unfold fX;rw[sZ]
theorem Gc (b:Nat):ki (rg b)=ki b:=by unfold ki fM fZ;rw[qcq,WC]
theorem al4 (b:Nat):fQ (rg b)=fQ b:=by unfold fQ fM fZ;rw[qcq,WC]
theorem Ow (b:Nat):vj (rg b)=vj b:=by unfold vj;rw[Gc]
theorem ZR (b:Nat):dx (rg b)=dx b:=by unfold dx;rw[Gc,al4]
theorem pz (b:Nat):vv b=0↔rg b=0:=by
 unfold vv jf rg at *;split<;>omega
def Oy (l:List UInt8):List UInt8:=l.filter (fun c=>c !=46)
theorem Jl {l:List UInt8} {k:Nat} (h:k<l.length):Oy (l.take (k+1))=Oy (l.take k)++(if l[k]=46 then [] else [l[k]]):=by
 rw[List.take_succ_eq_append_getElem h,Oy,List.filter_append];unfold Oy;congr 1
 by_cases h1:l[k]=46
 · rw[if_pos h1,h1];rfl
 · rw[if_neg h1,List.filter_cons_of_pos (by simp[h1])];rfl
theorem pF {D:List UInt8} (h:∀c∈D,48≤c.toNat∧c.toNat≤57):Oy D=D:=by
 refine List.filter_eq_self.2 (fun c hc=>?_);have:=h c hc;simp only[bne_iff_ne]
 intro e;rw[e] at this;revert this;decide
theorem Jm {D:List UInt8} (h:EY D):Oy (gg D)=D:=by
 unfold gg;rw[Oy,List.filter_append];have h1:=pF (D:=D.take 1) (fun c hc=>h.2 c (List.mem_of_mem_take hc));have h2:=pF (D:=D.drop 1) (fun c hc=>h.2 c (List.mem_of_mem_drop hc));unfold Oy at h1 h2;rw[h1];split
 · rw[List.filter_cons_of_neg de,h2,List.take_append_drop]
 · rename_i h3
   rw[List.filter_nil,List.append_nil,List.take_of_length_le om]
theorem Jo {D:List UInt8} {p:Int} (h:p<0) (hp:-4≤p) (hD:1≤D.length):[48,46]++List.replicate (0-p-1).toNat 48++D=Bb D (p+1):=by
 have e:(-(p+1)).toNat=(0-p-1).toNat:=by congr 1;omega
 rw[Bb,if_neg om,if_pos om,xp,if_neg om,if_pos om,e,show (p+1).toNat=0 from om];simp
theorem Af {D:List UInt8} {p:Int} (h:¬p<0) (hp:p≤15) (hl:(D.length:Int)≤p+1):D++List.replicate (p+1-(D.length:Int)).toNat 48++ [46,48]=Bb D (p+1):=by
 have e:(p+1).toNat-D.length=(p+1-(D.length:Int)).toNat:=om;rw[Bb,if_neg om,if_neg om,xp,if_pos om,if_neg om,List.take_of_length_le om,e,List.append_nil]
theorem Jp {D:List UInt8} {p:Int} (h:¬p<0) (hp:p≤15) (hl:¬(D.length:Int)≤p+1):D.take (p+1).toNat++ [46]++D.drop (p+1).toNat=Bb D (p+1):=by
 rw[Bb,if_neg om,if_pos om,xp,if_pos om,if_pos om,show (p+1).toNat-D.length=0 from om,show (-(p+1)).toNat=0 from om];simp
theorem tq (k:Nat):(⟨(List.replicate k (48:UInt8)).toArray⟩:ByteArray)++ ⟨#[48]⟩= ⟨(List.replicate (k+1) (48:UInt8)).toArray⟩:=by
 rw[List.replicate_succ',←qh]
theorem DN (w:World) (k:Nat) (os:Array Obj):Below w.heap.size w (Sort.grow (w.drewN k) os):=
 ⟨rfl,rfl,rfl,by show w.heap.size≤(w.heap++os).size;rw[Array.size_append];omega,fun _ hk=>Sort.heap_grow_old (w.drewN k) os hk⟩
theorem Oz (n:Int) (h0:-9223372036854775808≤n) (h1:n≤9223372036854775807) (w:World) (htab:dH w):Calls prog 113 #[.int .i64 n] w fun e w'=>e= .returned (.string ⟨(Lib.itoa n).toArray⟩)∧Below w.heap.size w w':=
 (Tryz.strconv_Itoa n h0 h1 w htab).mono fun _ _ ⟨a,k,os,b⟩=>⟨a,b▸DN w k os⟩
attribute [local irreducible] OW RS CW EW
section
variable (w:World)
theorem yyv (n:Nat) (hn:n≤1000):Calls prog 112 #[.int .i64 ((n:Nat):Int)] w (aD w (.string ⟨(List.replicate n (48:UInt8)).toArray⟩)):=by
 refine zd func112 rfl ntmps112 rfl ?_;have LW:=aB (No) w;have ak:=aP (No) w;have E:=aB (No) w;refine KQ ?_;refine zy 3 (.string ⟨(List.replicate 0 (48:UInt8)).toArray⟩) rfl (rfl) (zy 4 (.int .i64 ((0:Nat):Int)) rfl (rfl) ?_);replace LW:=LW.step E ak;replace E:=aB (No) w;refine qt (ι:=Nat) (fun k=>[(0,.int .i64 ((n:Nat):Int)),(3,.string ⟨(List.replicate k (48:UInt8)).toArray⟩),(4,.int .i64 ((k:Nat):Int))]) (fun k w'=>Ext (No) w w'∧(k≤n)) (fun k=>n-k) 0 ⟨rfl,rfl,rfl,trivial⟩ ⟨Ext.refl _ _,Nat.zero_le _⟩ ?_;rintro k w2 ⟨M1,hk⟩;have fF:=aP (No) w;replace E:=E.trans M1;replace LW:=LW.step E ak;replace E:=aB (No) w2;refine yu ?_;refine zg rfl (fun q=>?_) (fun q=>?_)
 ·
  have q:=of_decide_eq_true q;refine zq ?_;refine za rfl (ve rfl rfl (by rw[gc,List.length_replicate];show k+1≤_;omega) (ze 11 (.string ⟨(List.replicate (k+1) (48:UInt8)).toArray⟩) rfl (by rw[tq]<;>rfl) (zq ?_)));refine yc ?_;refine zo ?_;refine yi 4 (.int .i64 ((k+1:Nat):Int)) rfl (rfl) ?_;exact yk (k+1) (by show n-(k+1)<n-k;omega) ⟨rfl,rfl,rfl,trivial⟩ ⟨M1.step E fF,(by omega:k+1≤n)⟩
 ·
  have q:=of_decide_eq_false q;obtain rfl:n=k:=om;refine kb ?_;exact gi
theorem DR (D:List UInt8) (p:Int) (hD:1≤D.length) (hl:D.length≤18) (hp:-4≤p∧p≤15):Calls prog 80 #[.string ⟨D.toArray⟩,.int .i64 p] w (aD w (.string ⟨(Bb D (p+1)).toArray⟩)):=by
 refine zd func80 rfl ntmps80 rfl ?_;have LW:=aB (No) w;have ak:=aP (No) w;have E:=aB (No) w;refine vc ?_;refine zg rfl (fun h=>?_) (fun h=>?_)
 ·
  have h:=of_decide_eq_true h;have hX:=Jo h hp.1 hD;obtain ⟨n,hn⟩:∃n,n=(0-p-1).toNat:=⟨_,rfl⟩;rw[←hn] at hX;refine yl ?_;refine js ?_;refine zx ?_;refine ze 9 (.int .i64 ((n:Nat):Int)) rfl (by congr 1;omega) (zb UZ (yyv _ n om) E fun w1 E=>(za rfl (ve rfl rfl (by have h9:(List.replicate n (48:UInt8)).length=n:=List.length_replicate;show 2+(List.replicate n (48:UInt8)).length≤_;omega) (ze 11 (.string ⟨([48,46]++List.replicate n (48:UInt8)).toArray⟩) rfl (by rw[←qh]<;>rfl) (aN ?_)))));refine za rfl (ve rfl rfl (by have h9:(List.replicate n (48:UInt8)).length=n:=List.length_replicate;show ([48,46]++List.replicate n (48:UInt8)).length+D.length≤_;rw[List.length_append];show 2+_+_≤_;omega) (zq ?_));exact ⟨by rw[qh,hX];rfl,aT LW E ak⟩
 ·
  have h:=of_decide_eq_false h;refine zq ?_;refine jt ?_;refine aN ?_;refine yc ?_;refine yl ?_;refine zy 15 (.int .i64 (D.length:Int)) rfl (rfl) (zy 18 (.bool (decide ((D.length:Int)≤p+1))) rfl (rfl) (zg rfl (fun h2=>?_) (fun h2=>?_)))
  ·
   have h2:=of_decide_eq_true h2;have hX:=Af h hp.2 h2;obtain ⟨n,hn⟩:∃n,n=(p+1-(D.length:Int)).toNat:=⟨_,rfl⟩;rw[←hn] at hX;refine yf ?_;refine yc ?_;refine aN ?_;refine jt ?_;refine ze 23 (.int .i64 (D.length:Int)) rfl (rfl) (zx ?_);refine ze 24 (.int .i64 ((n:Nat):Int)) rfl (by congr 1;omega) (zb UZ (yyv _ n om) E fun w2 E=>(za rfl (ve rfl rfl (by rw[gc,gc,List.length_replicate];omega) (ze 26 (.string ⟨(D++List.replicate n (48:UInt8)).toArray⟩) rfl (by rw[←qh]<;>rfl) (za rfl (ve rfl rfl (by rw[gc,List.length_append,List.length_replicate];show _+2≤_;omega) (zq ?_)))))));exact ⟨by rw[←hX,←qh (D++_)];rfl,aT LW E ak⟩
  ·
   have h2:=of_decide_eq_false h2;have hX:=Jp h hp.2 h2;obtain ⟨n,hn⟩:∃n,n=(p+1).toNat:=⟨_,rfl⟩;rw[←hn] at hX;refine yl ?_;have OY:∀q9,(ah (oj [])) q9→q9<(World.drew w).heap.size→(No) q9:=fun k h _=>(ah.none_) k h;refine qr (No) ah.none_ [] [] (gH [Fx.of (.string ⟨D.toArray⟩),
    Fx.of (.int .i64 p),
    Fx.of (.int .i64 ((n:Nat):Int)),
    Fx.of (.string ((⟨D.toArray⟩:ByteArray).extract 0 n)),
    Fx.of (.string ((⟨D.toArray⟩:ByteArray).extract 0 n++(⟨#[46]⟩:ByteArray))),
    Fx.of (.string ⟨D.toArray⟩),
    Fx.of (.int .i64 p),
    Fx.of (.int .i64 ((n:Nat):Int)),
    Fx.of (.string ((⟨D.toArray⟩:ByteArray).extract n D.length)),
    Fx.of (.string ((⟨D.toArray⟩:ByteArray).extract 0 n++(⟨#[46]⟩:ByteArray)++(⟨D.toArray⟩:ByteArray).extract n D.length)),
    Fx.of (.string ((⟨D.toArray⟩:ByteArray).extract 0 n++(⟨#[46]⟩:ByteArray)++(⟨D.toArray⟩:ByteArray).extract n D.length))]) mixed rfl trivial (fun _ h=>by cases h) ?_ ?_
   · refine ⟨arm,arm,?_,?_,?_,arm,arm,?_,?_,?_,arm,trivial⟩
     · exact WB
     · refine yt ?_;intro vs X wq K;exact oi (l:=0) (h:=n) u9 rfl rfl ⟨_,rfl⟩ (Nat.zero_le _) (by rw[gc];omega) ⟨Below.refl _ _,Left.of rfl⟩
     · refine yt ?_;intro vs X wq K;exact ve rfl rfl (by have:=DL D 0 n;show _+1≤_;omega) ⟨Below.refl _ _,Left.of rfl⟩
     · exact WB
     · refine yt ?_;intro vs X wq K;exact oi (l:=n) (h:=D.length) u9 rfl ⟨_,rfl⟩ rfl om (Nat.le_refl _) ⟨Below.refl _ _,Left.of rfl⟩
     · refine yt ?_;intro vs X wq K;exact ve rfl rfl (by have h1:=DL D 0 n;have h3:=DL D n D.length;rw[ByteArray.size_append];show _+1+_≤_;omega) ⟨Below.refl _ _,Left.of rfl⟩
   intro vs w3 LE AO AL AF AA;replace E:=E.drew.trans (LE.mono OY);obtain ⟨_,e10,k10⟩:=AL.2.2.2.2.2.2.2.2.2.2.1;refine jz (τ:=[(4,.string ((⟨D.toArray⟩:ByteArray).extract 0 n++(⟨#[46]⟩:ByteArray)++(⟨D.toArray⟩:ByteArray).extract n D.length))]) ⟨congrArg some e10,trivial⟩ ?_;clear AL AF AA LE AO OY e10 k10;refine yl ?_;exact ⟨by rw[←hX,←qh,←qh,l6,l6,List.drop_zero,Nat.sub_zero,List.take_of_length_le (l:=D.drop n) (by rw[List.length_drop];omega)];rfl,aT LW E ak⟩
theorem Ag (D:List UInt8) (p:Int) (hD:1≤D.length) (hl:D.length≤18) (hp:-1000<p∧p<1000) (htab:∀b,Below w.heap.size w b→dH b):Calls prog 81 #[.string ⟨D.toArray⟩,.int .i64 p] w (aD w (.string ⟨(ot D (p+1)).toArray⟩)):=by
 obtain ⟨u,hu⟩:∃u,u=p.natAbs:=⟨_,rfl⟩;obtain ⟨s,hs⟩:∃s:List UInt8,s=(if p<0 then [45] else [43]):=⟨_,rfl⟩;have hs1:s.length=1:=by rw[hs];split<;>rfl
 have hE:ot D (p+1)=gg D++ [101]++s++gY u:=by
  rw[ot,show p+1-1=p from om,gL,←hu,hs];split<;>simp
 have hu3:u<1000:=om;have hH:(gg D).length≤20:=by
  unfold gg;rw[List.length_append,List.length_take];split
  · rw[List.length_cons,List.length_drop];omega
  · show _+0≤_;omega
 have hX:=j6 hu3;refine zd func81 rfl ntmps81 rfl ?_;have LW:=aB (No) w;have ak:=aP (No) w;have E:=aB (No) w;refine yu ?_;refine za rfl (oi (l:=0) (h:=1) u9 rfl rfl ⟨_,rfl⟩ de (by rw[gc];omega) (ze 9 (.string ⟨(D.take 1).toArray⟩) rfl (by rw[l6];rfl) (zn ?_)));refine jt ?_;refine yl ?_;refine zy 12 (.bool (decide (1<D.length))) rfl (by exact congrArg Value.bool (decide_eq_decide.2 (by show ((1:Int)<(D.length:Int))↔_;omega))) ?_;replace LW:=LW.step E ak;replace E:=aB (No) w;refine vk (ι:=Unit) (fun _=>[(0,.string ⟨D.toArray⟩),(1,.int .i64 p),(5,.string ⟨(gg D).toArray⟩)]) (fun _ w'=>Ext (No) w w'∧(True)) ?_ ?_
 ·
  have M1:=aB (No) w;have fF:=aP (No) w;refine zg rfl (fun h1=>?_) (fun h1=>?_)
  ·
   have h1:=of_decide_eq_true h1;refine zo ?_;refine za rfl (ve rfl rfl (by rw[gc,List.length_take];show _+1≤_;omega) (ze 14 (.string ⟨(D.take 1++ [46]).toArray⟩) rfl (by rw[←qh]<;>rfl) (aN ?_)));refine za rfl (oi (l:=1) (h:=D.length) u9 rfl ⟨_,rfl⟩ rfl om (Nat.le_refl _) (ze 16 (.string ⟨(D.drop 1).toArray⟩) rfl (by rw[l6,List.take_of_length_le (by rw[List.length_drop];omega)]) (za rfl (ve rfl rfl (by rw[gc,gc,List.length_append,List.length_take,List.length_drop];show _+1+_≤_;omega) (zo ?_)))));refine yi 5 (.string ⟨(gg D).toArray⟩) rfl ((by rw[qh,gg,if_pos h1,List.append_assoc];rfl:(.string (⟨(D.take 1++ [46]).toArray⟩++ ⟨(D.drop 1).toArray⟩):Value)=_)) ?_;exact yy () ⟨rfl,rfl,rfl,trivial⟩ ⟨M1.step E fF,trivial⟩
  ·
   have h1:=of_decide_eq_false h1;refine aN ?_;refine yi 5 (.string ⟨(gg D).toArray⟩) rfl ((by rw[gg,if_neg h1,List.append_nil]:(.string ⟨(D.take 1).toArray⟩:Value)=_)) ?_;exact yy () ⟨rfl,rfl,rfl,trivial⟩ ⟨M1.step E fF,trivial⟩
 ·
  rintro _ w2 ⟨M1,_⟩;replace E:=E.trans M1;replace LW:=LW.step E ak;replace E:=aB (No) w2;refine vc ?_;replace LW:=LW.step E ak;replace E:=aB (No) w2;refine vk (ι:=Unit) (fun _=>[(1,.int .i64 ((u:Nat):Int)),(5,.string ⟨(gg D).toArray⟩),(6,.string ⟨s.toArray⟩)]) (fun _ w'=>Ext (No) w2 w'∧(True)) ?_ ?_
  ·
   have M3:=aB (No) w2;have dA:=aP (No) w2;refine zg rfl (fun h2=>?_) (fun h2=>?_)
   ·
    have h2:=of_decide_eq_true h2;refine zn ?_;refine js ?_;refine zo ?_;refine yi 1 (.int .i64 ((u:Nat):Int)) rfl ((by congr 1;omega:(.int .i64 (0-p):Value)=_)) (yi 6 (.string ⟨s.toArray⟩) rfl ((by rw[hs,if_pos h2]:(.string ⟨#[45]⟩:Value)=_)) ?_);exact yy () ⟨rfl,rfl,rfl,trivial⟩ ⟨M3.step E dA,trivial⟩
   ·
    have h2:=of_decide_eq_false h2;refine aN ?_;refine yi 1 (.int .i64 ((u:Nat):Int)) rfl ((by congr 1;omega:(.int .i64 p:Value)=_)) (yi 6 (.string ⟨s.toArray⟩) rfl ((by rw[hs,if_neg h2]:(.string ⟨#[43]⟩:Value)=_)) ?_);exact yy () ⟨rfl,rfl,rfl,trivial⟩ ⟨M3.step E dA,trivial⟩
  ·
   rintro _ w4 ⟨M3,_⟩;replace E:=E.trans M3;replace LW:=LW.step E ak;replace E:=aB (No) w4;have hI:Lib.itoa ((u:Nat):Int)=Lib.decDigits u:=Lib.itoa_nonneg u;have hIl:=EZ u 3 de om;refine yl ?_;refine zb ad2 (Oz ((u:Nat):Int) om om _ (htab _ (LW.step E ak).toBelow)) E fun w5 E=>(ze 23 (.string ⟨(Lib.decDigits u).toArray⟩) rfl (by rw[hI]<;>rfl) (zn ?_));refine jt ?_;refine yl ?_;refine zy 26 (.bool (decide ((Lib.decDigits u).length<2))) rfl (by exact congrArg Value.bool (decide_eq_decide.2 (by show ((((Lib.decDigits u).length:Nat):Int)<2)↔_;omega))) ?_;replace LW:=LW.step E ak;replace E:=aB (No) w5;refine vk (ι:=Unit) (fun _=>[(5,.string ⟨(gg D).toArray⟩),(6,.string ⟨s.toArray⟩),(7,.string ⟨(gY u).toArray⟩)]) (fun _ w'=>Ext (No) w5 w'∧(True)) ?_ ?_
   ·
    have M6:=aB (No) w5;have bM:=aP (No) w5;refine zg rfl (fun h3=>?_) (fun h3=>?_)
    ·
     have h3:=of_decide_eq_true h3;have h4:u<10:=by
      rcases Nat.lt_or_ge u 10 with g | g
      · exact g
      · exfalso
        rw[Lib.decDigits,dif_neg om,List.length_append] at h3;have:=Lx (u/10);simp at h3
        omega
     refine zo ?_;refine za rfl (ve rfl rfl (by show 1+(Lib.decDigits u).length≤_;omega) (zo ?_));refine yi 7 (.string ⟨(gY u).toArray⟩) rfl ((by rw[gY,if_pos h4];exact congrArg Value.string (qh [48] _):(.string ((⟨#[48]⟩:ByteArray)++ ⟨(Lib.decDigits u).toArray⟩):Value)=_)) ?_;exact yy () ⟨rfl,rfl,rfl,trivial⟩ ⟨M6.step E bM,trivial⟩
    ·
     have h3:=of_decide_eq_false h3;have h4:¬u<10:=fun g=>h3 (by rw[qcz g];simp);refine aN ?_;refine yi 7 (.string ⟨(gY u).toArray⟩) rfl ((by rw[gY,if_neg h4]:(.string ⟨(Lib.decDigits u).toArray⟩:Value)=_)) ?_;exact yy () ⟨rfl,rfl,rfl,trivial⟩ ⟨M6.step E bM,trivial⟩
   ·
    rintro _ w7 ⟨M6,_⟩;replace E:=E.trans M6;replace LW:=LW.step E ak;replace E:=aB (No) w7;refine yl ?_;refine za rfl (ve rfl rfl (by rw[gc];show _+1≤_;omega) (ze 30 (.string ⟨(gg D++ [101]).toArray⟩) rfl (by rw[←qh]<;>rfl) (aN ?_)));refine za rfl (ve rfl rfl (by rw[gc,gc,List.length_append];show _+1+_≤_;omega) (ze 32 (.string ⟨(gg D++ [101]++s).toArray⟩) rfl (by rw[qh]<;>rfl) (aN ?_)));refine za rfl (ve rfl rfl (by rw[gc,gc,List.length_append,List.length_append];show _+1+_+_≤_;omega) (ya ?_));exact ⟨by rw[qh,hE];rfl,aT LW E ak⟩
end
end Go.Proofs.YtdofcnodhgaedaaGreatDoor
namespace Go.Proofs.YtdofcnodhgaedaaGreatDoor
open Go.RowKit Proofs.Tryz
theorem tu {l:List UInt8} {j:Nat} {x:UInt8} (h:l[j]? =some x):((⟨l.toArray⟩:ByteArray).data[j]?).map (·.toNat)=some x.toNat:=by
 show (l.toArray[j]?).map _=_
 rw[List.getElem?_toArray,h];rfl
theorem WE {x:UInt8} {k:Nat} (hk:k<256) (h:x≠UInt8.ofNat k):((x.toNat:Int) !=((k:Nat):Int))=true:=
 bne_iff_ne.2 (fun e=>h (UInt8.toNat_inj.1 (by rw[show x.toNat=k from om];simp;omega)))
theorem al5 {x:UInt8} {k:Nat} (hk:k<256) (h:x=UInt8.ofNat k):((x.toNat:Int) !=((k:Nat):Int))=false:=by
 rw[h,show (UInt8.ofNat k).toNat=k by simp;omega];simp
theorem al6 (b:Nat):fP (rg b)=fP b:=by unfold fP;rw[qcq,ZR]
theorem SX {b i:Nat} (hi:i<(vi b).length):(ky b)[i]? =some (vi b)[i]:=by
 rw[zgk,List.getElem?_append_left hi,List.getElem?_eq_getElem hi]
theorem OA (b:Nat):(ky b)[(vi b).length]? =some 101:=by
 rw[zgk,List.getElem?_append_right (Nat.le_refl _),Nat.sub_self];rfl
theorem Jq {b:Nat} (h:b<9223372036854775808) (h0:vv b≠0):vi b=gg (vj b):=by
 unfold vi;rw[decide_eq_false om,if_neg h0];rfl
attribute [local irreducible] OW RS CW EW
section
variable (w:World) (hT:∀b,Below w.heap.size w b→bY b) (hD:∀b,Below w.heap.size w b→dH b)
include hT hD
theorem Ah (b:Nat) (hb:b<9223372036854775808) (he:jf b≠2047) (h0:vv b≠0):Calls prog 79 #[.int .u64 ((b:Nat):Int)] w (aD w (.tuple #[.string ⟨(vj b).toArray⟩,.int .i64 (fP b)])):=by
 have hp:=Ml he;have hsz:=Ae b;have hl1:=yux he;have hl2:=lZ hp;have hh:=Jq hb h0;have hF:=(xc h0 he).1;have hN:=xH he;refine zh func79 ntmps79 fun HF LW ak E=>?_;refine qu ?_;refine zb ad1 (GH _ b) E fun w1 E=>(zb XG (oH _ (later hT (LW.step E ak).toBelow) (later hD (LW.step E ak).toBelow) b om he) E fun w2 E=>?_);have Od:World.ownsRow w2 w.heap.size 5 1 (.slice none 0 0) 0 ([]):=ykq;replace HF:=HF.cons (ytq);replace E:=E.cons ((Value.slice none 0 0).ownBlock);replace ak:=ah.grow ak (fun k e=>Or.inr (Nat.le_trans LW.size ((ytq) k e)));refine oe ?_;refine zy 6 (.int .i64 ((0:Nat):Int)) rfl (rfl) ?_;replace HF:=HF.on E;replace LW:=LW.step E ak;replace E:=aB (ah [((Value.slice none 0 0).ownBlock)]) w2;refine qt (ι:=Nat×Option Addr×Nat×Nat×List Value) (fun (i,A1,c1,n1,x1)=>[(4,.string ⟨(ky b).toArray⟩),(5,.slice A1 n1 c1),(6,.int .i64 ((i:Nat):Int))]) (fun (i,A1,c1,n1,x1) w'=>Ext (ah [((Value.slice none 0 0).ownBlock)]) w2 w'∧World.ownsRow w' w.heap.size 5 1 (.slice A1 n1 c1) n1 x1∧(∀q9,((Value.slice A1 n1 c1).ownBlock)=some q9→((Value.slice none 0 0).ownBlock)=some q9∨w2.heap.size≤q9)∧(i≤(vi b).length∧n1=(Oy ((vi b).take i)).length∧x1=(Oy ((vi b).take i)).map bV∧n1≤i)) (fun (i,A1,c1,n1,x1)=>(vi b).length-i) (0,none,0,0,[]) ⟨rfl,rfl,rfl,trivial⟩ ⟨Ext.refl _ _,(by exact Od),(fun _ e=>Or.inl e),Nat.zero_le _,rfl,rfl,Nat.le_refl _⟩ ?_;have LTd:=(zr Od);clear Od;rintro ⟨i,A1,c1,n1,x1⟩ w4 ⟨M3,Od,OB,⟨hi,hn1,hx1,hni⟩⟩;have dA:bL (ah [((Value.slice A1 n1 c1).ownBlock)]) (ah [((Value.slice none 0 0).ownBlock)]) w2:=(ah.grow ah.none_ (fun k e=>(OB k e).elim (fun e=>Or.inl (ah.head k e)) Or.inr));replace E:=E.trans M3;replace HF:=HF.turn E dA;have fJ:=LW.size;have XT:=fun q9 (h:(ah [((Value.slice A1 n1 c1).ownBlock)]) q9)=>(dA q9 h).elim (ak q9) (fun h=>Or.inr (Nat.le_trans LW.size h));replace LW:=LW.step E ak;replace ak:=XT;clear fJ;replace E:=aB (ah [((Value.slice A1 n1 c1).ownBlock)]) w4;clear LTd;refine ya ?_;refine jt ?_;refine zo ?_;refine xv 16 rfl (by exact congrArg Value.bool (decide_eq_true (by rw[hsz];omega))) (zo ?_);by_cases hc:i<(vi b).length
 ·
  obtain ⟨x,hx⟩:∃x,x=(vi b)[i]:=⟨_,rfl⟩;have hg:=SX hc;rw[←hx] at hg;have hx101:x≠101:=fun e=>hN (by rw[←e,hx];exact List.getElem_mem hc);have hnx:=Jl hc;rw[←hx] at hnx;refine fU rfl (qm (j:=i) (b:=x.toNat) u9 rfl rfl rfl (tu hg) (yf ?_));refine qk 21 rfl (by exact congrArg Value.bool (WE (k:=101) de hx101)) (qu ?_);refine za rfl (qm (j:=i) (b:=x.toNat) u9 rfl rfl rfl (tu hg) (yl ?_));by_cases h46:x=46
  ·
   rw[if_pos h46,List.append_nil] at hnx;refine yn 25 rfl (by exact congrArg Value.bool (al5 (k:=46) de h46)) (ya ?_);refine yc ?_;refine yl ?_;refine yi 6 (.int .i64 ((i+1:Nat):Int)) rfl (rfl) ?_;exact yk (i+1,A1,c1,n1,x1) (by show (vi b).length-(i+1)<(vi b).length-i;omega) ⟨rfl,rfl,rfl,trivial⟩ ⟨M3.step E dA,(by exact Od),OB,by show i+1≤(vi b).length;omega,by rw[hnx];exact hn1,by rw[hnx];exact hx1,by show n1≤i+1;omega⟩
  ·
   rw[if_neg h46] at hnx;refine qk 25 rfl (by exact congrArg Value.bool (WE (k:=46) de h46)) (ya ?_);refine za rfl (qm (j:=i) (b:=x.toNat) u9 rfl rfl rfl (tu hg) (kH ?_));intro bC w6 aS dU cB;have WG:Apart (some bC) ((Value.slice A1 n1 c1).ownBlock):=Apart.of_lt (zr Od) cB;have aw7:=WG.symm;have cB:_≤bC:=Nat.le_trans E.size cB;have Rt:=Nat.le_trans LW.size cB;replace Od:=zk Od dU aj.nil;replace E:=E.trans dU.no;replace HF:=HF.cons (zf cB);replace E:=E.cons (some bC);replace ak:=ah.grow ak (fun k e=>Or.inr (Nat.le_trans LW.size ((zf cB) k e)));replace dA:=ah.grow dA (fun k e=>Or.inr (Nat.le_trans M3.size ((zf cB) k e)));replace HF:=HF.on E;replace LW:=LW.step E ak;replace M3:=M3.step E dA;have SB:∀q9,ah [((Value.slice A1 n1 c1).ownBlock)] q9→ah [(some bC),((Value.slice A1 n1 c1).ownBlock)] q9:=(ah.skip (ah.keep ah.aR));replace HF:=HF.less SB;replace ak:=fun k h=>ak k (SB k h);replace dA:=fun k h=>dA k (SB k h);clear SB;replace E:=aB (ah [((Value.slice A1 n1 c1).ownBlock)]) w6;replace HF:=HF.and (Per.aQ aS (aj.cons WG aj.nil));refine za rfl (qe (news:=[.int .u8 (x.toNat:Int)]) u46 iV rfl de rfl Od rfl (qq (HF.on E).here.2 ((HF.on E).here.2).lt rfl) (by simp[Value.oneCell']) (by unfold maxLen;omega) om (by exact Nat.le_trans LW.size E.size) ?_);intro v0 w7 On En KN;obtain ⟨A2,c2,rfl⟩:=zp On;replace KN:∀q9,((Value.slice A2 (n1+1) c2).ownBlock)=some q9→((Value.slice A1 n1 c1).ownBlock)=some q9∨w6.heap.size≤q9:=KN;have HY:bL (ah [((Value.slice A2 (n1+1) c2).ownBlock)]) (ah [((Value.slice A1 n1 c1).ownBlock)]) w6:=(ah.grow ah.none_ (fun k e=>(KN k e).elim (fun e=>Or.inl (ah.head k e)) (fun h=>Or.inr (Nat.le_trans E.size h))));replace OB:∀q9,((Value.slice A2 (n1+1) c2).ownBlock)=some q9→((Value.slice none 0 0).ownBlock)=some q9∨w2.heap.size≤q9:=fun k e=>(KN k e).elim (OB k) (fun h=>Or.inr (Nat.le_trans M3.size (Nat.le_trans E.size h)));replace E:=E.step1 En ah.head;have XT:=fun q9 (h:(ah [((Value.slice A2 (n1+1) c2).ownBlock)]) q9)=>(HY q9 h).elim (ak q9) (fun h=>Or.inr (Nat.le_trans LW.size h));have XT:=fun q9 (h:(ah [((Value.slice A2 (n1+1) c2).ownBlock)]) q9)=>(HY q9 h).elim (dA q9) (fun h=>Or.inr (Nat.le_trans M3.size h));replace M3:=M3.step E dA;replace dA:=XT;replace E:=aB (ah [((Value.slice A2 (n1+1) c2).ownBlock)]) w7;clear HY;replace Od:World.ownsRow w7 w.heap.size 5 1 (.slice A2 (n1+1) c2) (n1+1) (x1++ [bV x]):=by
    have e:(x1:List Value)++([.int .u8 (x.toNat:Int)]:List Value)=x1++ [bV x]:=rfl;rw[←e];exact On
   clear On KN En;refine ya ?_;refine yc ?_;refine yl ?_;refine yi 6 (.int .i64 ((i+1:Nat):Int)) rfl (rfl) ?_;exact yk (i+1,A2,c2,n1+1,x1++ [bV x]) (by show (vi b).length-(i+1)<(vi b).length-i;omega) ⟨rfl,rfl,rfl,trivial⟩ ⟨M3.step E dA,(by exact Od),OB,by show i+1≤(vi b).length;omega,by rw[hnx,List.length_append,←hn1];rfl,by rw[hnx,List.map_append,←hx1];rfl,by show n1+1≤i+1;omega⟩
 ·
  have hi2:i=(vi b).length:=om;have hg:(ky b)[i]? =some 101:=by rw[hi2];exact OA b
  refine fU rfl (qm (j:=i) (b:=101) u9 rfl rfl rfl (tu hg) (uP ?_));refine yc ?_;refine ze 37 (.int .i64 (((vi b).length+1:Nat):Int)) rfl (by congr 1;omega) (Ad ?_);refine za rfl (zc ac1 rfl ((Ac _ _ (fP b) hp (Gb b)).mono ?_));rintro e w8 ⟨rfl,hb⟩;refine ⟨_,rfl,?_⟩;have Ec:=Ext.of_below hb No;replace Od:=zk Od Ec aj.nil;replace E:=E.trans Ec.no;have hbd:Oy ((vi b).take i)=vj b:=by rw[hi2,List.take_length,hh,Jm hF.aI]
  rw[hbd] at hn1 hx1;refine yd ?_;refine za rfl (kg (l:=vj b) u46 underlying5 u9 (congrArg some (congrArg (fun n↦Value.slice A1 n c1) hn1)) (zdz Od hx1) (zn ?_));exact gi
theorem DT (b:Nat) (hb:b<18446744073709551616):Calls prog 46 #[.int .u64 ((b:Nat):Int)] w (aD w (.string ⟨(xu b).toArray⟩)):=by
 have hs1:=SV b;refine zd func46 rfl ntmps46 rfl ?_;have LW:=aB (No) w;have ak:=aP (No) w;have E:=aB (No) w;refine qu ?_;refine zb uH (xl _ b hb) E fun w1 E=>?_;by_cases hn:aY b=true
 ·
  have hX:xu b= [110,97,110]:=by rw[xu,if_pos hn]
  refine zo ?_;refine qk 7 rfl (by rw[hn]<;>rfl) (qu ?_);exact ku
 ·
  have hn:=Bool.eq_false_iff.2 hn;refine zo ?_;refine yn 7 rfl (by rw[hn]<;>rfl) (vc ?_);refine zb Qt (zik _ b hb) E fun w2 E=>(zo ?_);replace LW:=LW.step E ak;replace E:=aB (No) w2;refine vk (ι:=Unit) (fun _=>[(0,.int .u64 ((b:Nat):Int)),(3,.string ⟨(vp (ng b)).toArray⟩)]) (fun _ w'=>Ext (No) w2 w'∧(True)) ?_ ?_
  ·
   have M3:=aB (No) w2;have dA:=aP (No) w2;refine zg rfl (fun hs=>?_) (fun hs=>?_)
   ·
    refine yl ?_;refine yi 3 (.string ⟨(vp (ng b)).toArray⟩) rfl ((by rw[hs];rfl:(.string ⟨#[45]⟩:Value)=_)) ?_;exact yy () ⟨rfl,rfl,trivial⟩ ⟨M3.step E dA,trivial⟩
   ·
    refine aN ?_;refine yi 3 (.string ⟨(vp (ng b)).toArray⟩) rfl ((by rw[hs];rfl:(.string ⟨#[]⟩:Value)=_)) ?_;exact yy () ⟨rfl,rfl,trivial⟩ ⟨M3.step E dA,trivial⟩
  ·
   rintro _ w4 ⟨M3,_⟩;replace E:=E.trans M3;replace LW:=LW.step E ak;replace E:=aB (No) w4;refine yl ?_;refine za rfl (gm rfl rfl (EC hb) (yd ?_));by_cases hi:rg b=9218868437227405312
   ·
    have hX:xu b=vp (ng b)++ [105,110,102]:=by rw[xu,if_neg (by rw[hn];decide),if_pos hi];cases ng b<;>rfl
    refine qk 13 rfl (by rw[hi];rfl) (yf ?_);refine za rfl (ve rfl rfl (by rw[gc];show _+3≤_;omega) (zq ?_));exact ⟨by rw[hX,←qh];rfl,aT LW E ak⟩
   ·
    have he:=Ga hn hi;have hX:xu b=LA b:=by rw[xu,if_neg (by rw[hn];decide),if_neg hi]
    have hr:rg b<9223372036854775808:=Nat.mod_lt _ de;have hY:LA b=vp (ng b)++(if vv b=0 then [48,46,48] else Bb (vj b) (dx b)):=by rw[LA,ZO hb]
    refine yn 13 rfl (by rw[beq_eq_false_iff_ne.2 om]<;>rfl) (yd ?_);by_cases hz:vv b=0
    ·
     have hz2:=(pz b).1 hz;refine qk 17 rfl (by rw[hz2];rfl) (yf ?_);refine za rfl (ve rfl rfl (by rw[gc];show _+3≤_;omega) (zq ?_));exact ⟨by rw[hX,hY,if_pos hz,←qh];rfl,aT LW E ak⟩
    ·
     have hz2:rg b≠0:=fun e=>hz ((pz b).2 e);have hF:=(xc hz he).1;have hD1:=hF.aI.1;have hD2:=hF.len;have hp:=Ml he;have hpd:dx b=fP b+1:=by rw[fP,if_neg hz];omega
     rw[if_neg hz,hpd] at hY;refine yn 17 rfl (by rw[beq_eq_false_iff_ne.2 om]<;>rfl) (zq ?_);have hdc:=Ah _ (later hT (LW.step E ak).toBelow) (later hD (LW.step E ak).toBelow) (rg b) hr (by rw[sZ];exact he) (by rw[qcq];exact hz);rw[Ow,al6] at hdc;refine zb aq6 (hdc) E fun w5 E=>(qu ?_);replace LW:=LW.step E ak;replace E:=aB (No) w5;refine vk (ι:=Bool) (fun t=>[(3,.string ⟨(vp (ng b)).toArray⟩),(4,.string ⟨(vj b).toArray⟩),(5,.int .i64 (fP b)),(30,.bool t)]) (fun t w'=>Ext (No) w5 w'∧((t=true↔(-4≤fP b∧fP b≤15)))) ?_ ?_
     ·
      have M6:=aB (No) w5;have bM:=aP (No) w5;by_cases h1:-4≤fP b
      ·
       refine yf ?_;refine xv 27 rfl (by rw[decide_eq_true h1]<;>rfl) (yf ?_);exact yy (decide (fP b≤15)) ⟨rfl,rfl,rfl,rfl,trivial⟩ ⟨M6.step E bM,⟨fun h=>⟨h1,of_decide_eq_true h⟩,fun h=>decide_eq_true h.2⟩⟩
      ·
       refine yf ?_;refine gy 27 rfl (by rw[decide_eq_false h1]<;>rfl) (yf ?_);exact yy false ⟨rfl,rfl,rfl,rfl,trivial⟩ ⟨M6.step E bM,⟨fun h=>(by cases h),fun h=>absurd h.1 h1⟩⟩
     ·
      rintro t w7 ⟨M6,ht⟩;replace E:=E.trans M6;replace LW:=LW.step E ak;replace E:=aB (No) w7;refine zg rfl (fun h2=>?_) (fun h2=>?_)
      ·
       have h3:=ht.1 h2;have hrl:(Bb (vj b) (fP b+1)).length≤3000:=by
        rw[Bb,if_neg om];have:=xI (D:=vj b) (dp:=fP b+1) hD2 om;split
        · omega
        · rw[List.length_append];show _+2≤_;omega
       refine ya ?_;refine zb aq7 (DR _ (vj b) (fP b) hD1 hD2 h3) E fun w8 E=>(za rfl (ve rfl rfl (by rw[gc,gc];omega) (zq ?_)));exact ⟨by rw[hX,hY,qh];rfl,aT LW E ak⟩
      ·
       have h3:¬(-4≤fP b∧fP b≤15):=fun h=>by rw[ht.2 h] at h2;cases h2
       have hR:Bb (vj b) (fP b+1)=ot (vj b) (fP b+1):=by rw[Bb,if_pos om]
       have hrl:(ot (vj b) (fP b+1)).length≤3000:=by
        have h5:=lZ hp;rw[ot,show fP b+1-1=fP b from om,List.length_append,List.length_cons];have h6:(gg (vj b)).length≤30:=by
         have:=yux he;unfold vi at this;rw[if_neg hz,List.length_append] at this;omega
        omega
       refine zn ?_;refine zb aq8 (Ag _ (vj b) (fP b) hD1 hD2 hp (later hD (LW.step E ak).toBelow)) E fun w9 E=>(za rfl (ve rfl rfl (by rw[gc,gc];omega) (ya ?_)));exact ⟨by rw[hX,hY,hR,qh];rfl,aT LW E ak⟩
end
end Go.Proofs.YtdofcnodhgaedaaGreatDoor
namespace Go.Proofs.YtdofcnodhgaedaaGreatDoor
open Go.RowKit Proofs.Tryz
section
attribute [local irreducible] OW RS CW EW
theorem WS {P:Prop} (h:P:=by
 have hX:je ua= [78,111,110,101]:=by rw[je,if_pos hg,if_pos h0]
 refine yd ?_;exact ku):P:=h
theorem WT {P:Prop} (h:P:=by
 have hX:je ua=ua.s.data.toList:=by rw[je,if_pos hg,if_neg h0,if_neg h1,if_neg h2,if_neg h3]
 refine kb ?_;exact ⟨by rw[hX,Tn];rfl,aT LW E ak⟩):P:=h
theorem WU {P:Prop} (h:P:=by
 refine yu ?_;refine zg rfl (fun hy=>?_) (fun hy=>?_)
 ·
  have hX:je ua= [84,114,117,101]:=by rw[je,if_pos hg,if_neg h0,if_pos h1,if_pos hy]
  refine yd ?_;exact ku
 ·
  have hX:je ua= [70,97,108,115,101]:=by rw[je,if_pos hg,if_neg h0,if_pos h1,if_neg (by rw[hy];decide)]
  refine qa ?_;exact ku):P:=h
theorem Tn (s:ByteArray):(⟨s.data.toList.toArray⟩:ByteArray)=s:=by cases s;simp
def je (v:PV):List UInt8:=
 if v.good=true then (if v.k=0 then [78,111,110,101] else if v.k=1 then (if v.yes=true then [84,114,117,101] else [70,97,108,115,101]) else if v.k=2 then Lib.itoa (num v.cn v.cx) else if v.k=3 then xu v.bits else v.s.data.toList) else []
def kw (v:PV):List UInt8:=if v.good=true∧v.k=4 then qf v.s.data.toList++ [39] else je v
theorem PV.am5 {v:PV} (h:v.good=true) (hk:v.k=2) {I:Int} (hI:I=num v.cn v.cx):v.neg=decide (I<0)∧v.xs=limbs I∧I.natAbs<au^30:=by
 obtain ⟨a,b,c⟩:=PV.canon h (Or.inr hk);have e1:v.cn=v.neg:=by unfold PV.cn;rw[if_neg om]
 have e2:v.cx=v.xs:=by unfold PV.cx;rw[if_neg om]
 rw[hI];exact ⟨e1.symm.trans a,e2.symm.trans b,c⟩
theorem O7 (s:ByteArray):(!(s.toList==(⟨#[]⟩:ByteArray).toList))=decide ((0:Int)<(s.size:Int)):=by
 have e:(s.toList).length=s.size:=by rw[ByteArray.toList_eq];rfl
 have e2:(⟨#[]⟩:ByteArray).toList= []:=by rw[ByteArray.toList_eq]
 rw[e2];cases h:s.toList with
 | nil=>rw[h] at e;rw[decide_eq_false (by rw[←e];decide)];rfl
 | cons x l=>rw[h] at e;rw[decide_eq_true (by rw[←e,List.length_cons];omega)];rfl
section
variable (w:World) (ua:PV) (A1 B1:Option Addr) (c1 d1:Nat) (hx:ay w A1 ua.xs) (hl:ua.xs.length≤9223372036854775807) (ha:ua.bits<18446744073709551616) (hT:∀b,Below w.heap.size w b→bY b) (hD:∀b,Below w.heap.size w b→dH b)
include hx hl ha hT hD
theorem qak:Calls prog 10 #[bI ua A1 c1 B1 d1] w (aD w (.string ⟨(je ua).toArray⟩)):=by
 refine zh func10 ntmps10 fun HF LW ak E=>?_;replace HF:=HF.and (Per.aF hx);refine zo ?_;refine zl HF LW E ak fun aK w2 HF LW E=>?_;refine zn ?_;by_cases hg:ua.good=true
 ·
  refine zb fC (qc _ ua A1 B1 c1 d1 (HF.on E).here.1.2 hl true hg) E fun w3 E=>(JR ?_);by_cases h0:ua.k=0
  ·
   refine qk 8 rfl (sw h0) ?_;exact WS
  ·
   refine yn 8 rfl (sw h0) (zn ?_);by_cases h1:ua.k=1
   ·
    refine qk 10 rfl (sw h1) ?_;exact WU
   ·
    refine yn 10 rfl (sw h1) (zn ?_);by_cases h2:ua.k=2
    ·
     refine qk 14 rfl (sw h2) ?_;obtain ⟨I,hI⟩:∃I,I=num ua.cn ua.cx:=⟨_,rfl⟩;obtain ⟨hn,hxs,hIb⟩:=PV.am5 hg h2 hI;have hX:je ua=Lib.itoa I:=by rw[je,if_pos hg,if_neg h0,if_neg h1,if_pos h2,hI]
     refine yf ?_;refine zuv ?_;refine ze 17 (.agg #[.bool (decide (I<0)),.slice A1 (limbs I).length c1]) rfl (by rw[←hn,←hxs]<;>rfl) (zb ap3 (al9 I A1 c1 _ hIb (by rw[←hxs];exact (HF.on E).here.1.2) (later hD (LW.step E ak).toBelow)) E fun w4 E=>(zn ?_));exact ku
    ·
     refine yn 14 rfl (sw h2) (zn ?_);by_cases h3:ua.k=3
     ·
      refine qk 19 rfl (sw h3) ?_;have hX:je ua=xu ua.bits:=by rw[je,if_pos hg,if_neg h0,if_neg h1,if_neg h2,if_pos h3]
      refine ya ?_;refine zb ap4 (Jk _ (later hT (LW.step E ak).toBelow) (later hD (LW.step E ak).toBelow) ua.bits ha) E fun w5 E=>(zn ?_);exact ku
     ·
      refine yn 19 rfl (sw h3) ?_;exact WT
 ·
  have hg:=Bool.eq_false_iff.2 hg;have hX:je ua= []:=by rw[je,if_neg (by rw[hg];decide)]
  refine zb fC (qc _ ua A1 B1 c1 d1 (HF.on E).here.1.2 hl false hg) E fun w6 E=>(vc ?_);exact ku
theorem pI:Calls prog 11 #[bI ua A1 c1 B1 d1] w (aD w (.string ⟨(kw ua).toArray⟩)):=by
 by_cases h4:ua.k=4
 · cases hg:ua.good
   · have hX:kw ua= []:=by rw[kw,if_neg (by rw[hg];intro h;cases h.1),je,if_neg (by rw[hg];decide)]
     have hX2:je ua= []:=by rw[je,if_neg (by rw[hg];decide)]
     refine zh func11 ntmps11 fun HF LW ak E=>?_;replace HF:=HF.and (Per.aF hx);refine jr ?_;intro aK w2 aM kE bT;have bT:_≤aK:=Nat.le_trans E.size bT;have Hf:=Nat.le_trans LW.size bT;obtain ⟨HF,LW,E⟩:=frz HF LW E ak aM kE;refine yd ?_;refine gy 9 rfl (sw h4) (aN ?_);refine zb fC (qc _ ua A1 B1 c1 d1 (HF.on E).here.1.2 hl false hg) E fun w3 E=>(yu ?_);refine zb Qo (qak _ ua A1 B1 c1 d1 (HF.on E).here.1.2 hl ha (later hT (LW.step E ak).toBelow) (later hD (LW.step E ak).toBelow)) E fun w4 E=>(zq ?_);exact ⟨by rw[hX,hX2];rfl,aT LW E ak⟩
   · have hX:kw ua=qf ua.s.data.toList++ [39]:=by rw[kw,if_pos ⟨hg,h4⟩]
     rw[hX];exact Au w ua A1 B1 c1 d1 hx hl hg h4 (PV.F8 hg h4)
 · have hX:kw ua=je ua:=by rw[kw,if_neg (fun h=>h4 h.2)]
   refine zh func11 ntmps11 fun HF LW ak E=>?_;replace HF:=HF.and (Per.aF hx);refine zo ?_;refine zl HF LW E ak fun aK w2 HF LW E=>?_;refine yd ?_;refine xv 9 rfl (sw h4) (yd ?_);refine zb Qo (qak _ ua A1 B1 c1 d1 (HF.on E).here.1.2 hl ha (later hT (LW.step E ak).toBelow) (later hD (LW.step E ak).toBelow)) E fun w3 E=>(zq ?_);exact ku
variable (hg:ua.good=true)
include hg
theorem Gi:Calls prog 14 #[bI ua A1 c1 B1 d1] w (aD w (.string ⟨(je ua).toArray⟩)):=by
 have _:=hl;refine zh func14 ntmps14 fun HF LW ak E=>?_;replace HF:=HF.and (Per.aF hx);refine zo ?_;refine zl HF LW E ak fun aK w2 HF LW E=>?_;refine KQ ?_;by_cases h0:ua.k=0
 ·
  refine qk 5 rfl (sw h0) ?_;exact WS
 ·
  refine yn 5 rfl (sw h0) (zn ?_);by_cases h1:ua.k=1
  ·
   refine qk 7 rfl (sw h1) ?_;exact WU
  ·
   refine yn 7 rfl (sw h1) (zn ?_);by_cases h2:ua.k=2
   ·
    refine qk 11 rfl (sw h2) ?_;obtain ⟨I,hI⟩:∃I,I=num ua.cn ua.cx:=⟨_,rfl⟩;obtain ⟨hn,hxs,hIb⟩:=PV.am5 hg h2 hI;have hX:je ua=Lib.itoa I:=by rw[je,if_pos hg,if_neg h0,if_neg h1,if_pos h2,hI]
    refine yf ?_;refine zuv ?_;refine ze 14 (.agg #[.bool (decide (I<0)),.slice A1 (limbs I).length c1]) rfl (by rw[←hn,←hxs]<;>rfl) (zlx Qr (Zw A1 c1 _ hIb (by rw[←hxs];exact (HF.on E).here.1.2)) HF LW E ak (fun o=>Per.y5 o ah.none_) fun A3 c3 w3 HF LW E=>(zb apq (Jt I A3 c3 _ hIb (HF.on E).here.2) E fun w4 E=>(zn ?_)));exact ku
   ·
    refine yn 11 rfl (sw h2) (zn ?_);by_cases h3:ua.k=3
    ·
     refine qk 17 rfl (sw h3) ?_;have hX:je ua=xu ua.bits:=by rw[je,if_pos hg,if_neg h0,if_neg h1,if_neg h2,if_pos h3]
     refine ya ?_;refine zb apz (DT _ (later hT (LW.step E ak).toBelow) (later hD (LW.step E ak).toBelow) ua.bits ha) E fun w5 E=>(zn ?_);exact ku
    ·
     refine yn 17 rfl (sw h3) ?_;exact WT
theorem O8:Calls prog 12 #[bI ua A1 c1 B1 d1] w (aD w (.bool (vg ua))):=by
 have _:=hl;have _:=hT;have _:=hD;refine zh func12 ntmps12 fun HF LW ak E=>?_;replace HF:=HF.and (Per.aF hx);refine zo ?_;refine zl HF LW E ak fun aK w2 HF LW E=>?_;refine KQ ?_;by_cases h1:ua.k=1
 ·
  refine qk 5 rfl (sw h1) ?_;have hX:vg ua=ua.yes:=by rw[vg,if_pos hg,if_pos h1]
  refine vc ?_;exact ku
 ·
  refine yn 5 rfl (sw h1) (zn ?_);by_cases h2:ua.k=2
  ·
   refine qk 9 rfl (sw h2) ?_;have hX:vg ua=decide ((0:Int)<(ua.xs.length:Int)):=by rw[vg,if_pos hg,if_neg h1,if_pos h2]
   refine oe ?_;exact ku
  ·
   refine yn 9 rfl (sw h2) (zn ?_);by_cases h3:ua.k=3
   ·
    refine qk 16 rfl (sw h3) ?_;have hX:vg ua=(!tN ua.bits):=by rw[vg,if_pos hg,if_neg h1,if_neg h2,if_pos h3,Tg ha];unfold tN;exact decide_not
    refine ya ?_;refine zb ap6 (BL _ ua.bits ha) E fun w3 E=>(yu ?_);exact ku
   ·
    refine yn 16 rfl (sw h3) (zn ?_);by_cases h4:ua.k=4
    ·
     refine qk 22 rfl (sw h4) ?_;have hX:vg ua=decide ((0:Int)<(ua.s.size:Int)):=by
      rw[vg,if_pos hg,if_neg h1,if_neg h2,if_neg h3];exact O7 ua.s
     refine ya ?_;refine jt ?_;refine yu ?_;exact ku
    ·
     refine yn 22 rfl (sw h4) ?_;have h0:ua.k=0:=by have:=PV.kinds hg;omega
     have hX:vg ua=false:=by
      rw[vg,if_pos hg,if_neg h1,if_neg h2,if_neg h3,PV.s0 hg (Or.inl h0)];simp
     refine qa ?_;exact ku
end
theorem WV {P:Prop} (h:P:=by
 refine za rfl (zv (cs:=#[bV 92,bV x]) u46 dw mI de rfl (by rw[ym];rfl) ?_);rintro g8 wD B8 E8 G8;exact Pb):P:=h
theorem WW {P:Prop} (h:P:=by
 obtain ⟨_,e0,k0⟩:=AL.1;obtain ⟨g8,e9,k9⟩:=AL.2.2.2.2.2.2.2.2.2.1;have Wc9:=k9.here;refine jz (τ:=[(1,_),(3,_),(4,_),(5,_),(54,.slice A (qf (L.take i)).length c),(63,.slice (some ⟨g8,0,none⟩) 4 4)]) ⟨rfl,rfl,rfl,rfl,congrArg some e0,congrArg some e9,trivial⟩ ?_;clear AL AF AA AO;refine Ky (iU kr (fun _ _ d_ _ _ h=>by cases d_<;>exact h) ?_);have B8:=Wc9;have E8:=Ext.of_below hbd No;exact Pb):P:=h
theorem am6 {P:Prop} (h:P:=by
 refine ⟨arm,arm,arm,?_,?_,arm,arm,?_,?_,?_,trivial⟩
 · refine yt ?_;intro vs X wq K;exact Qg rfl rfl de (UC (n:=((x.toNat/16:Nat):Int)) om) ⟨Below.refl _ _,Left.of rfl⟩
 · refine yt ?_;intro vs X wq K;exact qm (j:=x.toNat/16) (b:=(kq (x.toNat/16)).toNat) u9 rfl rfl rfl (Gj om) ⟨Below.refl _ _,Left.of rfl⟩
 · refine yt ?_;intro vs X wq K;exact ju rfl rfl de (show (x.toNat:Int).tmod 16=((x.toNat%16:Nat):Int) from rfl) ⟨Below.refl _ _,Left.of rfl⟩
 · refine yt ?_;intro vs X wq K;exact qm (j:=x.toNat%16) (b:=(kq (x.toNat%16)).toNat) u9 rfl rfl rfl (Gj om) ⟨Below.refl _ _,Left.of rfl⟩
 · refine yt ?_;intro vs X wq K;have XN:=K.2.1;refine lU (cs:=#[bV 92,bV 120,bV (kq (x.toNat/16)),bV (kq (x.toNat%16))]) u46 dw mI de rfl (by rw[ym];rfl) ?_;intro g8 w5 Bx hb Gx;exact ⟨hb,⟨g8,rfl,Per.blk Bx (fun hx=>by have:=XN g8 hx;omega)⟩⟩):P:=h
theorem Pb {P:Prop} (h:P:=by
 refine za rfl (yfv (n':=(qf (L.take (i+1))).length) (xs':=(qf (L.take (i+1))).map bV) u46 iV rfl de rfl (vw Om E8 (fun _ _ h=>h.elim)) rfl (yfx B8 B8.lt rfl) (by simp[Value.oneCell',bV]) (Tp hxl hq) (Z4 hxl hq) (by unfold maxLen;omega) om (by have:=hEm.size;have:=E8.size;omega) ?_);rintro A9 c9 wE O9 E9 K9;refine zn ?_;refine za rfl (vu rfl rfl (yj om) (zo ?_));exact yk (i+1,A9,c9) (by show ua.s.size-(i+1)<ua.s.size-i;omega) ⟨rfl,rfl,rfl,rfl,trivial⟩ (⟨om,O9,(hEm.step E8 (fun _ h=>h.elim)).step E9 (fun q hq=>Or.inl (N7 (vw Om E8 (fun _ _ h=>h.elim)) q hq))⟩)):P:=h
theorem Z5 {w:World} {lo g:Nat} {x:UInt8} (hb:aA w g 5 #[bV x]) (hg:lo≤g):w.ownsRow lo 5 1 (.slice (some ⟨g,0,none⟩) 1 1) 1 [bV x]:=
 ⟨by simp,Or.inr ⟨g,1,_,rfl,hg,hb,Nat.le_refl _,by unfold maxLen;omega,by simp,by simp⟩⟩
theorem Gj {j:Nat} (h:j<16):((⟨#[48,49,50,51,52,53,54,55,56,57,97,98,99,100,101,102]⟩:ByteArray).data[j]?).map (·.toNat)=some (kq j).toNat:=by
 have key:∀n:Fin 16,((#[48,49,50,51,52,53,54,55,56,57,97,98,99,100,101,102]:Array UInt8)[n.val]?).map (·.toNat)=some (kq n.val).toNat:=by decide +kernel
 exact key ⟨j,h⟩
theorem Z4 {l:List UInt8} {i:Nat} {x:UInt8} (h:l[i]? =some x) {q:List UInt8} (hq:qb x=q):(qf (l.take i)).map bV++q.map bV=(qf (l.take (i+1))).map bV:=by
 rw[gk h,List.map_append,hq]
theorem Tp {l:List UInt8} {i:Nat} {x:UInt8} (h:l[i]? =some x) {q:List UInt8} (hq:qb x=q):(qf (l.take i)).length+q.length=(qf (l.take (i+1))).length:=by
 rw[gk h,List.length_append,hq]
section
variable (w:World) (ua:PV) (A1 B1:Option Addr) (c1 d1:Nat) (hx:ay w A1 ua.xs) (hl:ua.xs.length≤9223372036854775807) (ha:ua.bits<18446744073709551616) (hT:∀b,Below w.heap.size w b→bY b) (hD:∀b,Below w.heap.size w b→dH b) (hg:ua.good=true)
include hx hl ha hT hD hg
theorem JF (h4:ua.k=4):Calls prog 15 #[bI ua A1 c1 B1 d1] w (aD w (.string ⟨(qf ua.s.data.toList++ [39]).toArray⟩)):=by
 have _:=hx;have _:=hl;have _:=ha;have _:=hT;have _:=hD;have hss:=PV.F8 hg h4;obtain ⟨L,hL⟩:∃L,L=ua.s.data.toList:=⟨_,rfl⟩;have hLn:L.length=ua.s.size:=by rw[hL,Array.length_toList];rfl
 rw[←hL];refine zd func15 rfl ntmps15 rfl (jr ?_);rintro gv wA BX E1 G1;refine qa ?_;refine yn 9 rfl (by rw[h4];rfl) (yd ?_);refine za rfl (zv (cs:=#[bV 39]) u46 dw mI de rfl (by rw[ym];rfl) ?_);rintro gx wB Bx E2 Gx;have O1:wB.ownsRow wA.heap.size 5 1 (.slice (some ⟨gx,0,none⟩) 1 1) 1 [bV 39]:=Z5 Bx Gx;have hgA:=BX.lt;refine yd ?_;refine zy 5 (.int .i64 ((0:Nat):Int)) rfl (rfl) (qt (ι:=Nat×Option Addr×Nat) (fun (i,A,c)=>[(1,.pointer (some ⟨gv,0,none⟩)),(3,.string ⟨#[48,49,50,51,52,53,54,55,56,57,97,98,99,100,101,102]⟩),(4,.slice A (qf (L.take i)).length c),(5,.int .i64 ((i:Nat):Int))]) (fun (i,A,c) w'=>i≤ua.s.size∧w'.ownsRow wA.heap.size 5 1 (.slice A (qf (L.take i)).length c) (qf (L.take i)).length ((qf (L.take i)).map bV)∧Ext (fun q=>wA.heap.size≤q) wA w') (fun (i,_)=>ua.s.size-i) (0,some ⟨gx,0,none⟩,1) ⟨rfl,rfl,rfl,rfl,trivial⟩ (⟨Nat.zero_le _,O1,E2.noL wA.heap.size⟩) ?_);rintro ⟨i,A,c⟩ w2 ⟨hin,Om,hEm⟩;have BXm:=BX.ext hEm (fun h=>by have h:wA.heap.size≤gv:=h;omega);have RG:(qf (L.take i)).length≤1+4*20000:=by have:=zzk (L.take i);rw[List.length_take] at this;omega
 refine zq ?_;refine jt ?_;refine yl ?_;refine zg rfl (fun hic=>?_) (fun hic=>?_)
 ·
  have hic:=of_decide_eq_true hic;have hil:i<ua.s.size:=om;obtain ⟨x,hxl⟩:∃x,L[i]? =some x:=⟨_,List.getElem?_eq_getElem om⟩;have auz:=zzk (L.take (i+1));rw[List.length_take] at auz;have hx256:=x.toNat_lt;refine qu ?_;refine za rfl (qm (j:=i) (b:=x.toNat) u9 rfl rfl rfl (by rw[←Array.getElem?_toList,←hL,hxl];rfl) ?_);refine qa ?_;by_cases k10:x.toNat=10
  ·
   refine qk 28 rfl (by rw[k10];rfl) ?_;have hq:qb x= [92,110]:=by rw[qb,if_pos k10]
   refine yl ?_;refine za rfl (zv (cs:=#[bV 92,bV 110]) u46 dw mI de rfl (by rw[ym];rfl) ?_);rintro g8 wD B8 E8 G8;exact Pb
  ·
   refine yn 28 rfl (by rw[beq_eq_false_iff_ne.2 om]<;>rfl) (yu ?_);by_cases k9:x.toNat=9
   ·
    refine qk 34 rfl (by rw[k9];rfl) ?_;have hq:qb x= [92,116]:=by rw[qb,if_neg k10,if_pos k9]
    refine yl ?_;refine za rfl (zv (cs:=#[bV 92,bV 116]) u46 dw mI de rfl (by rw[ym];rfl) ?_);rintro g8 wD B8 E8 G8;exact Pb
   ·
    refine yn 34 rfl (by rw[beq_eq_false_iff_ne.2 om]<;>rfl) (qu ?_);by_cases k92:x.toNat=92
    ·
     refine qk 40 rfl (by rw[k92];rfl) ?_;have hq:qb x= [92,x]:=by rw[qb,if_neg k10,if_neg k9,if_pos k92]
     refine zn ?_;exact WV
    ·
     refine yn 40 rfl (by rw[beq_eq_false_iff_ne.2 om]<;>rfl) (zn ?_);by_cases k39:x.toNat=39
     ·
      refine qk 40 rfl (by rw[k39];rfl) ?_;have hq:qb x= [92,x]:=by rw[qb,if_neg k10,if_neg k9,if_neg k92,if_pos k39]
      refine yf ?_;exact WV
     ·
      refine yn 40 rfl (by rw[beq_eq_false_iff_ne.2 om]<;>rfl) (qu ?_);by_cases k32:x.toNat<32
      ·
       refine qk 49 rfl (by rw[decide_eq_true om]<;>rfl) ?_;have hq:qb x= [92,120,kq (x.toNat/16),kq (x.toNat%16)]:=by rw[qb,if_neg k10,if_neg k9,if_neg k92,if_neg k39,if_pos k32]
       refine yf ?_;refine qI mixed (qL 10 rfl ?_);refine yok (No) ah.none_ [] [] (gH [Fx.of (.slice A (qf (L.take i)).length c),
        Fx.of (.string ⟨#[48,49,50,51,52,53,54,55,56,57,97,98,99,100,101,102]⟩),
        Fx.of (.int .u8 (x.toNat:Int)),
        Fx.of (.int .u8 ((x.toNat/16:Nat):Int)),
        Fx.of (.int .u8 (((kq (x.toNat/16)).toNat:Nat):Int)),
        Fx.of (.string ⟨#[48,49,50,51,52,53,54,55,56,57,97,98,99,100,101,102]⟩),
        Fx.of (.int .u8 (x.toNat:Int)),
        Fx.of (.int .u8 ((x.toNat%16:Nat):Int)),
        Fx.of (.int .u8 (((kq (x.toNat%16)).toNat:Nat):Int)),
        ⟨Nat,fun g8=>.slice (some ⟨g8,0,none⟩) 4 4,fun g8 b=>(aA b g8 5 #[bV 92,bV 120,bV (kq (x.toNat/16)),bV (kq (x.toNat%16))])⟩]) rfl trivial (fun _ h=>by cases h) ?_ ?_
       · exact am6
       intro vs w3 LE AO AL AF AA;have hbd:Below (w2).heap.size (w2) w3:=(((Ext.refl No (w2)).drew).trans LE).toBelow;exact WW
      ·
       refine yn 49 rfl (by rw[decide_eq_false om]<;>rfl) (zn ?_);by_cases am7:126<x.toNat
       ·
        refine qk 49 rfl (by rw[decide_eq_true om]<;>rfl) ?_;have hq:qb x= [92,120,kq (x.toNat/16),kq (x.toNat%16)]:=by rw[qb,if_neg k10,if_neg k9,if_neg k92,if_neg k39,if_neg k32,if_pos am7]
        refine aN ?_;refine qI mixed (qL 10 rfl ?_);refine yok (No) ah.none_ [] [] (gH [Fx.of (.slice A (qf (L.take i)).length c),
         Fx.of (.string ⟨#[48,49,50,51,52,53,54,55,56,57,97,98,99,100,101,102]⟩),
         Fx.of (.int .u8 (x.toNat:Int)),
         Fx.of (.int .u8 ((x.toNat/16:Nat):Int)),
         Fx.of (.int .u8 (((kq (x.toNat/16)).toNat:Nat):Int)),
         Fx.of (.string ⟨#[48,49,50,51,52,53,54,55,56,57,97,98,99,100,101,102]⟩),
         Fx.of (.int .u8 (x.toNat:Int)),
         Fx.of (.int .u8 ((x.toNat%16:Nat):Int)),
         Fx.of (.int .u8 (((kq (x.toNat%16)).toNat:Nat):Int)),
         ⟨Nat,fun g8=>.slice (some ⟨g8,0,none⟩) 4 4,fun g8 b=>(aA b g8 5 #[bV 92,bV 120,bV (kq (x.toNat/16)),bV (kq (x.toNat%16))])⟩]) rfl trivial (fun _ h=>by cases h) ?_ ?_
        · exact am6
        intro vs w4 LE AO AL AF AA;have hbd:Below (w2).heap.size (w2) w4:=(((Ext.refl No (w2)).drew).trans LE).toBelow;exact WW
       ·
        refine yn 49 rfl (by rw[decide_eq_false om]<;>rfl) ?_;have hq:qb x= [x]:=by rw[qb,if_neg k10,if_neg k9,if_neg k92,if_neg k39,if_neg k32,if_neg am7]
        refine yf ?_;refine za rfl (zv (cs:=#[bV x]) u46 dw mI de rfl (by rw[ym];rfl) ?_);rintro g8 wD B8 E8 G8;exact Pb
 ·
  have hic:=of_decide_eq_false hic;have hLi:L.take i=L:=List.take_of_length_le om;rw[hLi] at Om RG;refine zy 4 (.slice A (qf L).length c) rfl (by rw[hLi]<;>rfl) (yu ?_);refine za rfl (zv (cs:=#[bV 39]) u46 dw mI de rfl (by rw[ym];rfl) ?_);rintro g8 wD B8 E8 G8;refine za rfl (yfv (n':=(qf L++ [39]).length) (xs':=(qf L++ [39]).map bV) u46 iV rfl de rfl (vw Om E8 (fun _ _ h=>h.elim)) rfl (yfx B8 B8.lt rfl) (by simp[Value.oneCell',bV]) (by rw[List.length_append];rfl) (by rw[List.map_append];rfl) (by rw[List.length_append];show _+1≤_;unfold maxLen;omega) (by rw[List.length_append];show (_+1)*1≤_;omega) (by have:=hEm.size;have:=E8.size;omega) ?_);rintro A9 c9 wE O9 E9 K9;refine za rfl (kg (l:=qf L++ [39]) u46 underlying5 u9 rfl (zdz O9 rfl) (ya ?_));exact ⟨rfl,(((E1.noL w.heap.size).step ((hEm.step E8 (fun _ h=>h.elim)).step E9 (fun q hq=>Or.inl (N7 (vw Om E8 (fun _ _ h=>h.elim)) q hq))) (fun q hq=>Or.inr (Nat.le_trans E1.size hq))).mono (Y:=No) (fun q hq hq2=>absurd hq2 (by have h:w.heap.size≤q:=hq;omega))).toBelow⟩
theorem JG:Calls prog 15 #[bI ua A1 c1 B1 d1] w (aD w (.string ⟨(kw ua).toArray⟩)):=by
 by_cases h4:ua.k=4
 · have hX:kw ua=qf ua.s.data.toList++ [39]:=by rw[kw,if_pos ⟨hg,h4⟩]
   rw[hX];exact JF w ua A1 B1 c1 d1 hx hl ha hT hD hg h4
 · have hX:kw ua=je ua:=by rw[kw,if_neg (fun h=>h4 h.2)]
   refine zh func15 ntmps15 fun HF LW ak E=>?_;replace HF:=HF.and (Per.aF hx);refine zo ?_;refine zl HF LW E ak fun aK w2 HF LW E=>?_;refine qa ?_;refine qk 9 rfl (sw h4) (yf ?_);refine zb abz (Gi _ ua A1 B1 c1 d1 (HF.on E).here.1.2 hl ha (later hT (LW.step E ak).toBelow) (later hD (LW.step E ak).toBelow) hg) E fun w3 E=>(zq ?_);exact ku
theorem Tq:Calls prog 13 #[bI ua A1 c1 B1 d1] w (aD w (.int .i64 (gh ua))):=by
 have _:=hl;have _:=hT;have _:=hD;refine zh func13 ntmps13 fun HF LW ak E=>?_;replace HF:=HF.and (Per.aF hx);refine zo ?_;refine zl HF LW E ak fun aK w2 HF LW E=>?_;refine KQ ?_;by_cases h0:ua.k=0
 ·
  refine qk 7 rfl (sw h0) ?_;have hX:gh ua=1:=by rw[gh,if_pos hg,if_pos h0]
  refine yd ?_;exact ku
 ·
  refine yn 7 rfl (sw h0) (zn ?_);by_cases h3:ua.k=3
  ·
   refine qk 9 rfl (sw h3) ?_;have hX:gh ua=og ua.bits:=by rw[gh,if_pos hg,if_neg h0,if_pos h3]
   refine ya ?_;refine zb ap7 (JE _ ua.bits ha) E fun w3 E=>(zn ?_);exact ku
  ·
   refine yn 9 rfl (sw h3) (zn ?_);by_cases h4:ua.k=4
   ·
    refine qk 14 rfl (sw h4) ?_;have hss:=PV.F8 hg h4;have hsn:ua.s.data.toList.length=ua.s.size:=by rw[Array.length_toList];rfl
    have hX:gh ua=((ua.s.data.toList.foldl go ua.s.size:Nat):Int):=by rw[gh,if_pos hg,if_neg h0,if_neg h3,if_pos h4,Ou,hsn]
    refine ya ?_;refine jt ?_;refine yd ?_;refine zy 3 (.int .i64 (((ua.s.data.toList.take 0).foldl go ua.s.size:Nat):Int)) rfl (rfl) (zy 4 (.int .i64 ((0:Nat):Int)) rfl (rfl) ?_);replace HF:=HF.on E;replace LW:=LW.step E ak;replace E:=aB (No) w2;refine qt (ι:=Nat) (fun i=>[(1,.pointer (some ⟨aK,0,none⟩)),(3,.int .i64 (((ua.s.data.toList.take i).foldl go ua.s.size:Nat):Int)),(4,.int .i64 ((i:Nat):Int))]) (fun i w'=>Ext (No) w2 w'∧(i≤ua.s.size)) (fun i=>ua.s.size-i) 0 ⟨rfl,rfl,rfl,trivial⟩ ⟨Ext.refl _ _,Nat.zero_le _⟩ ?_;rintro i w5 ⟨M4,hin⟩;have XM4:=aP (No) w2;replace E:=E.trans M4;replace HF:=HF.on E;replace LW:=LW.step E ak;replace E:=aB (No) w5;refine zq ?_;refine jt ?_;refine yl ?_;refine zg rfl (fun hic=>?_) (fun hic=>?_)
    ·
     have hic:=of_decide_eq_true hic;have hil:i<ua.s.size:=om;obtain ⟨x,hxl⟩:∃x,ua.s.data.toList[i]? =some x:=⟨_,List.getElem?_eq_getElem om⟩;have hx256:=x.toNat_lt;obtain ⟨m,hm⟩:∃m,m=(ua.s.data.toList.take i).foldl go ua.s.size:=⟨_,rfl⟩;have hml:m<2147483647:=by rw[hm];exact F9 _ _ om
     rw[←hm];refine zy 3 (.int .i64 ((m:Nat):Int)) rfl (rfl) (zq ?_);refine zkq ?_;refine yl ?_;refine za rfl (qm (j:=i) (b:=x.toNat) u9 rfl rfl rfl (by rw[←Array.getElem?_toList,hxl];rfl) ?_);refine yiq ?_;refine yc ?_;refine za rfl (ju rfl rfl de (Ov m x.toNat) (zq ?_));refine yc ?_;refine zo ?_;refine yi 3 (.int .i64 (((ua.s.data.toList.take (i+1)).foldl go ua.s.size:Nat):Int)) rfl ((by rw[pq hxl,←hm];rfl:(.int .i64 ((((31*m+x.toNat+1)%2147483647):Nat):Int):Value)=_)) (yi 4 (.int .i64 ((i+1:Nat):Int)) rfl (rfl) ?_);exact yk (i+1) (by show ua.s.size-(i+1)<ua.s.size-i;omega) ⟨rfl,rfl,rfl,trivial⟩ ⟨M4.step E XM4,(by omega:i+1≤ua.s.size)⟩
    ·
     have hic:=of_decide_eq_false hic;have hLi:ua.s.data.toList.take i=ua.s.data.toList:=List.take_of_length_le om;refine oe ?_;exact ⟨by rw[hX,hLi];rfl,aT LW E ak⟩
   ·
    refine yn 14 rfl (sw h4) ?_;have hk2:ua.k=1∨ua.k=2:=by have:=PV.kinds hg;omega
    obtain ⟨K,hK⟩:∃K,K=num ua.cn ua.cx:=⟨_,rfl⟩;have hKb:K.natAbs<au^30:=by rw[hK];exact (PV.canon hg hk2).2.2
    have htl:(aC K).length≤1048576:=by have:=(yY K).2 hKb;omega
    have hX:gh ua=Oj K:=by rw[gh,if_pos hg,if_neg h0,if_neg h3,if_neg h4,zY,if_pos (PV.alj hg hk2),hK]
    refine zn ?_;refine zlx ap9 (OU _ ua A1 B1 c1 d1 (HF.on E).here.1.2 hg K hK hk2) HF LW E ak (fun o=>Per.y5 o ah.none_) fun A3 c3 w6 HF LW E=>(zlx ac0 (FH A3 c3 K _ (HF.on E).here.2 htl) HF LW E ak (fun o=>Per.y8 o ah.none_) fun A4 c4 w7 HF LW E=>(zb ap8 (Jh K A4 c4 _ hKb ((HF.on E).here.2).nums) E fun w8 E=>(ya ?_)));exact ku
end
theorem Ph {P:Prop} (h:P:=by
 intro vs X wq K;exact vt rfl (qC rfl rfl ⟨Below.refl _ _,Left.of (by simp)⟩)):P:=h
theorem Pj {P:Prop} (h:P:=by
 intro vs X wq K;exact vt rfl (El underlying4 rfl rfl ⟨Below.refl _ _,Left.of rfl⟩)):P:=h
section
variable (w:World) (ua:PV) (A1 B1:Option Addr) (c1 d1:Nat) (hx:ay w A1 ua.xs) (hl:ua.xs.length≤9223372036854775807) (ha:ua.bits<18446744073709551616)
section
variable (hT:∀b,Below w.heap.size w b→bY b) (hD:∀b,Below w.heap.size w b→dH b)
include hx hl ha hT hD
theorem JH (hg:ua.good=false):Calls prog 3 #[bI ua A1 c1 B1 d1] w (aD w (.bool true)):=by
 have e1:vg ua=false:=by rw[vg,if_neg (by rw[hg];decide)]
 have e2:gh ua=0:=by rw[gh,if_neg (by rw[hg];decide)]
 have e3:je ua= []:=by rw[je,if_neg (by rw[hg];decide)]
 have e4:kw ua= []:=by rw[kw,if_neg (by rw[hg];intro h;cases h.1),e3]
 refine zh func3 ntmps3 fun HF LW ak E=>?_;replace HF:=HF.and (Per.aF hx);replace HF:=HF.and ((fun v hv=>later hT hv.toBelow:Per No w (fun v=>∀b,Below v.heap.size v b→bY b)));replace HF:=HF.and ((fun v hv=>later hD hv.toBelow:Per No w (fun v=>∀b,Below v.heap.size v b→dH b)));refine zo ?_;refine zl HF LW E ak fun aK w2 HF LW E=>?_;refine ya ?_;have OY:∀q9,(ah (oj [])) q9→q9<(World.drew w2).heap.size→(No) q9:=fun k h _=>(ah.none_) k h;refine qr (No) ah.none_ [] [] (gH [Fx.of (.bool true),
  Fx.of (.bool false),
  Fx.of (.bool false),
  Fx.of (bI ua A1 c1 B1 d1),
  Fx.of (.bool false),
  Fx.of (bI ua A1 c1 B1 d1),
  Fx.of (.bool false),
  Fx.of (.bool false),
  Fx.of (.bool false)]) mixed rfl trivial (fun _ h=>by cases h) ?_ ?_
 · refine ⟨?_,arm,arm,arm,?_,arm,?_,?_,arm,trivial⟩
   · intro vs X wq K;refine zc en5 rfl ((Aw _).mono ?_);exact fV
   · refine yt ?_;intro vs X wq K;have LE:=K.1;refine vt rfl (zc fC rfl ((qc _ ua A1 B1 c1 d1 (HF.on (E.drew.trans (LE.mono OY))).here.1.1.1.2 hl false hg).mono ?_));exact fV
   · refine yt ?_;intro vs X wq K;have LE:=K.1;refine vt rfl (zc en7 rfl ((qax _ ua A1 B1 c1 d1 (HF.on (E.drew.trans (LE.mono OY))).here.1.1.1.2 hl false hg).mono ?_));exact fV
   · refine yt ?_;exact Pj
 intro vs w3 LE AO AL AF AA;replace E:=E.drew.trans (LE.mono OY);obtain ⟨_,e8,k8⟩:=AL.2.2.2.2.2.2.2.2.1;refine jz (τ:=[(1,_),(2,_),(11,.bool false)]) ⟨rfl,rfl,congrArg some e8,trivial⟩ ?_;clear AL AF AA LE AO OY e8 k8;refine yu ?_;refine zb en7 (qax _ ua A1 B1 c1 d1 (HF.on E).here.1.1.1.2 hl false hg) E fun w4 E=>(zn ?_);refine zb en8 (Ay _ ua A1 B1 c1 d1 (HF.on E).here.1.1.1.2 hl) E fun w5 E=>(gy 16 rfl (by rw[e1]<;>rfl) (yl ?_));refine zb en9 (sV _ ua A1 B1 c1 d1 (HF.on E).here.1.1.1.2 hl ha) E fun w6 E=>(ze 20 (.int .i64 0) rfl (by rw[e2]<;>rfl) (yf ?_));refine zb Qo (qak _ ua A1 B1 c1 d1 (HF.on E).here.1.1.1.2 hl ha (HF.on E).here.1.1.2 (HF.on E).here.1.2) E fun w7 E=>(ze 25 (.string ⟨#[]⟩) rfl (by rw[e3]<;>rfl) (aN ?_));refine xv 26 rfl (by simp only[zrz];rfl:(.bool ((⟨#[]⟩:ByteArray).toList==(⟨#[]⟩:ByteArray).toList):Value)=_) (yl ?_);refine zb XE (pI _ ua A1 B1 c1 d1 (HF.on E).here.1.1.1.2 hl ha (HF.on E).here.1.1.2 (HF.on E).here.1.2) E fun w8 E=>(ze 30 (.string ⟨#[]⟩) rfl (by rw[e4]<;>rfl) (aN ?_));refine xv 31 rfl (by simp only[zrz];rfl:(.bool ((⟨#[]⟩:ByteArray).toList==(⟨#[]⟩:ByteArray).toList):Value)=_) (zn ?_);exact gi
theorem Pk (hg:ua.good=true):Calls prog 3 #[bI ua A1 c1 B1 d1] w (aD w (.bool true)):=by
 refine zh func3 ntmps3 fun HF LW ak E=>?_;replace HF:=HF.and (Per.aF hx);replace HF:=HF.and ((fun v hv=>later hT hv.toBelow:Per No w (fun v=>∀b,Below v.heap.size v b→bY b)));replace HF:=HF.and ((fun v hv=>later hD hv.toBelow:Per No w (fun v=>∀b,Below v.heap.size v b→dH b)));refine zo ?_;refine zl HF LW E ak fun aK w2 HF LW E=>?_;refine ya ?_;have OY:∀q9,(ah (oj [])) q9→q9<(World.drew w2).heap.size→(No) q9:=fun k h _=>(ah.none_) k h;refine qr (No) ah.none_ [] [] (gH [Fx.of (.bool true),
  Fx.of (.bool false),
  Fx.of (.bool false),
  Fx.of (bI ua A1 c1 B1 d1),
  Fx.of (.bool true),
  Fx.of (bI ua A1 c1 B1 d1),
  Fx.of (.bool true),
  Fx.of (.bool false),
  Fx.of (.bool false)]) mixed rfl trivial (fun _ h=>by cases h) ?_ ?_
 · refine ⟨?_,arm,arm,arm,?_,arm,?_,?_,arm,trivial⟩
   · intro vs X wq K;refine zc en5 rfl ((Aw _).mono ?_);exact fV
   · refine yt ?_;intro vs X wq K;have LE:=K.1;refine vt rfl (zc fC rfl ((qc _ ua A1 B1 c1 d1 (HF.on (E.drew.trans (LE.mono OY))).here.1.1.1.2 hl true hg).mono ?_));exact fV
   · refine yt ?_;intro vs X wq K;have LE:=K.1;refine vt rfl (zc en7 rfl ((qax _ ua A1 B1 c1 d1 (HF.on (E.drew.trans (LE.mono OY))).here.1.1.1.2 hl true hg).mono ?_));exact fV
   · refine yt ?_;exact Pj
 intro vs w3 LE AO AL AF AA;replace E:=E.drew.trans (LE.mono OY);obtain ⟨_,e8,k8⟩:=AL.2.2.2.2.2.2.2.2.1;refine jz (τ:=[(1,_),(2,_),(11,.bool false)]) ⟨rfl,rfl,congrArg some e8,trivial⟩ ?_;clear AL AF AA LE AO OY e8 k8;refine yu ?_;refine zb en7 (qax _ ua A1 B1 c1 d1 (HF.on E).here.1.1.1.2 hl true hg) E fun w4 E=>(zn ?_);have OY:∀q9,(ah (oj [])) q9→q9<(World.drew w4).heap.size→(No) q9:=fun k h _=>(ah.none_) k h;refine qr (No) ah.none_ [] [] (gH [Fx.of (bI ua A1 c1 B1 d1),
  Fx.of (.bool (vg ua)),
  Fx.of (bI ua A1 c1 B1 d1),
  Fx.of (.bool (vg ua)),
  Fx.of (.bool true),
  Fx.of (.bool true),
  Fx.of (bI ua A1 c1 B1 d1),
  Fx.of (.int .i64 (gh ua)),
  Fx.of (bI ua A1 c1 B1 d1),
  Fx.of (.int .i64 (gh ua)),
  Fx.of (.bool true),
  Fx.of (.bool true),
  Fx.of (.bool true),
  Fx.of (bI ua A1 c1 B1 d1),
  Fx.of (.string ⟨(je ua).toArray⟩),
  Fx.of (bI ua A1 c1 B1 d1),
  Fx.of (.string ⟨(je ua).toArray⟩),
  Fx.of (.bool true),
  Fx.of (.bool true),
  Fx.of (.bool true),
  Fx.of (bI ua A1 c1 B1 d1),
  Fx.of (.string ⟨(kw ua).toArray⟩),
  Fx.of (bI ua A1 c1 B1 d1),
  Fx.of (.string ⟨(kw ua).toArray⟩),
  Fx.of (.bool true),
  Fx.of (.bool true),
  Fx.of (.bool true)]) mixed rfl trivial (fun _ h=>by cases h) ?_ ?_
 · refine ⟨arm,?_,arm,?_,?_,arm,arm,?_,arm,?_,?_,arm,arm,arm,?_,arm,?_,?_,arm,arm,arm,?_,arm,?_,?_,arm,arm,trivial⟩
   · refine yt ?_;intro vs X wq K;have LE:=K.1;refine zc en8 rfl ((Ay _ ua A1 B1 c1 d1 (HF.on (E.drew.trans (LE.mono OY))).here.1.1.1.2 hl).mono ?_);exact fV
   · refine yt ?_;intro vs X wq K;have LE:=K.1;refine zc ao7 rfl ((O8 _ ua A1 B1 c1 d1 (HF.on (E.drew.trans (LE.mono OY))).here.1.1.1.2 hl ha (HF.on (E.drew.trans (LE.mono OY))).here.1.1.2 (HF.on (E.drew.trans (LE.mono OY))).here.1.2 hg).mono ?_);exact fV
   · refine yt ?_;intro vs X wq K;exact Qi underlying4 rfl rfl ⟨Below.refl _ _,Left.of (by simp)⟩
   · refine yt ?_;intro vs X wq K;have LE:=K.1;refine vt rfl (zc en9 rfl ((sV _ ua A1 B1 c1 d1 (HF.on (E.drew.trans (LE.mono OY))).here.1.1.1.2 hl ha).mono ?_));exact fV
   · refine yt ?_;intro vs X wq K;have LE:=K.1;refine vt rfl (zc ao8 rfl ((Tq _ ua A1 B1 c1 d1 (HF.on (E.drew.trans (LE.mono OY))).here.1.1.1.2 hl ha (HF.on (E.drew.trans (LE.mono OY))).here.1.1.2 (HF.on (E.drew.trans (LE.mono OY))).here.1.2 hg).mono ?_));exact fV
   · refine yt ?_;intro vs X wq K;exact vt rfl (Bn rfl rfl ⟨Below.refl _ _,Left.of (by simp)⟩)
   · refine yt ?_;intro vs X wq K;have LE:=K.1;refine vt rfl (zc Qo rfl ((qak _ ua A1 B1 c1 d1 (HF.on (E.drew.trans (LE.mono OY))).here.1.1.1.2 hl ha (HF.on (E.drew.trans (LE.mono OY))).here.1.1.2 (HF.on (E.drew.trans (LE.mono OY))).here.1.2).mono ?_));exact fV
   · refine yt ?_;intro vs X wq K;have LE:=K.1;refine vt rfl (zc abz rfl ((Gi _ ua A1 B1 c1 d1 (HF.on (E.drew.trans (LE.mono OY))).here.1.1.1.2 hl ha (HF.on (E.drew.trans (LE.mono OY))).here.1.1.2 (HF.on (E.drew.trans (LE.mono OY))).here.1.2 hg).mono ?_));exact fV
   · refine yt ?_;exact Ph
   · refine yt ?_;intro vs X wq K;have LE:=K.1;refine vt rfl (zc XE rfl ((pI _ ua A1 B1 c1 d1 (HF.on (E.drew.trans (LE.mono OY))).here.1.1.1.2 hl ha (HF.on (E.drew.trans (LE.mono OY))).here.1.1.2 (HF.on (E.drew.trans (LE.mono OY))).here.1.2).mono ?_));exact fV
   · refine yt ?_;intro vs X wq K;have LE:=K.1;refine vt rfl (zc ao9 rfl ((JG _ ua A1 B1 c1 d1 (HF.on (E.drew.trans (LE.mono OY))).here.1.1.1.2 hl ha (HF.on (E.drew.trans (LE.mono OY))).here.1.1.2 (HF.on (E.drew.trans (LE.mono OY))).here.1.2 hg).mono ?_));exact fV
   · refine yt ?_;exact Ph
 intro vs w5 LE AO AL AF AA;replace E:=E.drew.trans (LE.mono OY);obtain ⟨_,e26,k26⟩:=AL.2.2.2.2.2.2.2.2.2.2.2.2.2.2.2.2.2.2.2.2.2.2.2.2.2.2.1;refine jz (τ:=[(2,.bool true)]) ⟨congrArg some e26,trivial⟩ ?_;clear AL AF AA LE AO OY e26 k26;refine yl ?_;exact gi
end
variable {bp op cp bf of cf bl ol cl:Nat} (hD:∀b,Below w.heap.size w b→dH b) (TM:TL bp op cp bf of cf bl ol cl w) (hE:∃te pe,w.cell? ⟨7,0,none⟩=some (.iface te pe))
include hx hl ha hD TM hE
theorem JI:Calls prog 3 #[bI ua A1 c1 B1 d1] w (aD w (.bool true)):=by
 have _:=hE;have hT:∀b,Below w.heap.size w b→bY b:=fun b hb=>Per.Yk TM.pow (X:=No) (fun h=>h.elim) b (Ext.of_below hb No);cases hg:ua.good
 · exact JH w ua A1 B1 c1 d1 hx hl ha hT hD hg
 · exact Pk w ua A1 B1 c1 d1 hx hl ha hT hD hg
end
end
end Go.Proofs.YtdofcnodhgaedaaGreatDoor

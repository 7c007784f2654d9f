/- Texts of this claim. -/
import Derived.Test.YtmnmebdmpigddaaGreatDoorB15
import Derived.BigRegion
set_option maxRecDepth 100000
namespace Go.Proofs.YtmnmebdmpigddaaGreatDoor
open Go.RowKit Proofs.Tryz
theorem D7 {P Q:Prop} (k:Q) (h:(Unit→Q)→P:=by
 intro zK;refine bodyPost_ret (v:=.agg #[.bool false,.slice A' (ah q).length c']) (by simp[results,Tryz.results75,go_sem,r0,r1]) rfl ?_;exact zK ()):P:=h fun _=>k
theorem O7 (n:Nat):val 10 (List.replicate n 0)=0:=by
 induction n with
 | zero=>rfl
 | succ n ih=>rw[List.replicate_succ,val,ih]
theorem I5 {ys zs:List Nat} {k j C X:Nat} (hz:k+j<zs.length) (h:val 10 zs=C+10^k*(X*val 10 (ys.take j))) :
 val 10 (zs.set (k+j) (zs.getD (k+j) 0+X*ys.getD j 0))=C+10^k*(X*val 10 (ys.take (j+1))):=by
 have h1:=zvq (b:=10) zs (k+j) (zs.getD (k+j) 0+X*ys.getD j 0) hz;have h5:10^k*(X*val 10 (ys.take (j+1)))=10^k*(X*val 10 (ys.take j))+10^(k+j)*(X*ys.getD j 0):=by
  rw[yg,Nat.mul_add,Nat.mul_add,Nat.pow_add,Nat.mul_left_comm X,Nat.mul_assoc (10^k)]
 rw[Nat.mul_add] at h1;omega
theorem D8 {xs ys zs:List Nat} {k:Nat} (h:val 10 zs=val 10 (xs.take k)*val 10 ys+10^k*(xs.getD k 0*val 10 (ys.take ys.length))) :
 val 10 zs=val 10 (xs.take (k+1))*val 10 ys:=by
 rw[h,List.take_length,yg,Nat.add_mul,Nat.mul_assoc]
theorem I6 {zs ds:List Nat} {k u t:Nat} (hd:ds.length=k) (h:val 10 ds+10^k*u=val 10 (zs.take k)) (ht:t=u+zs.getD k 0) :
 val 10 (ds++ [t%10])+10^(k+1)*(t/10)=val 10 (zs.take (k+1)):=by
 rw[zrz,yg,hd,Nat.pow_succ,Nat.mul_assoc];have h3:10^k*(t%10)+10^k*(10*(t/10))=10^k*t:=by rw[←Nat.mul_add,Nat.mod_add_div]
 rw[ht,Nat.mul_add] at h3;rw[ht];omega
theorem O8 {xs ys zs ds:List Nat} {N u:Nat} (hs:small 10 xs) (ht:small 10 ys) (hN:N=xs.length+ys.length+1) (hzl:zs.length=N) (hz:val 10 zs=val 10 xs*val 10 ys)
 (h:val 10 ds+10^N*u=val 10 (zs.take N)):val 10 ds=val 10 xs*val 10 ys:=by
 have h1:=kp hs;have h2:=kp ht;have h3:val 10 xs*val 10 ys<10^N:=by
  rw[hN,Nat.pow_succ,Nat.pow_add];have h4:val 10 xs*val 10 ys≤10^xs.length*10^ys.length:=Nat.mul_le_mul om om;have h5:0<10^xs.length*10^ys.length:=Nat.mul_pos (Nat.pow_pos de) (Nat.pow_pos de);omega
 rw[List.take_of_length_le om,hz] at h;rcases Nat.eq_zero_or_pos u with h0 | h0
 · subst h0;omega
 · have:=Nat.mul_le_mul_left (10^N) h0;omega
theorem O9 {xs ys:List Nat} (hs:small 10 xs) (ht:small 10 ys) (k j:Nat):0≤nth xs k*nth ys j∧nth xs k*nth ys j≤81:=by
 have a0:=zu xs k;have b0:=zu ys j;have a1:=qr om hs k;have b1:=qr om ht j;refine ⟨Int.mul_nonneg a0 b0,?_⟩;have h:nth xs k*nth ys j≤9*9:=Int.mul_le_mul om om b0 om;omega
section
variable (A B:Option Addr) (c d:Nat) (i j:Int) (w:World)
set_option maxHeartbeats 2000000 in
theorem D9 (bi bj:Bool) (hbi:decide (i<0)=bi) (hbj:decide (j<0)=bj) (hx:aH w A (ah i)) (hy:aH w B (ah j)) (hl:(ah i).length≤600) (hl':(ah j).length≤600) :
 Calls prog 75 #[.agg #[.bool bi,.slice A (ah i).length c],.agg #[.bool bj,.slice B (ah j).length d]] w (Zh w (i*j)):=by
 have hq:(i*j).natAbs=i.natAbs*j.natAbs:=Int.natAbs_mul i j;have aS0:decide (i*j<0)=((bi !=bj)&&decide (0<(ah (i*j)).length)):=by
  by_cases h0:i*j=0
  · rw[h0,bD];simp
  · have h1:0<(ah (i*j)).length:=by rw[qa];exact RL de om
    rw[decide_eq_true h1,Bool.and_true,←hbi,←hbj];have hi0:i≠0:=fun e=>h0 (by rw[e,Int.zero_mul]);have hj0:j≠0:=fun e=>h0 (by rw[e,Int.mul_zero]);by_cases hi:i<0<;>by_cases hj:j<0
    · have:=Int.mul_pos_of_neg_of_neg hi hj;simp[hi,hj];omega
    · have:=Int.mul_neg_of_neg_of_pos hi (show 0<j from om);simp[hi,hj,this]
    · have:=Int.mul_neg_of_pos_of_neg (show 0<i from om) hj;simp[hi,hj,this]
    · have:=Int.mul_pos (show 0<i from om) (show 0<j from om);simp[hi,hj];omega
 have HQ:=Lib.hid hq;have HSG:=Lib.hid aS0;have HSX:=Lib.hid (jx i);have HSY:=Lib.hid (jx j);have HVX:=Lib.hid (zrx i);have HVY:=Lib.hid (zrx j);obtain ⟨q,hqq⟩:∃q,q=i*j:=⟨_,rfl⟩;rw[←hqq] at HQ HSG ⊢;obtain ⟨W0,hW0⟩:∃W0,W0=nY w bi bj A B c d i j:=⟨_,rfl⟩;have LW:Below w.heap.size w W0:=by rw[hW0];exact zaz ..
 have kC:Hid (W0.heap.size=w.heap.size+3):=by rw[hW0];exact yoz ..
 have HF:Hid (∀b1,Below W0.heap.size W0 b1→Three w bi bj A B c d i j b1):=fun b1 hb=>by rw[hW0] at hb;exact ydz hx hy hb
 clear hx hy hqq hq aS0 hbi hbj;unfold nY at hW0;have L:Below W0.heap.size W0 W0:=Below.refl _ _;obtain ⟨⟨x0,x1⟩,⟨y0,y1⟩,⟨r0,r1,r2,r3⟩,hx,hy⟩:=HF.out _ L;obtain ⟨N,hN⟩:∃N:Nat,N=(ah i).length+(ah j).length+1:=⟨_,rfl⟩;have hmk:=aRj N om;have hNi:(((ah i).length:Int)+((ah j).length:Int)+1)=(N:Int):=om;have HN:=Lib.hid hN;have hNb:N≤1201:=om;clear hN;go_enter func75,ntmps75
 go_upto_region 1 with fail
 rw[←hW0];clear hW0;go_upto_region 2 with fail
 obtain ⟨g,hg⟩:∃g,g=W0.heap.size:=⟨_,rfl⟩;obtain ⟨W1,hW1⟩:∃W1,W1=W0.alloc (.cells (madeCells #[.int .i64 0] N) 3):=⟨_,rfl⟩;have k1:Below W0.heap.size W0 W1:=by rw[hW1];exact (Below.refl _ _).alloc (Nat.le_refl _) _
 have hrow:bX W1 g N (List.replicate N 0):=by
  have h:=(bX.made W0 N).fill;rw[←hW1,←hg] at h;simpa using h
 have hWg:W1.heap.size=g+1:=by rw[hW1,hg];simp
 have hgW:W0.heap.size≤g:=by rw[hg];exact Nat.le_refl _
 rw[←hg,←hW1];clear x0 x1 y0 y1 hx hy r0 r1 r2 r3 hmk hNi hW1 hg L;obtain ⟨⟨x0,x1⟩,⟨y0,y1⟩,⟨r0,r1,r2,r3⟩,hx,hy⟩:=HF.out _ k1;go_wp2_with fail
 clear x0 x1 y0 y1 hx hy r0 r1 r2 r3;go_loopw [6] (fun iv wr=>∃(k:Nat) (zs:List Nat),k≤(ah i).length∧iv= .int .i64 k∧bX wr g N zs∧zs.length=N∧(∀p,nth zs p≤81*(k:Int))∧Hid (val 10 zs=val 10 ((ah i).take k)*val 10 (ah j))∧Below W0.heap.size W0 wr∧wr.heap.size=g+1) (fun iv _=>(ah i).length-(intOf iv).toNat)
 case atStart=>exact ⟨0,List.replicate N 0,om,rfl,hrow,by simp,fun p=>by rw[ygx];omega,by show _=_;rw[O7,List.take_zero];simp[val],k1,hWg⟩
 case round=>
  obtain ⟨k,zs,hk,rfl,hrw,hzl,hzb,HV,hbel,hsz⟩:=hrel;have HZB:=Lib.hid hzb;clear hzb;obtain ⟨⟨x0,x1⟩,⟨y0,y1⟩,⟨r0,r1,r2,r3⟩,hx,hy⟩:=HF.out _ hbel;by_cases hkn:k<(ah i).length
  · obtain ⟨wo,rfl⟩:∃wo:World,wo=wr:=⟨_,rfl⟩;have hm1:(k:Int)<((ah i).length:Int):=om;have HX0:Hid (val 10 zs=val 10 ((ah i).take k)*val 10 (ah j)+10^k*((ah i).getD k 0*val 10 ((ah j).take 0))):=by
     show _=_;rw[HV.out];simp[val]
    go_wp2_with fail
    clear x0 x1 y0 y1 hx hy r0 r1 r2 r3;go_loopw [7] (fun jv wi=>∃(m:Nat) (qs:List Nat),m≤(ah j).length∧jv= .int .i64 m∧bX wi g N qs∧qs.length=N∧(∀p,nth qs p≤81*(k:Int)+81∧(k+m≤p→nth qs p≤81*(k:Int)))∧
     Hid (val 10 qs=val 10 ((ah i).take k)*val 10 (ah j)+10^k*((ah i).getD k 0*val 10 ((ah j).take m)))∧Below W0.heap.size W0 wi∧wi.heap.size=g+1) (fun jv _=>(ah j).length-(intOf jv).toNat)
    case atStart=>exact ⟨0,zs,om,rfl,hrw,hzl,fun p=>⟨by have:=HZB.out p;omega,fun _=>HZB.out p⟩,HX0,hbel,hsz⟩
    case round=>
     obtain ⟨m,qs,hm,rfl,hrq,Gp,hqb,HQV,dN,hsz2⟩:=hrel;have Zw:=Lib.hid hqb;clear hqb;obtain ⟨⟨x0,x1⟩,⟨y0,y1⟩,⟨r0,r1,r2,r3⟩,hx,hy⟩:=HF.out _ dN;by_cases hmn:m<(ah j).length
     · have hN1:=HN.out;obtain ⟨b,o,rfl,hb,hc⟩:=hx.2 om;obtain ⟨b',o',rfl,hb',hc'⟩:=hy.2 om;have hcx:=hc k hkn;have hcy:=hc' m hmn;have hcz:=hrq.cell (j:=k+m) om;have hfz:=hrq.frozen (k+m);have hm2:(m:Int)<((ah j).length:Int):=om;have hk0:(0:Int)≤(k:Int):=om;have hm0:(0:Int)≤(m:Int):=om;have hnx:=zu (ah i) k;have hny:=zu (ah j) m;have hnz:=zu qs (k+m);have hlx:=qr om HSX.out k;have pq:=qr om HSY.out m;have hlz:=(Zw.out (k+m)).2 (Nat.le_refl _);obtain ⟨p0,p1⟩:=O9 HSX.out HSY.out k m;obtain ⟨P,hP⟩:∃P,P=nth (ah i) k*nth (ah j) m:=⟨_,rfl⟩;have hPe:nth (ah i) k*nth (ah j) m=P:=hP.symm;rw[←hP] at p0 p1;have HPE:=Lib.hid hP;have hw1:IntKind.i64.wrap (nth (ah i) k*nth (ah j) m)=P:=by rw[hPe];exact IntWalk.i64_in _ om
       have hw2:IntKind.i64.wrap (nth qs (k+m)+P)=nth qs (k+m)+P:=IntWalk.i64_in _ om;have hkj:(k:Int)+(m:Int)<(N:Int):=om;have aO9:(0:Int)≤(k:Int)+(m:Int):=om;have hw64:IntKind.i64.wrap ((k:Int)+(m:Int))=(k:Int)+(m:Int):=IntWalk.i64_in _ om;have yP:=Lib.hid Gp;have bd6:(k:Int)≤600:=om;clear hc hc' hP hN1 hPe;go_wp2_with fail
       go_region
       go_wp2_with fail
       have hSV:(nth qs (k+m)+P).toNat=qs.getD (k+m) 0+(ah i).getD k 0*(ah j).getD m 0:=by
        have e1:P=(((ah i).getD k 0*(ah j).getD m 0:Nat):Int):=by rw[HPE.out];unfold nth;rw[←Int.natCast_mul]
        have e2:nth qs (k+m)=((qs.getD (k+m) 0:Nat):Int):=by unfold nth;rfl
        rw[e1,e2];omega
       have hlq:k+m<qs.length:=by have:=yP.out;omega
       have hstep:=I5 (X:=(ah i).getD k 0) (ys:=ah j) hlq HQV.out;rw[←hSV] at hstep;go_roundw
       case rel=>exact ⟨m+1,qs.set (k+m) (nth qs (k+m)+P).toNat,om,by go_num,by first | exact (hrq.drew).setInt _ om hlq | exact (hrq.drewN _).setInt _ om hlq,by rw[List.length_set];exact yP.out,
        fun p=>by
         have:=Zw.out p;rw[yez _ _ _ hlq];by_cases hp:p=k+m
         · rw[if_pos hp];exact ⟨om,fun h=>om⟩
         · rw[if_neg hp];exact ⟨this.1,fun h=>this.2 om⟩,hstep,(dN.drew).setCell hgW _,by simpa using hsz2⟩
       case measure=>simp[intOf];omega
     · obtain rfl:m=(ah j).length:=om;have hcl:=D8 HQV.out;have HCL:=Lib.hid hcl;have hm2:¬((ah j).length:Int)<((ah j).length:Int):=om;clear hcl;go_wp2_with fail
       go_roundw
       case rel=>exact ⟨k+1,qs,om,by go_num,hrq,Gp,fun p=>by have:=(Zw.out p).1;omega,HCL,dN,hsz2⟩
       case measure=>simp[intOf];omega
  · obtain rfl:k=(ah i).length:=om;have hm1:¬((ah i).length:Int)<((ah i).length:Int):=om;have hv:val 10 zs=val 10 (ah i)*val 10 (ah j):=by rw[HV.out,List.take_length]
    have HVV:=Lib.hid hv;have hzq:∀p,nth zs p≤48600:=fun p=>by have:=HZB.out p;omega
    have HZQ:=Lib.hid hzq;obtain ⟨wo,rfl⟩:∃wo:World,wo=wr:=⟨_,rfl⟩;clear hv hzq;go_wp2_with fail
    clear x0 x1 y0 y1 hx hy r0 r1 r2 r3;go_loopw [8,9,10] (fun dv cv iv wi=>∃(k:Nat) (u:Int) (A':Option Addr) (c':Nat) (ds:List Nat),k≤N∧iv= .int .i64 k∧cv= .int .i64 u∧0≤u∧u≤100000∧dv= .slice A' ds.length c'∧aM wi (g+1) A' c' ds∧Hid (ds.length=k)∧small 10 ds∧
     Hid (val 10 ds+10^k*u.toNat=val 10 (zs.take k))∧Below (g+1) wo wi) (fun _ _ iv _=>N-(intOf iv).toNat)
    case atStart=>exact ⟨0,0,none,0,[],om,rfl,rfl,om,om,rfl,aM.nil _ _,rfl,ke,by show _=_;simp[val],Below.refl _ _⟩
    case round=>
     obtain ⟨k,u,A',c',ds,hkN,rfl,rfl,hu0,hu1,rfl,hown,HDL,hds,HD,tL⟩:=hrel;have hrw3:=hrw.below tL om;have hs3:=tL.size;by_cases hlt:k<N
     · have hcz:=hrw3.cell (j:=k) hlt;have hm3:(k:Int)<(N:Int):=om;have hm0:(0:Int)≤(k:Int):=om;have hnz:=zu zs k;have hlz:=HZQ.out k;obtain ⟨t,ht⟩:∃t,t=u+nth zs k:=⟨_,rfl⟩;have ht0:0≤t:=om;have ht1:t≤148600:=om;have hw1:IntKind.i64.wrap (u+nth zs k)=t:=by rw[ht];exact IntWalk.i64_in _ om
       have hw8:=JZ (t%10) om om;have e1:t%10=(((t%10).toNat:Nat):Int):=om;have HC:=Lib.hid (oa wr _ _ e1);have H8:Hid (∀x∈ [(t%10).toNat],x<256):=by intro x hx';simp only[List.mem_cons,List.not_mem_nil,or_false] at hx';omega
       have HNN:Hid (ds.length+ [(t%10).toNat].length≤17592186044416):=by have:=HDL.out;show ds.length+1≤_;omega
       have hst:val 10 (ds++ [(t%10).toNat])+10^(k+1)*(t/10).toNat=val 10 (zs.take (k+1)):=by
        have hTn:t.toNat=u.toNat+zs.getD k 0:=by
         have e2:nth zs k=((zs.getD k 0:Nat):Int):=by unfold nth;rfl
         rw[ht,e2];omega
        have h:=I6 HDL.out HD.out hTn;have e3:(t%10).toNat=t.toNat%10:=om;have e4:(t/10).toNat=t.toNat/10:=om;rw[e3,e4];exact h
       have HST:=Lib.hid hst;have hut:u+nth zs k=t:=ht.symm;clear ht e1 hst;go_wp2_with (at_builtin;go_loud (refine kw rfl (.tmp 71) (.tmp 75) rfl (g+1) A' c' ds rfl (hown.alloc _) [(t%10).toNat] ⟨wr.heap.size,0,none⟩ 1 1 rfl rfl (by exact HC.out) H8.out HNN.out (by simp;omega) (fun A3 c3 w3 hown3 hg3=>?_)))
       go_roundw
       case rel=>exact ⟨k+1,t/10,A3,c3,ds++ [(t%10).toNat],om,by go_num,by go_num,om,om,by simp,hown3,by have:=HDL.out;show _=_;simp[this],jy hds om,HST,Below.oW (tL.alloc om _) (hown.alloc _) (by simp;omega) hg3⟩
       case measure=>simp[intOf];omega
     · obtain rfl:k=N:=om;have hvd:val 10 ds=q.natAbs:=by
        have h:=O8 HSX.out HSY.out HN.out hzl HVV.out HD.out;rw[h,HVX.out,HVY.out,HQ.out]
       have hcut:=fun w h=>znv (g+1) A' c' ds q w h hds hvd (by have:=HDL.out;omega);have LB:Below W0.heap.size W0 wr:=hbel.trans (tL.mono om);obtain ⟨⟨x0,x1⟩,⟨y0,y1⟩,⟨r0,r1,r2,r3⟩,hx,hy⟩:=HF.out _ LB;have hm3:¬(k:Int)<(k:Int):=om;clear hvd;go_wp2_with (go_at_call 106;refine (hcut _ hown).mono ?_;rintro e w4 ⟨rfl,cK,rfl⟩;refine Hid.out ?_)
       refine Lib.hid ?_;clear hcut;have hsg:=HSG.out;by_cases h0:0<(ah q).length
       · rw[decide_eq_true h0,Bool.and_true] at hsg;have HSB:=Lib.hid hsg;obtain ⟨bq,hbq⟩:∃bq,bq=(bi !=bj):=⟨_,rfl⟩;have ba6:(bi !=bj)=bq:=hbq.symm;have ba7:(!(bi==bj))=bq:=by rw[hbq];cases bi<;>cases bj<;>rfl
         have HBQ:=Lib.hid hbq;clear hsg hbq;cases bq
         · go_wp2_with fail
           refine D7 ?_;have h2:=kC.out;have h3:=yfx (w:=w) (g0:=w.heap.size+1+1) cK (LW.trans (LB.mono LW.size)) om om (.bool false) (.slice A' (ah q).length c');rw[HSB.out,←HBQ.out] at h3;exact h3
         · go_wp2_with fail
           refine bodyPost_ret (v:=.agg #[.bool true,.slice A' (ah q).length c']) (by simp[results,Tryz.results75,go_sem,r0,r1]) rfl ?_;have h2:=kC.out;have h3:=yfx (w:=w) (g0:=w.heap.size+1+1) cK (LW.trans (LB.mono LW.size)) om om (.bool true) (.slice A' (ah q).length c');rw[HSB.out,←HBQ.out] at h3;exact h3
       · rw[decide_eq_false h0,Bool.and_false] at hsg;have HSB:=Lib.hid hsg;obtain ⟨bq,hbq⟩:∃bq,bq=(bi !=bj):=⟨_,rfl⟩;have ba6:(bi !=bj)=bq:=hbq.symm;have ba7:(!(bi==bj))=bq:=by rw[hbq];cases bi<;>cases bj<;>rfl
         clear hsg hbq;cases bq
         all_goals
          go_wp2_with fail
          refine D7 ?_;have h2:=kC.out;have h3:=yfx (w:=w) (g0:=w.heap.size+1+1) cK (LW.trans (LB.mono LW.size)) om om (.bool false) (.slice A' (ah q).length c');rw[HSB.out] at h3;exact h3
theorem mV (hx:aH w A (ah i)) (hy:aH w B (ah j)) (hl:(ah i).length≤600) (hl':(ah j).length≤600) :
 Calls prog 75 #[.agg #[.bool (decide (i<0)),.slice A (ah i).length c],.agg #[.bool (decide (j<0)),.slice B (ah j).length d]] w (Zh w (i*j)):=
 D9 A B c d i j w _ _ rfl rfl hx hy hl hl'
end
end Go.Proofs.YtmnmebdmpigddaaGreatDoor

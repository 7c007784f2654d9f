/- Texts of this claim. -/
import Derived.Test.YtmnmebdmpigddaaGreatDoorL16
import Derived.WalkKit
import Derived.Lib.Mul64
import Derived.Laws.Bits64b
import Derived.BigQuiet
import Derived.Deep.QuietTactic
import Derived.Lib.Hide
import Derived.Laws.Externs
import Derived.Deep.DeepCutAuto
import Derived.Deep.CutBlock
import Derived.Test.YtmnmebdmpigddaaGreatDoorRows
set_option maxRecDepth 100000
set_option maxHeartbeats 20000000
namespace Go.Proofs.YtmnmebdmpigddaaGreatDoor
open Go.RowKit Go.Lib
theorem ab9 {P:Prop} (h:P:=by
 have hqp:1≤q:=by omega
 have HDN:=Lib.hid hdn;have HQ2:Hid ((q-1)*3725290298+(r+3725290298)=T):=by have:=Wo.out;show _=_;omega
 clear hdn;by_cases hB:4294967296≤r+3725290298
 · have hend:=ypq bT0 bT1 b00 b01 HQ2.out (by omega) HDN.out (by omega);have EH:=Lib.hid hend;clear hend;go_wp2
   go_meet
   exact ⟨by rw[EH.out],rfl⟩
 · go_wp2
   go_round
   case rel=>exact ⟨q-1,r+3725290298,rfl,rfl,by omega,by omega,by omega,by omega,HQ2,HDN⟩
   case measure=>simp[RowKit.intOf];omega):P:=h
theorem abq {P:Prop} (h:P:=by
 have hqp:1≤q:=by omega
 have HDN:=Lib.hid hdn;have HQ2:Hid ((q-1)*3725290298+(r+3725290298)=U):=by have:=Wo.out;show _=_;omega
 clear hdn;by_cases hB:4294967296≤r+3725290298
 · have hend:=ypq bU0 bU1 b10 b11 HQ2.out (by omega) HDN.out (by omega);have EH:=Lib.hid hend;clear hend;go_wp2
   go_meet
   exact ⟨by rw[EH.out],rfl⟩
 · go_wp2
   go_round
   case rel=>exact ⟨q-1,r+3725290298,rfl,rfl,by omega,by omega,by omega,by omega,HQ2,HDN⟩
   case measure=>simp[RowKit.intOf];omega):P:=h
namespace zS
theorem maskN (a:Nat) (ha:a<18446744073709551616):bits .and .u64 (a:Int) 4294967295=((a%4294967296:Nat):Int):=by
 have h:=bits_and_u64_nat a 4294967295 ha (by omega);have e:a &&& 4294967295=a%4294967296:=Nat.and_two_pow_sub_one_eq_mod a 32;rw[e] at h;exact h
theorem divN (a:Nat):(a:Int)/4294967296=((a/4294967296:Nat):Int):=by omega
theorem mulN (a b:Nat):(a:Int)*(b:Int)=((a*b:Nat):Int):=(Int.natCast_mul a b).symm
theorem addN (a b:Nat):(a:Int)+(b:Int)=((a+b:Nat):Int):=(Int.natCast_add a b).symm
theorem wrapN (a:Nat) (ha:a<18446744073709551616):IntKind.u64.wrap (a:Int)=(a:Int):=by rw[IntKind.wrap_u64];omega
theorem wrapM (a:Nat):IntKind.u64.wrap (a:Int)=((a%18446744073709551616:Nat):Int):=by rw[IntKind.wrap_u64];omega
end zS
set_option maxHeartbeats 1000000 in
theorem qK (x y:Nat) (hx:x<18446744073709551616) (hy:y<18446744073709551616) (w:World) :
 Calls Tryz.prog 114 #[.int .u64 x,.int .u64 y] w fun e w'=>e= .returned (.tuple #[.int .u64 ((x*y/18446744073709551616:Nat):Int),.int .u64 ((x*y%18446744073709551616:Nat):Int)])∧w=w':=by
 obtain ⟨bd,bt,bw,hhi⟩:=Lib.mul64_hi x y hx hy;have ba:=Lib.half_mul_le (a:=x/4294967296) (b:=y/4294967296) (by omega) (by omega);have bb:=Lib.half_mul_le (a:=x/4294967296) (b:=y%4294967296) (by omega) (by omega);have bc:=Lib.half_mul_le (a:=x%4294967296) (b:=y/4294967296) (by omega) (by omega);have ba':x/4294967296*(y/4294967296)<18446744073709551616:=by omega
 have bb':x/4294967296*(y%4294967296)<18446744073709551616:=by omega
 have bc':x%4294967296*(y/4294967296)<18446744073709551616:=by omega
 have bh1:x/4294967296*(y/4294967296)+(x/4294967296*(y%4294967296)+x%4294967296*(y%4294967296)/4294967296)/4294967296<18446744073709551616:=by omega
 have bh:x/4294967296*(y/4294967296)+(x/4294967296*(y%4294967296)+x%4294967296*(y%4294967296)/4294967296)/4294967296+((x/4294967296*(y%4294967296)+x%4294967296*(y%4294967296)/4294967296)%4294967296+x%4294967296*(y/4294967296))/4294967296<18446744073709551616:=by omega
 go_enter Tryz.func114,Tryz.ntmps114
 go_wp2
 simp only[zS.maskN x hx,zS.maskN y hy,zS.divN,zS.mulN,zS.addN,zS.wrapN _ bd,zS.wrapN _ bb',zS.wrapN _ bt,zS.maskN _ bt,zS.wrapN _ bc',zS.wrapN _ bw,zS.wrapN _ ba',zS.wrapN _ bh1,zS.wrapN _ bh,zS.wrapM (x*y)]
 rw[hhi];go_ret2
 exact ⟨rfl,rfl⟩
theorem Kv (w:World):Calls Tryz.prog 174 #[.int .u64 1000000000000000000] w fun e w'=>e= .returned (.int .i64 4)∧w=w':=by
 go_enter Tryz.func174,Tryz.ntmps174
 go_wp2
 go_ret
 exact ⟨by kernel_rfl,rfl⟩
theorem        qL (x y : Int) (hx : 0 ≤ x) (hy : 0 ≤ y) (w : World) :
 (callFunc 116 #[.int .u64 x, .int .u64 y, .int .u64 0]).run Tryz.prog w =
  .ok (.value (.tuple #[.int .u64 ((x + y) % 18446744073709551616), .int .u64 ((x + y) / 18446744073709551616)])) w := by
 rw [run_callFunc_extern Tryz.func116 (by kernel_rfl) (by kernel_rfl) (by kernel_rfl) (e := add64Entry) (by kernel_rfl), run_add64 x y 0 hx hy (by omega) (by omega)];simp only [Result.andThen, Int.add_zero]
theorem ajz (hi lo:Int) (h0:0≤hi) (h1:hi<1000000000000000000) (l0:0≤lo) (l1:lo<18446744073709551616) :
 bits .or .u64 (hi*16) (lo/1152921504606846976)=hi*16+lo/1152921504606846976:=by
 obtain ⟨a,rfl⟩:=Int.eq_ofNat_of_zero_le h0;obtain ⟨b,hb⟩:=Int.eq_ofNat_of_zero_le (show 0≤lo/1152921504606846976 by omega);rw[hb];have h:=bits_or_u64_nat (a*16) b (by omega) (by omega);have e:a*16 ||| b=a*16+b:=by
  have:=Nat.shiftLeft_add_eq_or_of_lt (show b<2^4 by omega) a;rw[Nat.shiftLeft_eq] at this;exact this.symm
 rw[e] at h;rw[show ((a:Int)*16)=((a*16:Nat):Int) by omega,h];omega
theorem zT (V:Int) (h0:0≤V) (h1:V<18446744073709551616):bits .and .u64 V 4294967295=V%4294967296:=by
 obtain ⟨a,rfl⟩:=Int.eq_ofNat_of_zero_le h0;rw[zS.maskN a (by omega)];omega
theorem ypq {U V q r:Int} (h0:0≤U) (h1:U<16000000000000000000) (v0:0≤V) (v1:V<4294967296) (hq:q*3725290298+r=U) (hr:0≤r)
 (hQ:(U*4294967296+V)/16000000000000000000≤q) (ht:q*1983905792≤4294967296*r+V):q=(U*4294967296+V)/16000000000000000000:=by omega
theorem zzk {U V q r:Int} (h0:0≤U) (h1:U<16000000000000000000) (v0:0≤V) (v1:V<4294967296) (hq:q*3725290298+r=U)
 (ht:4294967296≤q∨4294967296*r+V<q*1983905792):(U*4294967296+V)/16000000000000000000≤q-1:=by omega
set_option maxHeartbeats 2000000 in
theorem EI (hi lo:Int) (h0:0≤hi) (h1:hi<1000000000000000000) (l0:0≤lo) (l1:lo<18446744073709551616) (w:World) :
 Calls Tryz.prog 146 #[.int .u64 hi,.int .u64 lo,.int .u64 1000000000000000000] w fun e w'=>e= .returned (.tuple #[.int .u64 ((hi*18446744073709551616+lo)/1000000000000000000),.int .u64 ((hi*18446744073709551616+lo)%1000000000000000000)])∧ ∃n,w'=w.drewN n:=by
 by_cases hz:hi=0
 · subst hz;have e1:(0:Int)*18446744073709551616+lo=lo:=by omega
   rw[e1];have hq0:0≤lo/1000000000000000000:=by omega
   have hr0:0≤lo%1000000000000000000:=by omega
   go_enter Tryz.func146,Tryz.ntmps146
   go_wp2
   go_quiet (fail)
   go_wp2
   go_ret2
   exact ⟨by simp,_,rfl⟩
 · have hz2:(hi==0)=false:=by simpa using hz
   have hle:¬1000000000000000000≤hi:=by omega
   clear hz;obtain ⟨U,hU⟩:∃U,U=hi*16+lo/1152921504606846976:=⟨_,rfl⟩;obtain ⟨V,hV⟩:∃V,V=lo*16%18446744073709551616:=⟨_,rfl⟩;obtain ⟨V1,hV1⟩:∃V1,V1=V/4294967296:=⟨_,rfl⟩;obtain ⟨V0,hV0⟩:∃V0,V0=V%4294967296:=⟨_,rfl⟩;obtain ⟨Q,hQ⟩:∃Q,Q=U/3725290298:=⟨_,rfl⟩;have eor:bits .or .u64 (hi*16) (lo/1152921504606846976)=U:=by rw[ajz hi lo h0 h1 l0 l1,hU]
   have ew:IntKind.u64.wrap (lo*16)=V:=by rw[IntKind.wrap_u64,hV]
   have bU0:0≤U:=by omega
   have bU1:U<16000000000000000000:=by omega
   have bV0:0≤V:=by omega
   have bV1:V<18446744073709551616:=by omega
   have b10:0≤V1:=by omega
   have b11:V1<4294967296:=by omega
   have b00:0≤V0:=by omega
   have b01:V0<4294967296:=by omega
   have bQ0:0≤Q:=by omega
   have bQ1:Q≤4294967297:=by omega
   have em:bits .and .u64 V 4294967295=V0:=by rw[zT V bV0 bV1,hV0]
   have ed:V/4294967296=V1:=hV1.symm;have ec:bits .and .u64 16000000000000000000 4294967295=1983905792:=by rw[zT _ (by omega) (by omega)];rfl
   have eq:U/3725290298=Q:=hQ.symm;have HU:=Lib.hid hU;have HV:=Lib.hid hV;have HV1:=Lib.hid hV1;have HV0:=Lib.hid hV0;have HQ:=Lib.hid hQ;have bR0:0≤U-Q*3725290298:=by omega
   have bR1:U-Q*3725290298<3725290298:=by omega
   clear hU hV hV1 hV0 hQ;go_enter Tryz.func146,Tryz.ntmps146
   go_upto_block 0 with (go_at_call 174;refine (Kv _).mono ?_;rintro e w' ⟨rfl,rfl⟩)
   clear eq eor ew em ed ec;go_cut [15] (fun v wx=>v= .int .u64 ((U*4294967296+V1)/16000000000000000000)∧w=wx)
   case first=>
    go_wp2_with fail
    go_loop [15,16] (fun qv rv=>∃q r:Int,qv= .int .u64 q∧rv= .int .u64 r∧0≤q∧q≤4294967297∧0≤r∧r<4294967296∧Hid (q*3725290298+r=U)∧Hid ((U*4294967296+V1)/16000000000000000000≤q)) (fun qv _=>(RowKit.intOf qv).toNat)
    case atStart=>exact ⟨Q,U-Q*3725290298,by rw[HQ.out],rfl,bQ0,bQ1,bR0,by omega,by show _=_;omega,by have:=HQ.out;show _≤_;omega⟩
    case round=>
     obtain ⟨q,r,rfl,rfl,hq0,hq1,hr0,hr1,Wo,Po⟩:=hrel;by_cases hA:4294967296≤q
     · have hdn:=zzk bU0 bU1 b10 b11 Wo.out (Or.inl hA);exact abq
     · by_cases hT:4294967296*r+V1<q*1983905792
       · have hdn:=zzk bU0 bU1 b10 b11 Wo.out (Or.inr hT);exact abq
       · have hend:=ypq bU0 bU1 b10 b11 Wo.out hr0 Po.out (by omega);have EH:=Lib.hid hend;clear hend;go_wp2
         go_meet
         exact ⟨by rw[EH.out],rfl⟩
   case rest=>
    obtain ⟨rfl,rfl⟩:=hcut;obtain ⟨P,hP⟩:∃P,P=(U*4294967296+V1)/16000000000000000000:=⟨_,rfl⟩;obtain ⟨T,hT⟩:∃T,T=(U*4294967296+V1)%16000000000000000000:=⟨_,rfl⟩;rw[←hP];have bP0:0≤P:=by omega
    have bP1:P<4294967296:=by omega
    have bT0:0≤T:=by omega
    have bT1:T<16000000000000000000:=by omega
    obtain ⟨Q2,hQ2⟩:∃Q2,Q2=T/3725290298:=⟨_,rfl⟩;have cQ0:0≤Q2:=by omega
    have cQ1:Q2≤4294967297:=by omega
    have cR0:0≤T-Q2*3725290298:=by omega
    have cR1:T-Q2*3725290298<3725290298:=by omega
    obtain ⟨X1,hX1⟩:∃X,X=IntKind.u64.wrap (U*4294967296):=⟨_,rfl⟩;obtain ⟨X2,hX2⟩:∃X,X=IntKind.u64.wrap (X1+V1):=⟨_,rfl⟩;obtain ⟨X3,Wp⟩:∃X,X=IntKind.u64.wrap (P*16000000000000000000):=⟨_,rfl⟩;have e4:IntKind.u64.wrap (X2-X3)=T:=by rw[hX2,Wp,hX1];simp only[IntKind.wrap_u64];omega
    have e1:=hX1.symm;have e2:=hX2.symm;have e3:=Wp.symm;have aB3:0≤X1∧X1<18446744073709551616:=by rw[hX1];simp only[IntKind.wrap_u64];omega
    have aB4:0≤X2∧X2<18446744073709551616:=by rw[hX2];simp only[IntKind.wrap_u64];omega
    have aB5:0≤X3∧X3<18446744073709551616:=by rw[Wp];simp only[IntKind.wrap_u64];omega
    have HP:=Lib.hid hP;have HT:=Lib.hid hT;have ajx:=Lib.hid hQ2;clear hP hT hQ2 hX1 hX2 Wp;go_upto_block 2 with fail
    clear e1 e2 e3 e4 aB3 aB4 aB5;go_cut [18] (fun v wx=>v= .int .u64 ((T*4294967296+V0)/16000000000000000000)∧w=wx)
    case first=>
     go_wp2_with fail
     go_loop [18,16] (fun qv rv=>∃q r:Int,qv= .int .u64 q∧rv= .int .u64 r∧0≤q∧q≤4294967297∧0≤r∧r<4294967296∧Hid (q*3725290298+r=T)∧Hid ((T*4294967296+V0)/16000000000000000000≤q)) (fun qv _=>(RowKit.intOf qv).toNat)
     case atStart=>exact ⟨Q2,T-Q2*3725290298,by rw[ajx.out],by rw[ajx.out],cQ0,cQ1,cR0,by omega,by show _=_;omega,by have:=ajx.out;show _≤_;omega⟩
     case round=>
      obtain ⟨q,r,rfl,rfl,hq0,hq1,hr0,hr1,Wo,Po⟩:=hrel;by_cases hA:4294967296≤q
      · have hdn:=zzk bT0 bT1 b00 b01 Wo.out (Or.inl hA);exact ab9
      · by_cases hT:4294967296*r+V0<q*1983905792
        · have hdn:=zzk bT0 bT1 b00 b01 Wo.out (Or.inr hT);exact ab9
        · have hend:=ypq bT0 bT1 b00 b01 Wo.out hr0 Po.out (by omega);have EH:=Lib.hid hend;clear hend;go_wp2
          go_meet
          exact ⟨by rw[EH.out],rfl⟩
    case rest=>
     obtain ⟨rfl,rfl⟩:=hcut;obtain ⟨P2,hP2⟩:∃P,P=(T*4294967296+V0)/16000000000000000000:=⟨_,rfl⟩;obtain ⟨T2,hT2⟩:∃T2,T2=(T*4294967296+V0)%16000000000000000000:=⟨_,rfl⟩;rw[←hP2];have cP0:0≤P2:=by omega
     have cP1:P2<4294967296:=by omega
     have cT0:0≤T2:=by omega
     have cT1:T2<16000000000000000000:=by omega
     obtain ⟨X1,hX1⟩:∃X,X=IntKind.u64.wrap (T*4294967296):=⟨_,rfl⟩;obtain ⟨X2,hX2⟩:∃X,X=IntKind.u64.wrap (X1+V0):=⟨_,rfl⟩;obtain ⟨X3,Wp⟩:∃X,X=IntKind.u64.wrap (P2*16000000000000000000):=⟨_,rfl⟩;have e4:IntKind.u64.wrap (X2-X3)=T2:=by rw[hX2,Wp,hX1];simp only[IntKind.wrap_u64];omega
     have e1:=hX1.symm;have e2:=hX2.symm;have e3:=Wp.symm;have aB3:0≤X1∧X1<18446744073709551616:=by rw[hX1];simp only[IntKind.wrap_u64];omega
     have aB4:0≤X2∧X2<18446744073709551616:=by rw[hX2];simp only[IntKind.wrap_u64];omega
     have aB5:0≤X3∧X3<18446744073709551616:=by rw[Wp];simp only[IntKind.wrap_u64];omega
     have hfin:P*4294967296+P2=(hi*18446744073709551616+lo)/1000000000000000000∧T2/16=(hi*18446744073709551616+lo)%1000000000000000000:=by
      have a1:=HU.out;have a2:=HV.out;have a3:=HV1.out;have a4:=HV0.out;have a5:=HP.out;have a6:=HT.out;omega
     obtain ⟨f1,f2⟩:=hfin;have F1:=Lib.hid f1;have F2:=Lib.hid f2;have bF:P*4294967296+P2<18446744073709551616:=by omega
     clear hP2 hT2 hX1 hX2 Wp f1 f2;go_wp2
     go_ret2
     exact ⟨by rw[F1.out,F2.out];rfl,0,rfl⟩
end Go.Proofs.YtmnmebdmpigddaaGreatDoor
namespace Go.Proofs.YtmnmebdmpigddaaGreatDoor
open Go.RowKit Proofs.Tryz
theorem abz {P:Prop} (h:P:=by
 refine bodyPost_ret (v:=.tuple #[.agg #[.bool false,.slice none 0 0],.int .i64 3]) (by simp[results,Tryz.results94,go_sem,r0,r1]) rfl ?_;exact qfv (LW.trans (L.mono LW.size)) om _ _):P:=h
theorem P7 (neg:Bool) (A:Option Addr) (c:Nat) (xs:List Nat) (w:World) (hx:aA w A xs) (hs:small au xs) (hl:xs.length≤1048576) :
 Calls prog 147 #[.bool neg,.slice A xs.length c] w (zx w (bX true (dA neg (val au xs))) (bZ true (dA neg (val au xs)))):=by
 rcases Nat.lt_or_ge (val au xs) (au^30) with h | h
 · rw[PZ (by rw[vw];exact h),U5 (by rw[vw];exact h)];exact qfk neg A c xs w hx hs hl h
 · rw[kE (by rw[vw];exact h),qez (by rw[vw];exact h)];exact Ho neg A c xs w hx hs hl h
theorem P8 {ys zs:List Nat} {k j u t C X:Nat} (hz:k+j<zs.length) (h:val au zs+au^(k+j)*u=C+au^k*(X*val au (ys.take j))) (ht:t=X*ys.getD j 0+zs.getD (k+j) 0+u) :
 val au (zs.set (k+j) (t%au))+au^(k+(j+1))*(t/au)=C+au^k*(X*val au (ys.take (j+1))):=by
 have h1:=zxx (b:=au) zs (k+j) (t%au) hz;have h2:au^(k+(j+1))*(t/au)=au^(k+j)*(au*(t/au)):=by rw[←Nat.add_assoc,Nat.pow_succ,Nat.mul_assoc]
 have h3:au^(k+j)*(t%au)+au^(k+j)*(au*(t/au))=au^(k+j)*t:=by rw[←Nat.mul_add,Nat.mod_add_div]
 have h4:au^(k+j)*t=au^(k+j)*(X*ys.getD j 0)+au^(k+j)*zs.getD (k+j) 0+au^(k+j)*u:=by rw[ht,Nat.mul_add,Nat.mul_add]
 have h5:au^k*(X*val au (ys.take (j+1)))=au^k*(X*val au (ys.take j))+au^(k+j)*(X*ys.getD j 0):=by
  rw[yh,Nat.mul_add,Nat.mul_add,Nat.pow_add,Nat.mul_left_comm X,Nat.mul_assoc (au^k)]
 omega
theorem Kw {xs ys zs:List Nat} {k u:Nat} (hz:k+ys.length<zs.length) (h0:zs.getD (k+ys.length) 0=0)
 (h:val au zs+au^(k+ys.length)*u=val au (xs.take k)*val au ys+au^k*(xs.getD k 0*val au (ys.take ys.length))) :
 val au (zs.set (k+ys.length) u)=val au (xs.take (k+1))*val au ys:=by
 have h1:=zxx (b:=au) zs (k+ys.length) u hz;rw[h0,Nat.mul_zero,Nat.add_zero] at h1;rw[h1,h,List.take_length,yh,Nat.add_mul,Nat.mul_assoc]
def EJ (w:World) (n1 n2:Bool) (A B:Option Addr) (c d:Nat) (xs ys:List Nat) (b:World):Prop:=
 Two w n1 n2 A B c d xs ys b∧(b.cell? ⟨w.heap.size+1+1,0,none⟩=some (.bool false)∧b.cell? ⟨w.heap.size+1+1,1,none⟩=some (.slice none 0 0)∧b.frozen? ⟨w.heap.size+1+1,0,none⟩=false∧b.frozen? ⟨w.heap.size+1+1,1,none⟩=false)
def P9 (w:World) (n1 n2:Bool) (A B:Option Addr) (c d:Nat) (xs ys:List Nat):World:=(two w n1 n2 A B c d xs ys).alloc (.cells #[.bool false,.slice none 0 0] 24)
theorem yxx (w:World) (n1 n2:Bool) (A B:Option Addr) (c d:Nat) (xs ys:List Nat):Below w.heap.size w (P9 w n1 n2 A B c d xs ys):=
 (ylz w n1 n2 A B c d xs ys).alloc (ylz w n1 n2 A B c d xs ys).size _
theorem qqk (w:World) (n1 n2:Bool) (A B:Option Addr) (c d:Nat) (xs ys:List Nat):(P9 w n1 n2 A B c d xs ys).heap.size=w.heap.size+3:=by simp[P9,two]
theorem ywv {w b:World} {n1 n2:Bool} {A B:Option Addr} {c d:Nat} {xs ys:List Nat} (hx:aA w A xs) (hy:aA w B ys) (hb:Below (P9 w n1 n2 A B c d xs ys).heap.size (P9 w n1 n2 A B c d xs ys) b):EJ w n1 n2 A B c d xs ys b:=by
 have k:Below (two w n1 n2 A B c d xs ys).heap.size (two w n1 n2 A B c d xs ys) (P9 w n1 n2 A B c d xs ys):=(Below.refl _ _).alloc (Nat.le_refl _) _;have Z:aB (P9 w n1 n2 A B c d xs ys) (w.heap.size+1+1) 24 #[.bool false,.slice none 0 0]:=aB.newAt (by simp[two]);exact ⟨Ku hx hy (zjx k hb),(Z.below hb Z.lt).two⟩
section
variable (n1 n2:Bool) (A B:Option Addr) (c d:Nat) (xs ys:List Nat) (w:World)
set_option maxHeartbeats 1000000 in
theorem Wq (hx:aA w A xs) (hy:aA w B ys) (hl:xs.length≤9223372036854775807) (hl':ys.length≤9223372036854775807) (hok:(zm n1 xs&&zm n2 ys)=false) :
 Calls prog 94 #[.agg #[.bool n1,.slice A xs.length c],.agg #[.bool n2,.slice B ys.length d]] w (zx w 0 3):=by
 obtain ⟨W0,hW0⟩:∃W0,W0=P9 w n1 n2 A B c d xs ys:=⟨_,rfl⟩;have LW:Below w.heap.size w W0:=by rw[hW0];exact yxx ..
 have HWs:Hid (W0.heap.size=w.heap.size+3):=by rw[hW0];exact qqk ..
 have HF:Hid (∀b1,Below W0.heap.size W0 b1→EJ w n1 n2 A B c d xs ys b1):=fun b1 hb=>by rw[hW0] at hb;exact ywv hx hy hb
 have hg1:=fun w hx=>zw n1 c w A xs hl hx;have hg2:=fun w hy=>zw n2 d w B ys hl' hy;clear hx hy;unfold P9 two at hW0;have L:Below W0.heap.size W0 W0:=Below.refl _ _;obtain ⟨⟨⟨x0,x1,y0,y1⟩,hx,hy⟩,r0,r1,r2,r3⟩:=HF.out _ L;go_enter func94,ntmps94
 cases h1:zm n1 xs
 · rw[h1] at hg1;clear hok h1;go_upto_region 1 with fail
   rw[←hW0];clear hW0;go_wp2_with (go_at_call 66;refine (hg1 _ hx).mono ?_;rintro e w1 ⟨rfl,hb⟩;have L:=zjx L hb;clear x0 x1 y0 y1 hx hy r0 r1 r2 r3 hb;obtain ⟨⟨⟨x0,x1,y0,y1⟩,hx,hy⟩,r0,r1,r2,r3⟩:=HF.out _ L)
   exact abz
 · rw[h1,Bool.true_and] at hok;rw[h1] at hg1;rw[hok] at hg2;clear hok h1;go_upto_region 1 with fail
   rw[←hW0];clear hW0;go_wp2_with (go_at_call 66;refine (hg1 _ hx).mono ?_;rintro e w1 ⟨rfl,hb⟩;have L:=zjx L hb;clear x0 x1 y0 y1 hx hy r0 r1 r2 r3 hb;obtain ⟨⟨⟨x0,x1,y0,y1⟩,hx,hy⟩,r0,r1,r2,r3⟩:=HF.out _ L;refine Hid.out ?_)
   refine Lib.hid ?_;go_wp2_with (go_at_call 66;refine (hg2 _ hy).mono ?_;rintro e w1 ⟨rfl,hb⟩;have L:=zjx L hb;clear x0 x1 y0 y1 hx hy r0 r1 r2 r3 hb;obtain ⟨⟨⟨x0,x1,y0,y1⟩,hx,hy⟩,r0,r1,r2,r3⟩:=HF.out _ L)
   exact abz
theorem Ky {p z u:Int} (p0:0≤p) (p1:p≤999999999999999999*999999999999999999) (z0:0≤z) (z1:z<1000000000000000000) (u0:0≤u) (u1:u<1000000000000000000) :
 0≤p/18446744073709551616∧p/18446744073709551616<1000000000000000000∧
 (p/18446744073709551616+(p%18446744073709551616+z)/18446744073709551616+((p%18446744073709551616+z)%18446744073709551616+u)/18446744073709551616)*18446744073709551616+((p%18446744073709551616+z)%18446744073709551616+u)%18446744073709551616=p+z+u∧
 (p+z+u)/1000000000000000000<1000000000000000000∧
 p/18446744073709551616+(p%18446744073709551616+z)/18446744073709551616+((p%18446744073709551616+z)%18446744073709551616+u)/18446744073709551616<1000000000000000000:=by
 refine ⟨om,om,om,om,om⟩
theorem Ws (b n:Nat):val b (List.replicate n 0)=0:=by
 induction n with
 | zero=>rfl
 | succ n ih=>rw[List.replicate_succ,val,ih];simp
theorem Kz (x y:Int) (h0:0≤x) (h1:x<18446744073709551616) (k0:0≤y) (k1:y<18446744073709551616) (w:World) :
 Calls prog 114 #[.int .u64 x,.int .u64 y] w fun e w'=>e= .returned (.tuple #[.int .u64 (x*y/18446744073709551616),.int .u64 (x*y%18446744073709551616)])∧w'=w:=by
 obtain ⟨a,rfl⟩:=Int.eq_ofNat_of_zero_le h0;obtain ⟨b,rfl⟩:=Int.eq_ofNat_of_zero_le k0;refine (qK a b om om w).mono fun e w' h=>?_;obtain ⟨rfl,rfl⟩:=h;rw[←Int.natCast_mul];exact ⟨by congr 1,rfl⟩
theorem EK {xs ys:List Nat} (hs:small au xs) (ht:small au ys) (k j:Nat):0≤nth xs k*nth ys j∧nth xs k*nth ys j≤999999999999999999*999999999999999999:=by
 have a0:=yj xs k;have b0:=yj ys j;have a1:=vn (by unfold au;omega) hs k;have b1:=vn (by unfold au;omega) ht j;rw[O9] at a1 b1;refine ⟨Int.mul_nonneg a0 b0,Int.mul_le_mul om om b0 om⟩
set_option maxHeartbeats 2000000 in
theorem Qa (hx:aA w A xs) (hy:aA w B ys) (hg:zm n1 xs=true) (hk:zm n2 ys=true) :
 Calls prog 94 #[.agg #[.bool n1,.slice A xs.length c],.agg #[.bool n2,.slice B ys.length d]] w (zx w (bX true (num n1 xs*num n2 ys)) (bZ true (num n1 xs*num n2 ys))):=by
 obtain ⟨hs,_,hl,_⟩:=yf hg;obtain ⟨ht,_,hl',_⟩:=yf hk;have hprod:∀v,v=val au xs*val au ys→dA (n1 !=n2) v=num n1 xs*num n2 ys:=fun v hv=>by
  rw[hv,gg,gg];unfold dA;cases n1<;>cases n2<;>simp[Int.natCast_mul,Int.neg_mul,Int.mul_neg]
 have HP:=Lib.hid hprod;have HS:=Lib.hid hs;have HT:=Lib.hid ht;obtain ⟨q,hq⟩:∃q,q=num n1 xs*num n2 ys:=⟨_,rfl⟩;rw[←hq] at HP ⊢;obtain ⟨W0,hW0⟩:∃W0,W0=P9 w n1 n2 A B c d xs ys:=⟨_,rfl⟩;have LW:Below w.heap.size w W0:=by rw[hW0];exact yxx ..
 have HWs:Hid (W0.heap.size=w.heap.size+3):=by rw[hW0];exact qqk ..
 have HF:Hid (∀b1,Below W0.heap.size W0 b1→EJ w n1 n2 A B c d xs ys b1):=fun b1 hb=>by rw[hW0] at hb;exact ywv hx hy hb
 have hg1:=fun w hx=>zw n1 c w A xs om hx;have hg2:=fun w hy=>zw n2 d w B ys om hy;rw[hg] at hg1;rw[hk] at hg2;clear hx hy hq hprod hs ht hg hk;unfold P9 two at hW0;have L:Below W0.heap.size W0 W0:=Below.refl _ _;obtain ⟨⟨⟨x0,x1,y0,y1⟩,hx,hy⟩,r0,r1,r2,r3⟩:=HF.out _ L;go_enter func94,ntmps94
 go_upto_region 1 with fail
 rw[←hW0];clear hW0;go_wp2_with (go_at_call 66;refine (hg1 _ hx).mono ?_;rintro e w1 ⟨rfl,hb⟩;have L:=zjx L hb;clear x0 x1 y0 y1 hx hy r0 r1 r2 r3 hb;obtain ⟨⟨⟨x0,x1,y0,y1⟩,hx,hy⟩,r0,r1,r2,r3⟩:=HF.out _ L;refine Hid.out ?_)
 refine Lib.hid ?_;go_wp2_with (go_at_call 66;refine (hg2 _ hy).mono ?_;rintro e w1 ⟨rfl,hb⟩;have L:=zjx L hb;clear x0 x1 y0 y1 hx hy r0 r1 r2 r3 hb;obtain ⟨⟨⟨x0,x1,y0,y1⟩,hx,hy⟩,r0,r1,r2,r3⟩:=HF.out _ L;refine Hid.out ?_)
 refine Lib.hid ?_;clear hg1 hg2;obtain ⟨N,hN⟩:∃N:Nat,N=xs.length+ys.length+1:=⟨_,rfl⟩;have hmk:=yiv N om;have hNi:((xs.length:Int)+(ys.length:Int)+1)=(N:Int):=om;have HN:=Lib.hid hN;have hNb:N≤61:=om;clear hN;go_upto_region 4 with fail
 obtain ⟨g,hg⟩:∃g,g=w1.heap.size:=⟨_,rfl⟩;obtain ⟨W1,hW1⟩:∃W1,W1=w1.alloc (.cells (madeCells #[.int .u64 0] N) 25):=⟨_,rfl⟩;have k1:Below w1.heap.size w1 W1:=by rw[hW1];exact (Below.refl _ _).alloc (Nat.le_refl _) _
 have hrow:Row W1 g N (List.replicate N 0):=by
  have h:=(Row.made w1 N).fill;rw[←hW1,←hg] at h;simpa using h
 have hWg:W1.heap.size=g+1:=by rw[hW1,hg];simp
 have hgW:W0.heap.size≤g:=by rw[hg];exact L.size
 have L:=zjx L k1;rw[←hg,←hW1];clear x0 x1 y0 y1 hx hy r0 r1 r2 r3 hmk hNi hg hW1 k1;obtain ⟨⟨⟨x0,x1,y0,y1⟩,hx,hy⟩,r0,r1,r2,r3⟩:=HF.out _ L;go_wp2_with fail
 clear x0 x1 y0 y1 hx hy r0 r1 r2 r3;go_loopw [34] (fun iv wr=>∃(k:Nat) (zs:List Nat),k≤xs.length∧iv= .int .i64 k∧Row wr g N zs∧zs.length=N∧small au zs∧Hid (val au zs=val au (xs.take k)*val au ys)∧Hid (∀p,k+ys.length≤p→nth zs p=0)∧Below W0.heap.size W0 wr) (fun iv _=>xs.length-(intOf iv).toNat)
 case atStart=>exact ⟨0,List.replicate N 0,om,rfl,hrow,by simp,by intro x hx;rw[List.eq_of_mem_replicate hx];unfold au;omega,by show _=_;rw[Ws,List.take_zero];simp[val],fun p _=>oJ _ _,L⟩
 case round=>
  obtain ⟨k,zs,hk,rfl,hrw,hzl,hzs,HV,HZ,hbel⟩:=hrel;obtain ⟨⟨⟨x0,x1,y0,y1⟩,hx,hy⟩,r0,r1,r2,r3⟩:=HF.out _ hbel;by_cases hkn:k<xs.length
  · obtain ⟨wo,rfl⟩:∃wo:World,wo=wr:=⟨_,rfl⟩;have hm1:(k:Int)<(xs.length:Int):=om;have HX0:Hid (val au zs+au^(k+0)*(0:Int).toNat=val au (xs.take k)*val au ys+au^k*(xs.getD k 0*val au (ys.take 0))):=by
     show _=_;rw[HV.out];simp[val]
    go_wp2_with fail
    clear x0 x1 y0 y1 hx hy r0 r1 r2 r3;go_loopw [8,40] (fun cv jv wi=>∃(j:Nat) (u:Int) (qs:List Nat),j≤ys.length∧jv= .int .i64 j∧cv= .int .u64 u∧0≤u∧u<1000000000000000000∧Row wi g N qs∧qs.length=N∧small au qs∧
     Hid (val au qs+au^(k+j)*u.toNat=val au (xs.take k)*val au ys+au^k*(xs.getD k 0*val au (ys.take j)))∧Hid (∀p,k+ys.length≤p→nth qs p=0)∧Below W0.heap.size W0 wi) (fun _ jv _=>ys.length-(intOf jv).toNat)
    case atStart=>exact ⟨0,0,zs,om,rfl,rfl,om,om,hrw,hzl,hzs,HX0,HZ,hbel⟩
    case round=>
     obtain ⟨j,u,qs,hj,rfl,rfl,hu0,hu1,hrq,V4,hqs,HQ,HZ2,Hy⟩:=hrel;obtain ⟨⟨⟨x0,x1,y0,y1⟩,hx,hy⟩,r0,r1,r2,r3⟩:=HF.out _ Hy;by_cases hjn:j<ys.length
     · have hN1:=HN.out;obtain ⟨b,o,rfl,hb,hc⟩:=hx.2 om;obtain ⟨b',o',rfl,hb',hc'⟩:=hy.2 om;have hcx:=hc k hkn;have hcy:=hc' j hjn;have hcz:=hrq.cell (j:=k+j) om;have hm2:(j:Int)<(ys.length:Int):=om;have hk0:(0:Int)≤(k:Int):=om;have hj0:(0:Int)≤(j:Int):=om;have hnx:=yj xs k;have hny:=yj ys j;have hnz:=yj qs (k+j);have hlx:=vn (by unfold au;omega) HS.out k;have qH:=vn (by unfold au;omega) HT.out j;have hlz:=vn (by unfold au;omega) hqs (k+j);rw[O9] at hlx qH hlz;obtain ⟨p0,p1⟩:=EK HS.out HT.out k j;obtain ⟨P,hP⟩:∃P,P=nth xs k*nth ys j:=⟨_,rfl⟩;rw[←hP] at p0 p1;obtain ⟨m1,m2,m3,m4,m5⟩:=Ky p0 p1 hnz hlz hu0 hu1;have hmul:=fun w=>Kz (nth xs k) (nth ys j) hnx om hny om w;rw[←hP] at hmul;obtain ⟨h0,hh0⟩:∃h0,h0=P/18446744073709551616:=⟨_,rfl⟩;obtain ⟨l0,hl0⟩:∃l0,l0=P%18446744073709551616:=⟨_,rfl⟩;rw[←hh0,←hl0] at hmul;obtain ⟨l1,hl1⟩:∃l1,l1=(l0+nth qs (k+j))%18446744073709551616:=⟨_,rfl⟩;obtain ⟨c1,hc1⟩:∃c1,c1=(l0+nth qs (k+j))/18446744073709551616:=⟨_,rfl⟩;obtain ⟨l2,hl2⟩:∃l2,l2=(l1+u)%18446744073709551616:=⟨_,rfl⟩;obtain ⟨c2,hc2⟩:∃c2,c2=(l1+u)/18446744073709551616:=⟨_,rfl⟩;have b1:0≤l0:=om;have b2:0≤l1:=om;have b3:0≤l2∧l2<18446744073709551616:=om;have b4:0≤c1:=om;have b5:0≤c2:=om;have ha1:∀w,(callFunc 116 #[.int .u64 l0,.int .u64 (nth qs (k+j)),.int .u64 0]).run prog w= .ok (.value (.tuple #[.int .u64 l1,.int .u64 c1])) w:=fun w=>by rw[qL l0 _ b1 hnz,hl1,hc1]
       have ha2:∀w,(callFunc 116 #[.int .u64 l1,.int .u64 u,.int .u64 0]).run prog w= .ok (.value (.tuple #[.int .u64 l2,.int .u64 c2])) w:=fun w=>by rw[qL l1 _ b2 hu0,hl2,hc2]
       rw[←hh0,←hl0,←hl1,←hc1,←hl2,←hc2] at m3;rw[←hh0,←hl0,←hl1,←hc1,←hc2] at m5;rw[←hh0] at m1 m2;have hdv:=fun w=>EI (h0+c1+c2) l2 om m5 b3.1 b3.2 w;rw[m3] at hdv;obtain ⟨T,hT⟩:∃T,T=P+nth qs (k+j)+u:=⟨_,rfl⟩;rw[←hT] at hdv m4;obtain ⟨Q,hQ⟩:∃Q,Q=T/1000000000000000000:=⟨_,rfl⟩;obtain ⟨R,hR⟩:∃R,R=T%1000000000000000000:=⟨_,rfl⟩;rw[←hQ,←hR] at hdv;rw[←hQ] at m4;have hQ0:0≤Q:=om;have hR0:0≤R:=om;have hR1:R<1000000000000000000:=om;have HST:Hid (val au (qs.set (k+j) R.toNat)+au^(k+(j+1))*Q.toNat=val au (xs.take k)*val au ys+au^k*(xs.getD k 0*val au (ys.take (j+1)))):=by
        have hTn:T.toNat=xs.getD k 0*ys.getD j 0+qs.getD (k+j) 0+u.toNat:=by
         have e1:P=((xs.getD k 0*ys.getD j 0:Nat):Int):=by rw[hP];unfold nth;rw[←Int.natCast_mul]
         have e2:nth qs (k+j)=((qs.getD (k+j) 0:Nat):Int):=by unfold nth;rfl
         rw[hT,e1,e2];omega
        have h:=P8 (zs:=qs) (k:=k) (j:=j) (ys:=ys) om HQ.out hTn;have e3:R.toNat=T.toNat%au:=by rw[hR];unfold au;omega
        have e4:Q.toNat=T.toNat/au:=by rw[hQ];unfold au;omega
        show _=_;rw[e3,e4];exact h
       have hfz:=hrq.frozen (k+j);have hkj:(k:Int)+(j:Int)<(N:Int):=om;have aKx:(0:Int)≤(k:Int)+(j:Int):=om;have hw64:IntKind.i64.wrap ((k:Int)+(j:Int))=(k:Int)+(j:Int):=IntWalk.i64_in _ om;clear hc hc' hP hh0 hl0 hl1 hc1 hl2 hc2 hT hQ hR m3 hN1 p0 p1;go_wp2_with fail
       go_quiet ((go_at_call 114;exact Calls.quiet_of_same (hmul _)))
       go_wp2_with (go_at_call 146;refine (hdv _).mono ?_;rintro e w' ⟨rfl,nd,rfl⟩)
       go_roundw
       case rel=>exact ⟨j+1,Q,qs.set (k+j) R.toNat,om,by go_num,rfl,hQ0,m4,by first | exact (hrq.drewN _).setInt R hR0 om | exact ((hrq.drewN _).drewN _).setInt R hR0 om,by rw[List.length_set];exact V4,jp hqs _ _ (by unfold au;omega),HST,
        fun p hp=>by rw[qek _ _ _ om,if_neg om];exact HZ2.out p hp,by first | exact (gq Hy _).setCell hgW _ | exact (gq (gq Hy _) _).setCell hgW _⟩
       case measure=>simp[intOf];omega
     · obtain rfl:j=ys.length:=om;have hN1:=HN.out;have hcz:=hrq.cell (j:=k+ys.length) om;have hz0:nth qs (k+ys.length)=0:=HZ2.out _ (Nat.le_refl _);rw[hz0] at hcz;have hfz:=hrq.frozen (k+ys.length);have hm2:¬(ys.length:Int)<(ys.length:Int):=om;have hkj:(k:Int)+(ys.length:Int)<(N:Int):=om;have aKx:(0:Int)≤(k:Int)+(ys.length:Int):=om;have hw64:IntKind.i64.wrap ((k:Int)+(ys.length:Int))=(k:Int)+(ys.length:Int):=IntWalk.i64_in _ om;have hlq:k+ys.length<qs.length:=om;have HCL:Hid (val au (qs.set (k+ys.length) u.toNat)=val au (xs.take (k+1))*val au ys):=Kw hlq (by unfold nth at hz0;omega) HQ.out;clear hz0 hN1;go_wp2_with fail
       go_roundw
       case rel=>exact ⟨k+1,qs.set (k+ys.length) u.toNat,om,by go_num,hrq.setInt u hu0 hlq,by rw[List.length_set];exact V4,jp hqs _ _ (by unfold au;omega),HCL,
        fun p hp=>by rw[qek _ _ _ hlq,if_neg om];exact HZ2.out p om,Hy.setCell hgW _⟩
       case measure=>simp[intOf];omega
  · obtain rfl:k=xs.length:=om;have hm1:¬(xs.length:Int)<(xs.length:Int):=om;have aKj:=hrw.nums hzl (zpq hzs);have hfit:=fun w h=>P7 (n1 !=n2) (some ⟨g,0,none⟩) N zs w h hzs om;have hval:dA (n1 !=n2) (val au zs)=q:=HP.out _ (by rw[HV.out,List.take_length]);rw[hval,hzl] at hfit;clear hval;go_wp2_with (go_at_call 147;refine (hfit _ aKj).mono ?_;rintro e w4 ⟨A4,c4,rfl,Hw,hb4⟩;have LB:=hbel.trans (hb4.mono hbel.size);clear x0 x1 y0 y1 hx hy r0 r1 r2 r3;obtain ⟨⟨⟨x0,x1,y0,y1⟩,hx,hy⟩,r0,r1,r2,r3⟩:=HF.out _ LB)
    refine bodyPost_ret (v:=.tuple #[.agg #[.bool (decide (bX true q<0)),.slice A4 (limbs (bX true q)).length c4],.int .i64 (bZ true q)]) (by simp[results,Tryz.results94,go_sem,r0,r1]) rfl ?_;exact ypk Hw (LW.trans (LB.mono LW.size)) om (by have:=HWs.out;have:=hbel.size;omega) _ _
theorem Hz (hx:aA w A xs) (hy:aA w B ys) (hl:xs.length≤9223372036854775807) (hl':ys.length≤9223372036854775807) :
 Calls prog 94 #[.agg #[.bool n1,.slice A xs.length c],.agg #[.bool n2,.slice B ys.length d]] w
  (zx w (bX (zm n1 xs&&zm n2 ys) (num n1 xs*num n2 ys)) (bZ (zm n1 xs&&zm n2 ys) (num n1 xs*num n2 ys))):=by
 cases h:(zm n1 xs&&zm n2 ys)
 · rw[kG,kH];exact Wq n1 n2 A B c d xs ys w hx hy hl hl' h
 · obtain ⟨hg,hk⟩:=Bool.and_eq_true_iff.1 h;exact Qa n1 n2 A B c d xs ys w hx hy hg hk
end
end Go.Proofs.YtmnmebdmpigddaaGreatDoor
namespace Go.Proofs.YtmnmebdmpigddaaGreatDoor
open Go.RowKit
section
variable {i j:Int} (A B:Option Addr) (c d:Nat) (w:World) (hi:i.natAbs<au^30) (hj:j.natAbs<au^30) (hx:aA w A (limbs i)) (hy:aA w B (limbs j))
include hi
include hx
include hj hy
theorem aB6:Calls Tryz.prog 94 #[.agg #[.bool (decide (i<0)),.slice A (limbs i).length c],.agg #[.bool (decide (j<0)),.slice B (limbs j).length d]] w (zx w (bX true (i*j)) (bZ true (i*j))):=by
 have h:=Hz (decide (i<0)) (decide (j<0)) A B c d (limbs i) (limbs j) w hx hy (by have:=zk hi;omega) (by have:=zk hj;omega);rwa [qy hi,qy hj,jz,jz] at h
theorem aB7:Calls Tryz.prog 40 #[.agg #[.bool (decide (i<0)),.slice A (limbs i).length c],.agg #[.bool (decide (j<0)),.slice B (limbs j).length d]] w fun e w'=>e= .returned (.int .i64 (iH i j))∧Below w.heap.size w w':=by
 have h:=uN A B c d (limbs i) (limbs j) w (decide (i<0)) (decide (j<0)) hx hy (by have:=zk hi;omega) (by have:=zk hj;omega);rw[qy hi,qy hj,jz,jz] at h;unfold gJ at h;exact h
end
theorem Ww {i:Int}:(bX true i).natAbs<au^30:=by
 unfold bX;rw[if_pos rfl];split
 · assumption
 · exact Nat.pow_pos (by unfold au;omega)
theorem KD {i:Int} (h:bZ true i=0):i.natAbs<au^30:=by
 unfold bZ at h;rw[if_pos rfl] at h;split at h
 · assumption
 · cases h
theorem dqI {n1 n2:Bool} {X Y:Nat} (hX:X<au^30) (hY:0<Y):(dq n1 n2 X Y).natAbs<au^30:=by
 have h3:X/Y≤X:=Nat.div_le_self _ _;have hp:1<au^30:=Nat.one_lt_pow de (by unfold au;omega);unfold dq;split
 · rw[Int.natAbs_natCast];omega
 · split
   · rw[Int.natAbs_neg,Int.natAbs_natCast];omega
   · rename_i h
     rw[Int.natAbs_neg,Int.natAbs_natCast];have hY2:2≤Y:=by
      rcases Nat.lt_or_ge Y 2 with h2 | h2
      · exact absurd (by rw[show Y=1 from om,Nat.mod_one]) h
      · exact h2
     have h4:X/Y≤X/2:=Nat.div_le_div_left hY2 om;omega
theorem ak2 {n1 n2:Bool} {X Y:Nat} (hY:0<Y):dq n1 n2 X Y*dA n2 Y+dr n1 n2 X Y=dA n1 X:=by
 have h1:=Nat.mod_add_div X Y;have h2:=Nat.mod_lt X hY;unfold dq dr;generalize hq:X/Y=q at *
 generalize hr:X%Y=r at *
 have h3:((r:Nat):Int)+(Y:Int)*(q:Int)=(X:Int):=by exact_mod_cast h1
 cases n1<;>cases n2<;>simp only[dA,reduceCtorEq,if_true,if_false,Bool.false_eq_true]
 · rw[Int.mul_comm];omega
 · split
   · rename_i h0;subst h0;simp only[Int.neg_mul_neg];rw[Int.mul_comm];omega
   · simp only[Int.neg_mul_neg,Int.natCast_add,Int.add_mul,Int.natCast_one,Int.one_mul]
     rw[Int.mul_comm (q:Int)];omega
 · split
   · rename_i h0;subst h0;rw[Int.neg_mul,Int.mul_comm];omega
   · simp only[Int.neg_mul,Int.natCast_add,Int.add_mul,Int.natCast_one,Int.one_mul]
     rw[Int.mul_comm (q:Int)];omega
 · rw[Int.mul_neg,Int.mul_comm];omega
structure PV where
 k:Int
 yes:Bool
 neg:Bool
 xs:List Nat
 bits:Nat
 s:ByteArray
 ni:Nat
structure PVp where
 a:Option Addr
 c:Nat
 b:Option Addr
 d:Nat
def PV.cells (v:PV) (p:PVp):List Value:=[.int .i64 v.k,.bool v.yes,.bool v.neg,.slice p.a v.xs.length p.c,.int .u64 (v.bits:Int),.string v.s,.slice p.b v.ni p.d]
def PV.val (v:PV) (p:PVp):Value:=.agg #[.int .i64 v.k,.bool v.yes,.bool v.neg,.slice p.a v.xs.length p.c,.int .u64 (v.bits:Int),.string v.s,.slice p.b v.ni p.d]
@[reducible] def aP (v:PV) (A:Option Addr) (c:Nat) (B:Option Addr) (d:Nat):Value:=.agg #[.int .i64 v.k,.bool v.yes,.bool v.neg,.slice A v.xs.length c,.int .u64 (v.bits:Int),.string v.s,.slice B v.ni d]
def PV.good (v:PV):Bool:=
 decide (v.ni=0)&&(if v.k=0 then !v.yes&&(!v.neg&&decide (v.xs.length=0))&&decide (v.bits=0)&&(v.s.toList==(⟨#[]⟩:ByteArray).toList)
  else if v.k=1 then (!v.neg&&decide (v.xs.length=0))&&decide (v.bits=0)&&(v.s.toList==(⟨#[]⟩:ByteArray).toList)
  else if v.k=2 then zm v.neg v.xs&& !v.yes&&decide (v.bits=0)&&(v.s.toList==(⟨#[]⟩:ByteArray).toList)
  else if v.k=3 then (!v.neg&&decide (v.xs.length=0))&& !v.yes&&(v.s.toList==(⟨#[]⟩:ByteArray).toList)
  else if v.k=4 then (!v.neg&&decide (v.xs.length=0))&& !v.yes&&decide (v.bits=0)&&decide (v.s.size≤20000)
  else false)
end Go.Proofs.YtmnmebdmpigddaaGreatDoor
namespace Go.Proofs.YtmnmebdmpigddaaGreatDoor
open Go.RowKit Proofs.Tryz
theorem kV {P Q:Prop} (k:Q) (h:(Unit→Q)→P:=by
 intro zK;refine zp (vu kz rfl rfl aC rfl rfl (Nat.le_of_ble_eq_true rfl) ?_);exact zK ()):P:=h fun _=>k
theorem kW {P Q:Prop} (k:Q) (h:(Unit→Q)→P:=by
 intro zK;refine zp (vu kz rfl rfl bG rfl rfl (Nat.le_of_ble_eq_true rfl) ?_);exact zK ()):P:=h fun _=>k
theorem Ae {P Q:Prop} (k:Q) (h:(Unit→Q)→P:=by
 intro zK;refine go ?_;refine ze 19 (.bool false) rfl (by rw[hd]<;>rfl) (zv ?_);refine za rfl (zb JO rfl ((qmk 1 _ de de).mono ?_));exact zK ()):P:=h fun _=>k
theorem yn {P Q:Prop} (k:Q) (h:(Unit→Q)→P:=by
 intro zK;refine za rfl (zkv JN ?_);exact zK ()):P:=h fun _=>k
theorem zf {P Q:Prop} (k:Q) (h:(Unit→Q)→P:=by
 intro zK;refine zu ?_;refine za rfl (zn rfl ?_);exact zK ()):P:=h fun _=>k
attribute [local irreducible] OW RS CW EW
theorem Af {W w':World} {f:Int} (hb:Below W.heap.size W w'):zx W 0 f (.returned (.tuple #[.agg #[.bool false,.slice none 0 0],.int .i64 f])) w':=
 ⟨none,0,by rw[qj];rfl,by rw[qj];exact Own.nil _ _,hb⟩
theorem qY {w:World} {base c g:Nat} {A:Option Addr} {xs:List Nat} {t:TypeId} {cs:Array Value} (h:Own w base A c xs) (hb:aB w g t cs) (ht:25≠t):Apart (Value.slice A xs.length c).ownBlock (some g):=
 fun k e f=>yuv h.1 hb ht (e.trans f.symm)
theorem Per.aL3 {l:List (Option Nat)} {w:World} {base c:Nat} {A:Option Addr} {xs:List Nat} (h:Own w base A c xs) (hn:ah (Value.slice A xs.length c).ownBlock l):Per (ak l) w (fun b=>Own b base A c xs):=
 fun _ hb=>⟨JB h.1 hb hn,h.2⟩
theorem Per.bP {X:Nat→Prop} {w:World} {base c:Nat} {A:Option Addr} {xs:List Nat} (h:Own w base A c xs) (hx:∀k,X k→k<base):Per X w (fun b=>Own b base A c xs):=fun b hb=>by
 have hb':Ext (ak [none]) w b∨True:=Or.inr trivial;refine ⟨(⟨h.1.1,?_⟩),h.2⟩;rcases h.1.2 with h2 | ⟨g,cap,cur,hv,hg,hh,r⟩
 · exact Or.inl h2
 · exact Or.inr ⟨g,cap,cur,hv,hg,(hb.block g (Array.getElem?_eq_some_iff.1 hh).1 (fun e=>by have:=hx g e;omega)).trans hh,r⟩
theorem KX {w:World} {b o:Nat} {v:Value} (h:w.cell? ⟨b,o,none⟩=some v):b<w.heap.size:=by
 unfold World.cell? at h;simp only[] at h
 split at h
 · rename_i c t fr hh;exact (Array.getElem?_eq_some_iff.1 hh).1
 · cases h
theorem Per.cell0 {w:World} {g o:Nat} {v:Value} (h:w.cell? ⟨g,o,none⟩=some v):Per No w (fun b=>b.cell? ⟨g,o,none⟩=some v):=fun b hb=>by
 have hlt:g<w.heap.size:=KX h;show b.cell? ⟨g,o,none⟩=some v
 rw[hb.cell (p:=⟨g,o,none⟩) hlt (fun e=>e.elim)];exact h
section
variable (n1 n2:Bool) (A B:Option Addr) (c d:Nat) (xs ys:List Nat) (w:World)
end
section
variable (i j:Int) (A B:Option Addr) (c d:Nat) (w:World) (hi:i.natAbs<au^30) (hj:j.natAbs<au^30) (hx:aA w A (limbs i)) (hy:aA w B (limbs j))
include hi hj hx hy
theorem pow_zero (h0:j=0):Calls prog 93 #[.agg #[.bool (decide (i<0)),.slice A (limbs i).length c],.agg #[.bool (decide (j<0)),.slice B (limbs j).length d]] w (zx w 1 0):=by
 have hd:decide (j<0)=false:=by rw[h0];rfl
 have hlen:(limbs j).length=0:=by rw[h0,qj];rfl
 refine zc func93 rfl ntmps93 rfl ?_;obtain ⟨HF,LW,aj,E⟩:=bg w;replace HF:=HF.and (Per.ay hx);replace HF:=HF.and (Per.ay hy);refine zf ?_;intro aO w2 aD aI aW;obtain ⟨HF,LW,E⟩:=aK HF LW E aj aD aI;refine za rfl (zn rfl ?_);intro bM w4 aJ aM bN;obtain ⟨HF,LW,E⟩:=aK HF LW E aj aJ aM;refine yn ?_;intro aX w6 aC aT aU;obtain ⟨aU,HF,E,aj⟩:=aZ HF LW E aj aT aU;refine zr ?_;refine za rfl (zb yC rfl ((Na A c _ hi (HF.on E).here.1.1.1.2).mono ?_));rintro e w7 ⟨rfl,hb⟩;refine ⟨_,rfl,?_⟩;have Ec:=Ext.of_below hb No;replace aC:=aC.av Ec ah.nil;replace E:=E.trans Ec.no;refine zq ?_;refine bV rfl (zb yC rfl ((Na B d _ hj (HF.on E).here.1.1.2).mono ?_));rintro e w8 ⟨rfl,hb⟩;refine ⟨_,rfl,?_⟩;have Ec:=Ext.of_below hb No;replace aC:=aC.av Ec ah.nil;replace E:=E.trans Ec.no;refine Ae ?_;rintro e w9 ⟨A1,c1,rfl,o1,hb⟩;refine ⟨_,rfl,?_⟩;have XC:∀q9,(ak [(some aX)]) q9→q9<w8.heap.size:=(ak.grow ak.none_ (zg aC.lt));have SC:=Nat.le_trans LW.size E.size;have Ec:=Ext.of_below hb No;replace aC:=aC.av Ec ah.nil;replace E:=E.trans Ec.no;have S1:=SC;obtain ⟨HF,LW,E⟩:=cZ HF LW E aj (Per.bP o1 XC);refine yn ?_;intro bY dS bG bK dD;have bL:Apart (some bY) (some aX):=Apart.of_lt (zg aC.lt) dD;have cO:=bL.symm;replace aC:=aC.av bK ah.nil;obtain ⟨dD,HF,E,aj⟩:=aZ HF LW E aj bK dD;refine kW ?_;intro eB Bx bK;replace bG:=Bx;replace aC:=aC.av bK (ah.cons cO ah.nil);replace E:=E.step1 bK ak.head;refine yq ?_;refine ze 25 (.bool true) rfl (by rw[hlen];rfl) (ye ?_);refine kV ?_;intro fK Bx aT;replace aC:=Bx;replace bG:=bG.av aT (ah.cons bL ah.nil);replace E:=E.step1 aT (ak.tail ak.head);refine zt ?_;exact ⟨A1,c1,rfl,((HF.on E).here.2).mono S1,(LW.step E aj).toBelow⟩
end
theorem Ag {j:Int} (h0:j≠0):nth (limbs j) 0=((j.natAbs%au:Nat):Int):=by
 unfold nth;rw[qn,kx qg om];rfl
theorem Ah {j:Int} (h0:j≠0) (h:j.natAbs<au):(limbs j).length=1:=by
 rw[qn,kx qg om,Nat.div_eq_of_lt h];rfl
theorem oa {j:Int} (h0:j≠0):0<(limbs j).length:=by rw[qn];exact zvv qg om
theorem Il (i:Int) (n:Nat):(i^n).natAbs=i.natAbs^n:=Int.natAbs_pow i n
theorem Qx {i:Int} (h:1≤i.natAbs) {k n:Nat} (hk:k≤n):(i^k).natAbs≤(i^n).natAbs:=by
 rw[Il,Il];exact Nat.pow_le_pow_right h hk
section
variable (i j:Int) (A B:Option Addr) (c d:Nat) (w:World) (hi:i.natAbs<au^30) (hj:j.natAbs<au^30) (hx:aA w A (limbs i)) (hy:aA w B (limbs j))
include hi hj hx hy
theorem akj (h0:0<j) (hj2:j≤2000) (h2i:2≤i.natAbs) (h:i.natAbs<au):Calls prog 93 #[.agg #[.bool (decide (i<0)),.slice A (limbs i).length c],.agg #[.bool (decide (j<0)),.slice B (limbs j).length d]] w (zx w (bX true (i^j.toNat)) (bZ true (i^j.toNat))):=by
 have hjb:j.natAbs<au:=by unfold au;omega
 have ejm:j.natAbs%au=j.toNat:=by rw[Nat.mod_eq_of_lt hjb];omega
 have hd:decide (j<0)=false:=decide_eq_false om;have hip:=oa (j:=i) om;have hjp:=oa (j:=j) om;have hlen:((limbs j).length:Int)≠0:=om;have aC3:((limbs i).length:Int)≠0:=om;obtain ⟨bx,ox,rfl,hbx,hcx⟩:=hx.2 hip;obtain ⟨by_,oy,rfl,hby,hcy⟩:=hy.2 hjp;have hc0:w.cell? ⟨bx,ox+0,none⟩=some (.int .u64 ((i.natAbs%au:Nat):Int)):=by rw[hcx 0 hip,Ag om]
 have hd0:w.cell? ⟨by_,oy+0,none⟩=some (.int .u64 ((j.toNat:Int))):=by rw[hcy 0 hjp,Ag om];rw[ejm]
 refine zc func93 rfl ntmps93 rfl ?_;obtain ⟨HF,LW,aj,E⟩:=bg w;replace HF:=HF.and (Per.ay hx);replace HF:=HF.and (Per.ay hy);replace HF:=HF.and (Per.cell0 hc0);replace HF:=HF.and (Per.cell0 hd0);refine zf ?_;intro aO w2 aD aI aW;obtain ⟨HF,LW,E⟩:=aK HF LW E aj aD aI;refine za rfl (zn rfl ?_);intro bM w4 aJ aM bN;obtain ⟨HF,LW,E⟩:=aK HF LW E aj aJ aM;refine yn ?_;intro aX w6 aC aT aU;obtain ⟨aU,HF,E,aj⟩:=aZ HF LW E aj aT aU;refine zr ?_;refine za rfl (zb yC rfl ((Na _ c _ hi (HF.on E).here.1.1.1.1.1.2).mono ?_));rintro e w7 ⟨rfl,hb⟩;refine ⟨_,rfl,?_⟩;have Ec:=Ext.of_below hb No;replace aC:=aC.av Ec ah.nil;replace E:=E.trans Ec.no;refine zq ?_;refine bV rfl (zb yC rfl ((Na _ d _ hj (HF.on E).here.1.1.1.1.2).mono ?_));rintro e w8 ⟨rfl,hb⟩;refine ⟨_,rfl,?_⟩;have Ec:=Ext.of_below hb No;replace aC:=aC.av Ec ah.nil;replace E:=E.trans Ec.no;refine Ae ?_;rintro e w9 ⟨A1,c1,rfl,o1,hb⟩;refine ⟨_,rfl,?_⟩;have XC:∀q9,(ak [(some aX)]) q9→q9<w8.heap.size:=(ak.grow ak.none_ (zg aC.lt));have SC:=Nat.le_trans LW.size E.size;have Ec:=Ext.of_below hb No;replace aC:=aC.av Ec ah.nil;replace E:=E.trans Ec.no;have S1:=SC;obtain ⟨HF,LW,E⟩:=cZ HF LW E aj (Per.bP o1 XC);refine yn ?_;intro bY dS bG bK dD;have bL:Apart (some bY) (some aX):=Apart.of_lt (zg aC.lt) dD;have cO:=bL.symm;replace aC:=aC.av bK ah.nil;obtain ⟨dD,HF,E,aj⟩:=aZ HF LW E aj bK dD;refine kW ?_;intro eB Bx bK;replace bG:=Bx;replace aC:=aC.av bK (ah.cons cO ah.nil);replace E:=E.step1 bK ak.head;refine yq ?_;refine ze 25 (.bool false) rfl (by rw[beq_eq_false_iff_ne.2 hlen]<;>rfl) (yq ?_);refine zd 31 (.bool false) rfl (by rw[beq_eq_false_iff_ne.2 aC3]<;>rfl) (zv ?_);have h1:((limbs i).length:Int)=1:=by rw[Ah om h];rfl
 refine zd 36 (.bool true) rfl (by rw[h1];rfl) (zu ?_);refine bV rfl (kw (j:=0) u22 yA rfl rfl rfl hip (zt ?_));refine ze 43 (.bool false) rfl (by rw[Nat.mod_eq_of_lt h,beq_eq_false_iff_ne.2 om]<;>rfl) (yq ?_);have h2:¬(1:Int)<((limbs j).length:Int):=by rw[Ah om hjb];decide
 refine zd 61 (.bool false) rfl (by rw[decide_eq_false h2]<;>rfl) (zu ?_);refine bV rfl (kw (j:=0) u22 yA rfl rfl rfl hjp (zv ?_));refine ze 67 (.bool false) rfl (by rw[decide_eq_false om]<;>rfl) (yu ?_);refine za rfl (kw (j:=0) u22 yA rfl rfl rfl hjp (zv ?_));have b1:(i^0).natAbs<au^30:=by rw[Int.pow_zero];exact Nat.one_lt_pow de (by unfold au;omega)
 have e0:i^0=1:=Int.pow_zero i;replace bG:aB eB bY 24 #[.bool (decide (i^0<0)),.slice A1 (limbs (i^0)).length c1]:=by rw[e0];exact bG
 replace HF:=HF.on E;replace LW:=LW.step E aj;replace E:=aF (ak [(some bY),(some aX)]) eB;refine jd (ι:=Nat×Option Addr×Nat) (fun (k,A1,c1)=>[(2,.pointer (some ⟨aO,0,none⟩)),(4,.pointer (some ⟨aX,0,none⟩)),(6,.pointer (some ⟨bY,0,none⟩)),(72,.int .u64 (j.toNat:Int)),(73,.int .u64 ((k:Nat):Int))]) (fun (k,A1,c1) w'=>Ext (ak [(some bY),(some aX)]) eB w'∧aB w' bY 24 (#[.bool (decide (i^k<0)),.slice A1 (limbs (i^k)).length c1])∧aB w' aX 24 (#[.bool false,.slice none 0 0])∧(k≤j.toNat∧(i^k).natAbs<au^30∧Own w' w.heap.size A1 c1 (limbs (i^k)))) (fun (k,A1,c1)=>j.toNat-k) (0,A1,c1) ⟨rfl,rfl,rfl,rfl,rfl,trivial⟩ ⟨Ext.refl _ _,(by exact bG),(by exact aC),⟨Nat.zero_le _,b1,by rw[e0];exact ((HF.on E).here.2).mono S1⟩⟩ ?_;have aC4:=(zg bG.lt);have aL4:=(zg aC.lt);rintro ⟨k,A1,c1⟩ dL ⟨iJ,bG,aC,⟨hk,hb1,hown⟩⟩;have gK:GR (ak [(some bY),(some aX)]) (ak [(some bY),(some aX)]) eB:=(ak.grow (ak.grow ak.none_ (fun k e=>Or.inl ((ak.tail ak.head) k e))) (fun k e=>Or.inl (ak.head k e)));replace E:=E.trans iJ;replace HF:=HF.on E;replace LW:=LW.step E aj;replace E:=aF (ak [(some bY),(some aX)]) dL;clear aC4;clear aL4;replace HF:=HF.on E;replace LW:=LW.step E aj;replace iJ:=iJ.step E gK;replace E:=aF (ak [(some bY),(some aX)]) dL;replace HF:=HF.and (Per.aL3 hown (ah.cons (qY hown bG de) (ah.cons (qY hown aC de) ah.nil)));refine zt ?_;refine zj rfl (fun hlt=>?_) (fun hlt=>?_)
 ·
  have hlt:=of_decide_eq_true hlt;refine yu ?_;refine za rfl (zb ai2 rfl ((aB6 A1 _ c1 c _ hb1 hi ((HF.on E).here.2).nums (HF.on E).here.1.1.1.1.1.1.1.2).mono ?_));rintro e fM ⟨A3,c3,rfl,o3,hb⟩;refine ⟨_,rfl,?_⟩;have XC:∀q9,(ak [(some bY),(some aX)]) q9→q9<dL.heap.size:=(ak.grow (ak.grow ak.none_ (zg aC.lt)) (zg bG.lt));have SC:=Nat.le_trans LW.size E.size;have Ec:=Ext.of_below hb No;replace bG:=bG.av Ec ah.nil;replace aC:=aC.av Ec ah.nil;replace E:=E.trans Ec.no;have S3:=SC;replace HF:=HF.on E;replace LW:=LW.step E aj;replace iJ:=iJ.step E gK;replace E:=aF (ak [(some bY),(some aX)]) fM;replace HF:=HF.and (Per.bP o3 XC);refine zq ?_;refine yn ?_;intro dO nS cB dG dJ;have Ai:Apart (some dO) (some bY):=Apart.of_lt (zg bG.lt) dJ;have Qy:=Ai.symm;have Im:Apart (some dO) (some aX):=Apart.of_lt (zg aC.lt) dJ;have WZ:=Im.symm;replace bG:=bG.av dG ah.nil;replace aC:=aC.av dG ah.nil;obtain ⟨dJ,HF,E,aj⟩:=aZ HF LW E aj dG dJ;replace gK:=ak.grow gK (fun k e=>Or.inr (Nat.le_trans iJ.size ((ZJ dJ) k e)));refine zp (vu kz rfl rfl cB rfl rfl (Nat.le_of_ble_eq_true rfl) ?_);intro fF Bx dG;replace cB:=Bx;replace bG:=bG.av dG (ah.cons Qy ah.nil);replace aC:=aC.av dG (ah.cons WZ ah.nil);replace E:=E.step1 dG ak.head;refine zy ?_;refine zj rfl (fun q=>?_) (fun q=>?_)
  ·
   have e1:au^30≤(i^j.toNat).natAbs:=by
    have h7:¬(i^k*i).natAbs<au^30:=fun h9=>by rw[U5 h9] at q;exact absurd q de
    have h8:=Qx (i:=i) om (show k+1≤j.toNat from om);rw[Int.pow_succ] at h8;omega
   have e2:bZ true (i^k*i)=7:=qez (by
    rcases Nat.lt_or_ge (i^k*i).natAbs (au^30) with h9 | h9
    · rw[U5 h9] at q;exact absurd q de
    · exact h9)
   refine zu ?_;refine za rfl (ja (cs:=#[.bool false,.slice none 0 0]) Ot JN rfl rfl (aQ ?_));refine kV ?_;intro nT Bx aT;replace aC:=Bx;replace cB:=cB.av aT (ah.cons Im ah.nil);replace bG:=bG.av aT (ah.cons bL ah.nil);replace E:=E.step1 aT (ak.tail (ak.tail ak.head));refine zy ?_;refine yy 5 (.int .i64 7) rfl ((by rw[e2]:(.int .i64 (bZ true (i^k*i)):Value)=_)) (aQ ?_);exact by rw[kE e1,qez e1];exact Af (LW.step E aj).toBelow
  ·
   have h9:(i^k*i).natAbs<au^30:=KD (by simpa using q);have eV:bX true (i^k*i)=i^(k+1):=by rw[PZ h9,Int.pow_succ]
   refine ye ?_;refine kW ?_;intro Qz Bx bK;replace bG:=Bx;replace cB:=cB.av bK (ah.cons Ai ah.nil);replace aC:=aC.av bK (ah.cons cO ah.nil);replace E:=E.step1 bK (ak.tail ak.head);refine ye ?_;refine oh ?_;refine zu ?_;rw[eV] at bG;exact yc (k+1,A3,c3) (by show j.toNat-(k+1)<j.toNat-k;omega) ⟨rfl,rfl,rfl,rfl,rfl,trivial⟩ ⟨iJ.step E gK,(by exact bG),(by exact aC),om,by rw[Int.pow_succ];exact h9,by rw[←eV];exact ((HF.on E).here.2).mono S3⟩
 ·
  have hge:=of_decide_eq_false hlt;obtain rfl:k=j.toNat:=om;refine yu ?_;refine kV ?_;intro Aj Bx aT;replace aC:=Bx;replace bG:=bG.av aT (ah.cons bL ah.nil);replace E:=E.step1 aT (ak.tail ak.head);obtain ⟨HF,LW,aj,E⟩:=dz HF LW E aj (Y:=ak [(some bY)]) (ak.keep (ak.skip ak.aV)) (Per.aS aC (ah.cons cO ah.nil));refine zv ?_;exact ⟨A1,c1,by rw[PZ hb1,U5 hb1];rfl,by rw[PZ hb1];exact (HF.on E).here.1.2,(LW.step E aj).toBelow⟩
end
end Go.Proofs.YtmnmebdmpigddaaGreatDoor
namespace Go.Proofs.YtmnmebdmpigddaaGreatDoor
open Go.RowKit Proofs.Tryz
theorem kX {P Q:Prop} (k:Q) (h:(Unit→Q)→P:=by
 intro zK;refine zp (vu kz rfl rfl aD rfl rfl (Nat.le_of_ble_eq_true rfl) ?_);exact zK ()):P:=h fun _=>k
theorem kY {P Q:Prop} (k:Q) (h:(Unit→Q)→P:=by
 intro zK;refine zp (vu kz rfl rfl bJ rfl rfl (Nat.le_of_ble_eq_true rfl) ?_);exact zK ()):P:=h fun _=>k
theorem Ak {P Q:Prop} (k:Q) (h:(Unit→Q)→P:=by
 intro zK;refine zv ?_;refine za rfl (zb ai3 rfl ((W9 hM hm0 om om A1 A4 c1 c4 _ (HF.on E).here.1.1.1.1.2 (HF.on E).here.1.2).mono ?_));exact zK ()):P:=h fun _=>k
theorem Al {P Q:Prop} (k:Q) (h:(Unit→Q)→P:=by
 intro zK;refine zd 25 (.bool false) rfl (by rw[decide_eq_false om]<;>rfl) (zy ?_);refine za rfl (zb av1 rfl ((qZ _ a hf).mono ?_));exact zK ()):P:=h fun _=>k
theorem Am {P Q:Prop} (k:Q) (h:(Unit→Q)→P:=by
 intro zK;refine za rfl (tZ (z:=m0) underlying3 (by rw[oG];rfl) rfl hfz (za rfl (zb JO rfl ((qmk m0 _ (by rw[hm0];split<;>omega) (by rw[hm0];split<;>omega)).mono ?_))));exact zK ()):P:=h fun _=>k
theorem Ao {P Q:Prop} (k:Q) (h:(Unit→Q)→P:=by
 intro zK;refine zt ?_;refine ztx ?_;refine qo ?_;refine ygq ?_;refine ze 18 (.bool false) rfl (by rw[oc,kh hf]<;>rfl) (ye ?_);refine za rfl (zb gY rfl ((ju _ a ha).mono ?_));exact zK ()):P:=h fun _=>k
theorem ygq {P Q:Prop} (k:Q) (h:(Unit→Q)→P:=by
 intro zK;refine za rfl (qex rfl rfl (zq ?_));exact zK ()):P:=h fun _=>k
theorem uY {P:Prop} (h:P:=by
 exact ⟨_,_,_,_,_,rfl,JN,rfl⟩):P:=h
theorem QA {P:Prop} (h:P:=by
 obtain ⟨⟨A4,c4⟩,e0,_⟩:=K.dep 6 rfl rfl rfl;exact ⟨vs 6,rfl,by rw[e0];rfl,by rw[e0];rfl⟩):P:=h
theorem ac4 {P:Prop} (h:P:=by
 intro vs X wq K;obtain ⟨⟨A4,c4⟩,e5,k5⟩:=K.dep 5 rfl rfl rfl;refine vd 59 _ rfl e5 ?_;exact jk rfl rfl ⟨Below.refl _ _,Left.of rfl⟩):P:=h
theorem ac5 {P:Prop} (h:P:=by
 intro vs X wq K;obtain ⟨⟨A4,c4⟩,e4,k4⟩:=K.dep 4 rfl rfl rfl;refine vd 64 _ rfl e4 ?_;exact ynq rfl ⟨Below.refl _ _,⟨⟨A4,c4⟩,rfl,(k4.map (fun _ h=>h))⟩⟩):P:=h
theorem ac6 {P:Prop} (h:P:=by
 intro vs X wq K;obtain ⟨⟨A4,c4⟩,e5,k5⟩:=K.dep 5 rfl rfl rfl;refine vd 59 _ rfl e5 ?_;exact jk rfl rfl ⟨Below.refl _ _,⟨⟨A4,c4⟩,rfl,(k5.map (fun _ h=>h))⟩⟩):P:=h
theorem ac7 {P:Prop} (h:P:=by
 replace aD:=Bx;replace bJ:=bJ.av aI (ah.cons kZ ah.nil);replace E:=E.step1 aI (ak.tail ak.head);obtain ⟨HF,LW,aj,E⟩:=dz HF LW E aj (Y:=ak [(some dB)]) (ak.keep (ak.skip ak.aV)) (Per.aS aD (ah.cons lg ah.nil));refine zv ?_;exact ⟨A5,c5,rfl,((HF.on E).here.1.1.1.2).mono hS,(LW.step E aj).toBelow⟩):P:=h
theorem ac8 {P:Prop} (h:P:=by
 refine qh ?_;intro vs X wq K;have LE:=K.1;have XN:=K.2.1;obtain ⟨⟨A3,c3⟩,e3,k3⟩:=K.dep 3 rfl rfl rfl;refine vd 63 _ rfl e3 (zb av2 rfl ((Io k A2 A3 c2 c3 _ om (HF.on (E.drew.trans (LE.mono OY))).here.1.2 k3.here).mono ?_));rintro e w2 ⟨A4,c4,rfl,o4,hb⟩;exact ⟨_,rfl,hb,⟨(A4,c4),rfl,Per.own o4 XN⟩⟩):P:=h
theorem QB {P:Prop} (h:P:=by
 refine qh ?_;intro vs X wq K;have XN:=K.2.1;refine zb JO rfl ((qmk ((k:Nat):Int) _ om om).mono ?_);rintro e w2 ⟨A3,c3,rfl,o3,hb⟩;exact ⟨_,rfl,hb,⟨(A3,c3),rfl,Per.own o3 XN⟩⟩):P:=h
attribute [local irreducible] OW RS CW EW
theorem ylv {z:Int} (h:z.natAbs<9223372036854775809):z.natAbs<au^30:=Nat.lt_of_lt_of_le (Nat.lt_of_lt_of_le h de) (Nat.le_trans (qV (k:=64) (K:=1024) rfl rfl de) EZ)
theorem lq (k:Nat):((2:Int)^k).natAbs=2^k:=by rw[Int.natAbs_pow];rfl
theorem Ap (k:Nat):(0:Int)<2^k:=Int.pow_pos de
theorem Ip (k:Nat):decide ((2:Int)^k<0)=false:=decide_eq_false (by have:=Ap k;omega)
theorem uZ {k:Nat} (h:k≤1023):((2:Int)^k).natAbs<au^30:=by
 rw[lq];exact Nat.lt_of_lt_of_le (Nat.pow_lt_pow_right de (show k<1024 from om)) EZ
theorem Io (k:Nat) (A B:Option Addr) (c d:Nat) (w:World) (hk:k≤1023) (hx:aA w A (limbs 2)) (hy:aA w B (limbs ((k:Nat):Int))) :
 Calls prog 93 #[.agg #[.bool (decide ((2:Int)<0)),.slice A (limbs 2).length c],.agg #[.bool (decide (((k:Nat):Int)<0)),.slice B (limbs ((k:Nat):Int)).length d]] w (zx w ((2:Int)^k) 0):=by
 rcases Nat.eq_zero_or_pos k with h0 | h0
 · have h:=pow_zero 2 ((k:Nat):Int) A B c d w (ylv de) (ylv om) hx hy om;rw[h0] at h ⊢;exact h
 · have h:=akj 2 ((k:Nat):Int) A B c d w (ylv de) (ylv om) hx hy om om de de;rw[Int.toNat_natCast,PZ (uZ hk),U5 (uZ hk)] at h;exact h
theorem QC {a M k:Nat} (hM:M=qw a*2^k) {n1:Bool} {m0:Int} (h0:m0=if ng a then -((M:Nat):Int) else ((M:Nat):Int)) (h1:n1=decide (m0<0)):dq n1 false M (2^k)=ky a:=by
 have hp:=xc k;have e1:M/2^k=qw a:=by rw[hM];exact Nat.mul_div_cancel _ hp
 have e2:M%2^k=0:=by rw[hM];exact Nat.mul_mod_left _ _
 unfold dq ky;rw[e1,e2,h1,h0];by_cases hz:qw a=0
 · rw[hz] at hM ⊢;rw[Nat.zero_mul] at hM;subst hM;cases ng a<;>simp
 · have hMp:0<M:=by rw[hM];exact Nat.mul_pos om hp
   cases ng a with
   | true=>simp only[if_true];rw[decide_eq_true om];rfl
   | false=>simp only[Bool.false_eq_true,if_false];rw[decide_eq_false om];rfl
theorem QD {x P:Nat} (hP:0<P) (h:0=x*P):x=0:=by
 rcases Nat.eq_zero_or_pos x with h' | h'
 · exact h'
 · have:=Nat.mul_pos h' hP;omega
theorem E8 {m e W P n k M:Nat} (hP:P=2^1074) (h:m*2^e=W*P*2^n) (hc:1074+n≤e) (hk:k=e-(1074+n)) (hM:M=m):W=M*2^k:=by
 have h1:P*2^n=2^(1074+n):=by rw[hP,Nat.pow_add]
 rw[Nat.mul_assoc,h1,ynx hc] at h;rw[hM,hk];exact (Nat.eq_of_mul_eq_mul_right (xc _) h).symm
theorem E9 {m e W P n k M:Nat} (hP:P=2^1074) (h:m*2^e=W*P*2^n) (hc:e≤1074+n) (hk:k=1074+n-e) (hM:M=m):M=W*2^k:=by
 have h1:P*2^n=2^(1074+n):=by rw[hP,Nat.pow_add]
 rw[Nat.mul_assoc,h1,ynx hc W] at h;rw[hM,hk];exact Nat.eq_of_mul_eq_mul_right (xc _) h
theorem al0 {m e W n k M:Nat} (h:m*2^e=W*2^1074*2^n) (hc:1074+n≤e) (hk:k=e-(1074+n)) (hM:M=m):W=M*2^k:=E8 rfl h hc hk hM
theorem al1 {m e W n k M:Nat} (h:m*2^e=W*2^1074*2^n) (hc:e≤1074+n) (hk:k=1074+n-e) (hM:M=m):M=W*2^k:=E9 rfl h hc hk hM
theorem W9 {a M k:Nat} {m0:Int} (hM:M=qw a*2^k) (h0:m0=if ng a then -((M:Nat):Int) else ((M:Nat):Int)) (hMb:M<9223372036854775808) (hk:k≤1023) (A B:Option Addr) (c d:Nat) (w:World) (hx:aA w A (limbs m0)) (hy:aA w B (limbs ((2:Int)^k))) :
 Calls prog 95 #[.agg #[.bool (decide (m0<0)),.slice A (limbs m0).length c],.agg #[.bool (decide ((2:Int)^k<0)),.slice B (limbs ((2:Int)^k)).length d]] w fun e w'=>∃A5 c5 B6 c6 r,e= .returned (.tuple #[.agg #[.bool (decide (ky a<0)),.slice A5 (limbs (ky a)).length c5],.agg #[.bool (decide (r<0)),.slice B6 (limbs r).length c6],.int .i64 0])∧Own w' w.heap.size A5 c5 (limbs (ky a))∧Below w.heap.size w w':=by
 have hma:m0.natAbs=M:=by rw[h0];split<;>omega
 have h:=qok A B c d (limbs m0) (limbs ((2:Int)^k)) w (decide (m0<0)) (decide ((2:Int)^k<0)) hx hy (qy (ylv om)) (qy (uZ hk)) (oa (by have:=Ap k;omega));rw[qn m0,qn ((2:Int)^k),gm qg,gm qg,←qn,←qn,hma,lq,Ip,QC hM h0 rfl] at h;rw[Ip];exact h.mono fun e w' ⟨A5,c5,B6,c6,he,o1,o2,hb,_⟩=>⟨A5,c5,B6,c6,_,he,o1,hb⟩
section
variable (w:World) (a:Nat) (ha:a<18446744073709551616)
theorem qZ (hf:rg a<9218868437227405312):Calls prog 91 #[.float .f64 a] w (aH w (.float .f64 (ot .zero a))):=by
 refine zc func91 rfl ntmps91 rfl ?_;have LW:=aF (No) w;have aj:=bD (No) w;have E:=aF (No) w;refine zy ?_;refine za rfl (N8 ay3 rfl ((xX a).trans (kh hf)) (zt ?_));exact vj
include ha
section
variable (hf:rg a<9218868437227405312)
include hf
theorem Fa (h0:qw a=0):Calls prog 43 #[.int .u64 ((a:Nat):Int)] w (zx w (ky a) 0):=by
 obtain ⟨q,hq1,hq2,hq3⟩:=yjq hf;have hq0:q=0:=yek.1 (ak6 hq1 h0);obtain ⟨r1,r2,r3⟩:=vv (ng a) q om;obtain ⟨M,hMd⟩:∃M,M=0:=⟨_,rfl⟩;obtain ⟨k,hk⟩:∃k,k=53:=⟨_,rfl⟩;obtain ⟨m0,hm0⟩:∃m0:Int,m0=if ng a then -((M:Nat):Int) else ((M:Nat):Int):=⟨_,rfl⟩
 have hM:M=qw a*2^k:=by rw[h0,Nat.zero_mul,hMd]
 have hwz:qw (Ieee.double.word (ng a) q)=0:=(yeq (ng a) om hq1).trans h0;have hfz:floatToIntVal .f64 (Ieee.double.word (ng a) q) .i64=some m0:=by
  rw[Ia (by rw[r1];omega) (by rw[hwz];decide),hwz,r2,hm0,hMd]
 refine zc func43 rfl ntmps43 rfl ?_;obtain ⟨HF,LW,aj,E⟩:=bg w;refine zu ?_;refine yn ?_;intro aO w2 aD aI aW;obtain ⟨aW,HF,E,aj⟩:=aZ HF LW E aj aI aW;refine Ao ?_;rintro e w3 ⟨rfl,hb⟩;refine ⟨_,rfl,?_⟩;have Ec:=Ext.of_below hb No;replace aD:=aD.av Ec ah.nil;replace E:=E.trans Ec.no;refine Al ?_;rintro e w4 ⟨rfl,hb⟩;refine ⟨_,rfl,?_⟩;have Ec:=Ext.of_below hb No;replace aD:=aD.av Ec ah.nil;replace E:=E.trans Ec.no;refine zd 29 (.float .f64 (Ieee.double.word (ng a) q)) rfl (by rw[hq3]<;>rfl) (za rfl (zb Ow rfl ((kS _ (Ieee.double.word (ng a) q) r3 (by rw[r1];exact hq0)).mono ?_)));rintro e w5 ⟨rfl,hb⟩;refine ⟨_,rfl,?_⟩;have Ec:=Ext.of_below hb No;replace aD:=aD.av Ec ah.nil;replace E:=E.trans Ec.no;refine zy ?_;refine za rfl (zb Oy rfl ((kT _ (Ieee.double.word (ng a) q) r3 (by rw[r1];exact hq0) 53).mono ?_));rintro e w6 ⟨rfl,hb⟩;refine ⟨_,rfl,?_⟩;have Ec:=Ext.of_below hb No;replace aD:=aD.av Ec ah.nil;replace E:=E.trans Ec.no;refine Am ?_;rintro e w7 ⟨A1,c1,rfl,o1,hb⟩;refine ⟨_,rfl,?_⟩;have XC:∀q9,(ak [(some aO)]) q9→q9<w6.heap.size:=(ak.grow ak.none_ (zg aD.lt));have Ec:=Ext.of_below hb No;replace aD:=aD.av Ec ah.nil;replace E:=E.trans Ec.no;obtain ⟨HF,LW,E⟩:=cZ HF LW E aj (Per.own o1 XC);refine yn ?_;intro dB w9 bJ dN fO;have kZ:Apart (some dB) (some aO):=Apart.of_lt (zg aD.lt) fO;have lg:=kZ.symm;replace aD:=aD.av dN ah.nil;obtain ⟨fO,HF,E,aj⟩:=aZ HF LW E aj dN fO;refine kY ?_;intro dI Bx dN;replace bJ:=Bx;replace aD:=aD.av dN (ah.cons lg ah.nil);replace E:=E.step1 dN ak.head;refine ye ?_;refine za rfl (zb JO rfl ((qmk 2 _ de de).mono ?_));rintro e dS ⟨A2,c2,rfl,o2,hb⟩;refine ⟨_,rfl,?_⟩;have XC:∀q9,(ak [(some dB),(some aO)]) q9→q9<dI.heap.size:=(ak.grow (ak.grow ak.none_ (zg aD.lt)) (zg bJ.lt));have Ec:=Ext.of_below hb No;replace bJ:=bJ.av Ec ah.nil;replace aD:=aD.av Ec ah.nil;replace E:=E.trans Ec.no;obtain ⟨HF,LW,E⟩:=cZ HF LW E aj (Per.own o2 XC);refine yn ?_;intro lu fK eu dH eD;have fP:Apart (some lu) (some dB):=Apart.of_lt (zg bJ.lt) eD;have u6:=fP.symm;have fQ:Apart (some lu) (some aO):=Apart.of_lt (zg aD.lt) eD;have u7:=fQ.symm;replace bJ:=bJ.av dH ah.nil;replace aD:=aD.av dH ah.nil;obtain ⟨eD,HF,E,aj⟩:=aZ HF LW E aj dH eD;refine zp (vu kz rfl rfl eu rfl rfl (Nat.le_of_ble_eq_true rfl) ?_);intro dL Bx dH;replace eu:=Bx;replace bJ:=bJ.av dH (ah.cons u6 ah.nil);replace aD:=aD.av dH (ah.cons u7 ah.nil);replace E:=E.step1 dH ak.head;obtain ⟨HF,LW,aj,E⟩:=dz HF LW E aj (Y:=ak [(some dB),(some aO)]) (ak.skip (ak.keep (ak.keep ak.aV))) (Per.aS eu (ah.cons fP (ah.cons fQ ah.nil)));refine zt ?_;refine za rfl (jn (z:=(-53)) rfl rfl kr (VK ?_));have OY:∀q9,(ak (km [])) q9→q9<(World.drew dL).heap.size→(ak [(some dB),(some aO)]) q9:=fun k h _=>(ak.none_) k h;refine yx (ak [(some dB),(some aO)]) (ak.grow (ak.grow ak.none_ (zg aD.lt)) (zg bJ.lt)) [⟨8,9,24,#[.bool false,.slice none 0 0]⟩] [] (xq [Fx.of (.agg #[.bool (decide ((2:Int)<0)),.slice A2 (limbs 2).length c2]),
  Fx.of (.int .i64 (-53)),
  Fx.of (.int .i64 ((k:Nat):Int)),
  ⟨(Option Addr×Nat),fun (A3,c3)=>.agg #[.bool (decide (((k:Nat):Int)<0)),.slice A3 (limbs ((k:Nat):Int)).length c3],fun (A3,c3) b=>(aA b A3 (limbs ((k:Nat):Int)))⟩,
  ⟨(Option Addr×Nat),fun (A4,c4)=>.tuple #[.agg #[.bool (decide ((2:Int)^k<0)),.slice A4 (limbs ((2:Int)^k)).length c4],.int .i64 0],fun (A4,c4) b=>(aA b A4 (limbs ((2:Int)^k)))⟩,
  ⟨(Option Addr×Nat),fun (A4,c4)=>.tuple #[.agg #[.bool (decide ((2:Int)^k<0)),.slice A4 (limbs ((2:Int)^k)).length c4],.int .i64 0],fun (A4,c4) b=>(aA b A4 (limbs ((2:Int)^k)))⟩,
  ⟨(Option Addr×Nat),fun (A4,c4)=>.agg #[.bool (decide ((2:Int)^k<0)),.slice A4 (limbs ((2:Int)^k)).length c4],fun (A4,c4) b=>(aA b A4 (limbs ((2:Int)^k)))⟩,
  Fx.of (.int .i64 0),
  Fx.of undef,
  Fx.of undef,
  Fx.of (.int .i64 0)]) mixed rfl trivial (fun _ h=>by cases h) ?_ ?_
 · refine ⟨arm,arm,?_,?_,?_,?_,?_,?_,?_,?_,arm,trivial⟩
   · refine qh ?_;intro vs X wq K;exact sW (z:=53) rfl kr ⟨Below.refl _ _,Left.of (by rw[hk];rfl)⟩
   · exact QB
   · exact ac8
   · exact ac5
   · exact ac6
   · exact ac4
   · exact uY
   · refine ⟨_,_,_,_,_,rfl,rfl,rfl,kz,fun vs X wq K=>?_⟩;exact QA
 intro vs fM LE AO AL AF AA;have Aq:=bJ;have Ar:=aD;replace bJ:=bJ.drew.av LE ah.nil;replace aD:=aD.drew.av LE ah.nil;replace E:=E.drew.trans (LE.mono OY);obtain ⟨⟨A4,c4⟩,e6,k6⟩:=AL.2.2.2.2.2.2.1;obtain ⟨HF,LW,E⟩:=cZ HF LW E aj ((k6.map (fun _ h=>h):Per (ak [(some dB),(some aO)]) fM (fun b=>aA b A4 (limbs ((2:Int)^k)))));obtain ⟨dO,v0,y0,al2,dJ,cB,ey,wT⟩:=AF.1;cases ey
 obtain rfl:vs 6=v0:=Option.some.inj wT;rw[e6] at cB;have fT:Apart (some dO) (some dB):=Apart.of_lt (zg Aq.lt) dJ;have Xa:=fT.symm;have fU:Apart (some dO) (some aO):=Apart.of_lt (zg Ar.lt) dJ;have Xb:=fU.symm;obtain ⟨HF,LW,E⟩:=cZ HF LW E aj ((Per.aS cB (ah.cons fT (ah.cons fU ah.nil)):Per (ak [(some dB),(some aO)]) fM (fun b=>aB b dO 24 #[.bool (decide ((2:Int)^k<0)),.slice A4 (limbs ((2:Int)^k)).length c4])));have e8:=al2;refine vo (τ:=[(2,_),(3,_),(7,_),(11,.pointer (some ⟨dO,0,none⟩))]) ⟨rfl,rfl,rfl,congrArg some e8,trivial⟩ ?_;clear AL AF AA LE AO OY e6 e8 k6 Aq Ar;refine Ak ?_;rintro e nS ⟨A5,c5,B6,c6,r,rfl,o5,hb⟩;refine ⟨_,rfl,?_⟩;have XC:∀q9,(ak [(some dB),(some aO)]) q9→q9<fM.heap.size:=(ak.grow (ak.grow ak.none_ (zg aD.lt)) (zg bJ.lt));have SC:=Nat.le_trans LW.size E.size;have Ec:=Ext.of_below hb No;replace bJ:=bJ.av Ec ah.nil;replace aD:=aD.av Ec ah.nil;replace E:=E.trans Ec.no;have hS:=SC;obtain ⟨HF,LW,E⟩:=cZ HF LW E aj (Per.bP o5 XC);refine ye ?_;refine yn ?_;intro al3 nT KY Au Xc;have Iq:Apart (some al3) (some dB):=Apart.of_lt (zg bJ.lt) Xc;have Xd:=Iq.symm;have Ir:Apart (some al3) (some aO):=Apart.of_lt (zg aD.lt) Xc;have Xe:=Ir.symm;replace bJ:=bJ.av Au ah.nil;replace aD:=aD.av Au ah.nil;obtain ⟨Xc,HF,E,aj⟩:=aZ HF LW E aj Au Xc;refine yn ?_;intro oU Aj eG dR fV;have Av:Apart (some oU) (some al3):=Apart.of_lt (zg KY.lt) fV;have QE:=Av.symm;have Iu:Apart (some oU) (some dB):=Apart.of_lt (zg bJ.lt) fV;have Xf:=Iu.symm;have Iw:Apart (some oU) (some aO):=Apart.of_lt (zg aD.lt) fV;have Xg:=Iw.symm;replace KY:=KY.av dR ah.nil;replace bJ:=bJ.av dR ah.nil;replace aD:=aD.av dR ah.nil;obtain ⟨fV,HF,E,aj⟩:=aZ HF LW E aj dR fV;refine zp (vu kz rfl rfl KY rfl rfl (Nat.le_of_ble_eq_true rfl) ?_);intro Fb Bx Au;replace KY:=Bx;replace eG:=eG.av Au (ah.cons Av ah.nil);replace bJ:=bJ.av Au (ah.cons Xd ah.nil);replace aD:=aD.av Au (ah.cons Xe ah.nil);replace E:=E.step1 Au (ak.tail ak.head);obtain ⟨HF,LW,aj,E⟩:=dz HF LW E aj (Y:=ak [(some oU),(some dB),(some aO)]) (ak.keep (ak.skip (ak.keep (ak.keep ak.aV)))) (Per.aS KY (ah.cons QE (ah.cons Iq (ah.cons Ir ah.nil))));refine zp (vu kz rfl rfl eG rfl rfl (Nat.le_of_ble_eq_true rfl) ?_);intro wU Bx dR;replace eG:=Bx;replace bJ:=bJ.av dR (ah.cons Xf ah.nil);replace aD:=aD.av dR (ah.cons Xg ah.nil);replace E:=E.step1 dR ak.head;obtain ⟨HF,LW,aj,E⟩:=dz HF LW E aj (Y:=ak [(some dB),(some aO)]) (ak.skip (ak.keep (ak.keep ak.aV))) (Per.aS eG (ah.cons Iu (ah.cons Iw ah.nil)));refine zt ?_;refine kX ?_;intro w24 Bx aI;exact ac7
theorem KZ (h0:qw a≠0):Calls prog 43 #[.int .u64 ((a:Nat):Int)] w (zx w (ky a) 0):=by
 obtain ⟨q,hq1,hq2,hq3⟩:=yjq hf;have hqf:q<9218868437227405312:=om;have hq0:q≠0:=fun e=>by
  subst e;rw[oj] at hq1;exact h0 (QD (xc 1074) hq1)
 obtain ⟨r1,r2,r3⟩:=vv (ng a) q om;obtain ⟨T,hT⟩:∃T,T=Ieee.double.word (ng a) q:=⟨_,rfl⟩;have hT1:rg T=q:=by rw[hT,r1]
 have hT2:ng T=ng a:=by rw[hT,r2]
 obtain ⟨F,hF⟩:∃F,F=iI T:=⟨_,rfl⟩;have hmn:=WC hq0;have hFp:rg F=4602678819172646912+(mg (nr q)-4503599627370496)∧ng F=ng a∧F<18446744073709551616:=by
  rw[hF,iI,hT1,hT2];exact vv _ _ om
 obtain ⟨fq1,fq2⟩:=ac3 (r:=q) hq0;have hFv:vl (rg F)=mg (nr q)*2^1021:=by
  rw[hFp.1,←Ih hqf];exact (qX hqf hq0).2.2
 have fq3:vl (1074*4503599627370496+mg (nr q))=vl (rg F)*2^53:=by rewrite [fq1,hFv];exact qlv (p:=1074) (q:=1021) (s:=53) de _
 obtain ⟨M,hMd⟩:∃M,M=mg (nr q):=⟨_,rfl⟩;obtain ⟨m0,hm0⟩:∃m0:Int,m0=if ng a then -((M:Nat):Int) else ((M:Nat):Int):=⟨_,rfl⟩
 have fw:=vv (ng F) (1074*4503599627370496+mg (nr q)) om;have hwM:qw (Ieee.double.word (ng F) (1074*4503599627370496+mg (nr q)))=M:=by rw[hMd];exact yeq (ng F) fq2 fq1
 have hfz:floatToIntVal .f64 (Ieee.double.word (ng F) (1074*4503599627370496+mg (nr q))) .i64=some m0:=by
  rw[Ia (by rw[fw.1];exact fq2) (by rw[hwM];omega),hwM,fw.2.1,hFp.2.1,hm0]
 have hE:oO T=((ex (nr q):Nat):Int)-1021-((nd q:Nat):Int):=by
  have:=Ii hqf;rw[←this];unfold oO;rw[hT1,(ymk (r:=q) om).1]
 have hval:=yiq hq0;rw[hq1] at hval;have hxn:ex (nr q)≤2045:=by have:=zyq hq0 hqf;unfold ex;split<;>omega
 have hnd:nd q≤52:=by unfold nd;split<;>omega
 refine zc func43 rfl ntmps43 rfl ?_;obtain ⟨HF,LW,aj,E⟩:=bg w;refine zu ?_;refine yn ?_;intro aO w2 aD aI aW;obtain ⟨aW,HF,E,aj⟩:=aZ HF LW E aj aI aW;refine Ao ?_;rintro e w3 ⟨rfl,hb⟩;refine ⟨_,rfl,?_⟩;have Ec:=Ext.of_below hb No;replace aD:=aD.av Ec ah.nil;replace E:=E.trans Ec.no;refine Al ?_;rintro e w4 ⟨rfl,hb⟩;refine ⟨_,rfl,?_⟩;have Ec:=Ext.of_below hb No;replace aD:=aD.av Ec ah.nil;replace E:=E.trans Ec.no;refine zd 29 (.float .f64 (Ieee.double.word (ng a) q)) rfl (by rw[hq3]<;>rfl) (zd 29 (.float .f64 T) rfl (by rw[hT]<;>rfl) (za rfl (zb Ow rfl ((qpv _ T (by rw[hT];exact r3) (by rw[hT1];exact hq0) (by rw[hT1];exact hqf)).mono ?_))));rintro e w5 ⟨rfl,hb⟩;refine ⟨_,rfl,?_⟩;have Ec:=Ext.of_below hb No;replace aD:=aD.av Ec ah.nil;replace E:=E.trans Ec.no;refine zd 30 (.tuple #[.float .f64 F,.int .i64 (oO T)]) rfl (by rw[hF]<;>rfl) (zy ?_);refine za rfl (zb Oy rfl ((qpk _ F hFp.2.2 (by rw[hFp.1];omega) (by rw[hFp.1];omega) 53 (1074*4503599627370496+mg (nr q)) de fq2 fq3).mono ?_));rintro e w6 ⟨rfl,hb⟩;refine ⟨_,rfl,?_⟩;have Ec:=Ext.of_below hb No;replace aD:=aD.av Ec ah.nil;replace E:=E.trans Ec.no;refine Am ?_;rintro e w7 ⟨A1,c1,rfl,o1,hb⟩;refine ⟨_,rfl,?_⟩;have XC:∀q9,(ak [(some aO)]) q9→q9<w6.heap.size:=(ak.grow ak.none_ (zg aD.lt));have Ec:=Ext.of_below hb No;replace aD:=aD.av Ec ah.nil;replace E:=E.trans Ec.no;obtain ⟨HF,LW,E⟩:=cZ HF LW E aj (Per.own o1 XC);refine yn ?_;intro dB w9 bJ dN fO;have kZ:Apart (some dB) (some aO):=Apart.of_lt (zg aD.lt) fO;have lg:=kZ.symm;replace aD:=aD.av dN ah.nil;obtain ⟨fO,HF,E,aj⟩:=aZ HF LW E aj dN fO;refine kY ?_;intro dI Bx dN;replace bJ:=Bx;replace aD:=aD.av dN (ah.cons lg ah.nil);replace E:=E.step1 dN ak.head;refine ye ?_;refine za rfl (zb JO rfl ((qmk 2 _ de de).mono ?_));rintro e dS ⟨A2,c2,rfl,o2,hb⟩;refine ⟨_,rfl,?_⟩;have XC:∀q9,(ak [(some dB),(some aO)]) q9→q9<dI.heap.size:=(ak.grow (ak.grow ak.none_ (zg aD.lt)) (zg bJ.lt));have Ec:=Ext.of_below hb No;replace bJ:=bJ.av Ec ah.nil;replace aD:=aD.av Ec ah.nil;replace E:=E.trans Ec.no;obtain ⟨HF,LW,E⟩:=cZ HF LW E aj (Per.own o2 XC);refine yn ?_;intro lu fK eu dH eD;have fP:Apart (some lu) (some dB):=Apart.of_lt (zg bJ.lt) eD;have u6:=fP.symm;have fQ:Apart (some lu) (some aO):=Apart.of_lt (zg aD.lt) eD;have u7:=fQ.symm;replace bJ:=bJ.av dH ah.nil;replace aD:=aD.av dH ah.nil;obtain ⟨eD,HF,E,aj⟩:=aZ HF LW E aj dH eD;refine zp (vu kz rfl rfl eu rfl rfl (Nat.le_of_ble_eq_true rfl) ?_);intro dL Bx dH;replace eu:=Bx;replace bJ:=bJ.av dH (ah.cons u6 ah.nil);replace aD:=aD.av dH (ah.cons u7 ah.nil);replace E:=E.step1 dH ak.head;obtain ⟨HF,LW,aj,E⟩:=dz HF LW E aj (Y:=ak [(some dB),(some aO)]) (ak.skip (ak.keep (ak.keep ak.aV))) (Per.aS eu (ah.cons fP (ah.cons fQ ah.nil)));refine zt ?_;refine yt ?_;refine qo ?_;refine ze 41 (.bool (decide (1074+nd q≤ex (nr q)))) rfl (xr (by rw[hE];omega)) (zj rfl (fun hc=>?_) (fun hc=>?_))
 ·
  have hc:=of_decide_eq_true hc;obtain ⟨k,hk⟩:∃k,k=ex (nr q)-(1074+nd q):=⟨_,rfl⟩;have hW:qw a=M*2^k:=al0 hval hc hk hMd;have hprod:m0*(2:Int)^k=ky a:=by
   rw[ky,hW,hm0];split
   · rw[Int.neg_mul,Int.natCast_mul,Int.natCast_pow];rfl
   · rw[Int.natCast_mul,Int.natCast_pow];rfl
  have hwl:=qW hf;refine ze 6 (.int .i64 ((k:Nat):Int)) rfl (by rw[hE];congr 1;omega) (aQ ?_);have OY:∀q9,(ak (km [])) q9→q9<(World.drew dL).heap.size→(ak [(some dB),(some aO)]) q9:=fun k h _=>(ak.none_) k h;refine yx (ak [(some dB),(some aO)]) (ak.grow (ak.grow ak.none_ (zg aD.lt)) (zg bJ.lt)) [⟨7,8,24,#[.bool false,.slice none 0 0]⟩] [] (xq [Fx.of (.agg #[.bool (decide ((2:Int)<0)),.slice A2 (limbs 2).length c2]),
   Fx.of (.int .i64 ((k:Nat):Int)),
   ⟨(Option Addr×Nat),fun (A3,c3)=>.agg #[.bool (decide (((k:Nat):Int)<0)),.slice A3 (limbs ((k:Nat):Int)).length c3],fun (A3,c3) b=>(aA b A3 (limbs ((k:Nat):Int)))⟩,
   ⟨(Option Addr×Nat),fun (A4,c4)=>.tuple #[.agg #[.bool (decide ((2:Int)^k<0)),.slice A4 (limbs ((2:Int)^k)).length c4],.int .i64 0],fun (A4,c4) b=>(aA b A4 (limbs ((2:Int)^k)))⟩,
   ⟨(Option Addr×Nat),fun (A4,c4)=>.tuple #[.agg #[.bool (decide ((2:Int)^k<0)),.slice A4 (limbs ((2:Int)^k)).length c4],.int .i64 0],fun (A4,c4) b=>(aA b A4 (limbs ((2:Int)^k)))⟩,
   ⟨(Option Addr×Nat),fun (A4,c4)=>.agg #[.bool (decide ((2:Int)^k<0)),.slice A4 (limbs ((2:Int)^k)).length c4],fun (A4,c4) b=>(aA b A4 (limbs ((2:Int)^k)))⟩,
   Fx.of (.int .i64 0),
   Fx.of undef,
   Fx.of undef,
   Fx.of (.int .i64 0)]) mixed rfl trivial (fun _ h=>by cases h) ?_ ?_
  · refine ⟨arm,arm,?_,?_,?_,?_,?_,?_,?_,arm,trivial⟩
    · exact QB
    · refine qh ?_;intro vs X wq K;have LE:=K.1;have XN:=K.2.1;obtain ⟨⟨A3,c3⟩,e2,k2⟩:=K.dep 2 rfl rfl rfl;refine vd 45 _ rfl e2 (zb av2 rfl ((Io k A2 A3 c2 c3 _ om (HF.on (E.drew.trans (LE.mono OY))).here.1.2 k2.here).mono ?_));rintro e w2 ⟨A4,c4,rfl,o4,hb⟩;exact ⟨_,rfl,hb,⟨(A4,c4),rfl,Per.own o4 XN⟩⟩
    · intro vs X wq K;obtain ⟨⟨A4,c4⟩,e3,k3⟩:=K.dep 3 rfl rfl rfl;refine vd 46 _ rfl e3 ?_;exact ynq rfl ⟨Below.refl _ _,⟨⟨A4,c4⟩,rfl,(k3.map (fun _ h=>h))⟩⟩
    · intro vs X wq K;obtain ⟨⟨A4,c4⟩,e4,k4⟩:=K.dep 4 rfl rfl rfl;refine vd 42 _ rfl e4 ?_;exact jk rfl rfl ⟨Below.refl _ _,⟨⟨A4,c4⟩,rfl,(k4.map (fun _ h=>h))⟩⟩
    · intro vs X wq K;obtain ⟨⟨A4,c4⟩,e4,k4⟩:=K.dep 4 rfl rfl rfl;refine vd 42 _ rfl e4 ?_;exact jk rfl rfl ⟨Below.refl _ _,Left.of rfl⟩
    · exact uY
    · refine ⟨_,_,_,_,_,rfl,rfl,rfl,kz,fun vs X wq K=>?_⟩;obtain ⟨⟨A4,c4⟩,e0,_⟩:=K.dep 5 rfl rfl rfl;exact ⟨vs 5,rfl,by rw[e0];rfl,by rw[e0];rfl⟩
  intro vs fM LE AO AL AF AA;have Aq:=bJ;have Ar:=aD;replace bJ:=bJ.drew.av LE ah.nil;replace aD:=aD.drew.av LE ah.nil;replace E:=E.drew.trans (LE.mono OY);obtain ⟨⟨A4,c4⟩,e5,k5⟩:=AL.2.2.2.2.2.1;obtain ⟨HF,LW,E⟩:=cZ HF LW E aj ((k5.map (fun _ h=>h):Per (ak [(some dB),(some aO)]) fM (fun b=>aA b A4 (limbs ((2:Int)^k)))));obtain ⟨dO,v0,y0,al2,dJ,cB,ey,wT⟩:=AF.1;cases ey
  obtain rfl:vs 5=v0:=Option.some.inj wT;rw[e5] at cB;have fT:Apart (some dO) (some dB):=Apart.of_lt (zg Aq.lt) dJ;have Xa:=fT.symm;have fU:Apart (some dO) (some aO):=Apart.of_lt (zg Ar.lt) dJ;have Xb:=fU.symm;obtain ⟨HF,LW,E⟩:=cZ HF LW E aj ((Per.aS cB (ah.cons fT (ah.cons fU ah.nil)):Per (ak [(some dB),(some aO)]) fM (fun b=>aB b dO 24 #[.bool (decide ((2:Int)^k<0)),.slice A4 (limbs ((2:Int)^k)).length c4])));have e7:=al2;refine vo (τ:=[(2,_),(3,_),(6,_),(7,_),(8,_),(9,.pointer (some ⟨dO,0,none⟩))]) ⟨rfl,rfl,rfl,rfl,rfl,congrArg some e7,trivial⟩ ?_;clear AL AF AA LE AO OY e5 e7 k5 Aq Ar;have hmul:∀(A B:Option Addr) (c d:Nat) (w:World),aA w A (limbs m0)→aA w B (limbs ((2:Int)^k))→Calls prog 94 #[.agg #[.bool (decide (m0<0)),.slice A (limbs m0).length c],.agg #[.bool (decide ((2:Int)^k<0)),.slice B (limbs ((2:Int)^k)).length d]] w (zx w (ky a) 0):=by
   intro A B c d w hx hy;have h:=aB6 A B c d w (ylv (by rw[hm0];split<;>omega)) (uZ om) hx hy;rw[hprod,PZ hwl,U5 hwl] at h;exact h
  refine zv ?_;refine za rfl (zb ai2 rfl ((hmul A1 A4 c1 c4 _ (HF.on E).here.1.1.1.1.2 (HF.on E).here.1.2).mono ?_));rintro e nS ⟨A5,c5,rfl,o5,hb⟩;refine ⟨_,rfl,?_⟩;have XC:∀q9,(ak [(some dB),(some aO)]) q9→q9<fM.heap.size:=(ak.grow (ak.grow ak.none_ (zg aD.lt)) (zg bJ.lt));have SC:=Nat.le_trans LW.size E.size;have Ec:=Ext.of_below hb No;replace bJ:=bJ.av Ec ah.nil;replace aD:=aD.av Ec ah.nil;replace E:=E.trans Ec.no;have hS:=SC;obtain ⟨HF,LW,E⟩:=cZ HF LW E aj (Per.bP o5 XC);refine zq ?_;refine kY ?_;intro fF Bx dN;replace bJ:=Bx;replace aD:=aD.av dN (ah.cons lg ah.nil);replace E:=E.step1 dN ak.head;obtain ⟨HF,LW,aj,E⟩:=dz HF LW E aj (Y:=ak [(some aO)]) (ak.skip (ak.keep ak.aV)) (Per.aS bJ (ah.cons kZ ah.nil));refine zv ?_;refine kX ?_;intro nT Bx aI;replace aD:=Bx;replace E:=E.step1 aI ak.head;refine zt ?_;exact ⟨A5,c5,rfl,((HF.on E).here.1.2).mono hS,(LW.step E aj).toBelow⟩
 ·
  have hc:=of_decide_eq_false hc;obtain ⟨k,hk⟩:∃k,k=1074+nd q-ex (nr q):=⟨_,rfl⟩;have hM:M=qw a*2^k:=al1 hval om hk hMd;have aQ0:k≤52:=by
   rcases Nat.lt_or_ge 52 k with h | h
   · exfalso
     have h1:2^53≤2^k:=Nat.pow_le_pow_right de om;have h2:1*2^k≤qw a*2^k:=Nat.mul_le_mul_right _ om;omega
   · exact h
  refine qo ?_;refine ze 57 (.bool false) rfl (by rw[hE,decide_eq_false om]<;>rfl) (ye ?_);have OY:∀q9,(ak (km [])) q9→q9<(World.drew dL).heap.size→(ak [(some dB),(some aO)]) q9:=fun k h _=>(ak.none_) k h;refine yx (ak [(some dB),(some aO)]) (ak.grow (ak.grow ak.none_ (zg aD.lt)) (zg bJ.lt)) [⟨8,9,24,#[.bool false,.slice none 0 0]⟩] [] (xq [Fx.of (.agg #[.bool (decide ((2:Int)<0)),.slice A2 (limbs 2).length c2]),
   Fx.of (.int .i64 ((oO T)-53)),
   Fx.of (.int .i64 ((k:Nat):Int)),
   ⟨(Option Addr×Nat),fun (A3,c3)=>.agg #[.bool (decide (((k:Nat):Int)<0)),.slice A3 (limbs ((k:Nat):Int)).length c3],fun (A3,c3) b=>(aA b A3 (limbs ((k:Nat):Int)))⟩,
   ⟨(Option Addr×Nat),fun (A4,c4)=>.tuple #[.agg #[.bool (decide ((2:Int)^k<0)),.slice A4 (limbs ((2:Int)^k)).length c4],.int .i64 0],fun (A4,c4) b=>(aA b A4 (limbs ((2:Int)^k)))⟩,
   ⟨(Option Addr×Nat),fun (A4,c4)=>.tuple #[.agg #[.bool (decide ((2:Int)^k<0)),.slice A4 (limbs ((2:Int)^k)).length c4],.int .i64 0],fun (A4,c4) b=>(aA b A4 (limbs ((2:Int)^k)))⟩,
   ⟨(Option Addr×Nat),fun (A4,c4)=>.agg #[.bool (decide ((2:Int)^k<0)),.slice A4 (limbs ((2:Int)^k)).length c4],fun (A4,c4) b=>(aA b A4 (limbs ((2:Int)^k)))⟩,
   Fx.of (.int .i64 0),
   Fx.of undef,
   Fx.of undef,
   Fx.of (.int .i64 0)]) mixed rfl trivial (fun _ h=>by cases h) ?_ ?_
  · refine ⟨arm,arm,?_,?_,?_,?_,?_,?_,?_,?_,arm,trivial⟩
    · refine qh ?_;intro vs X wq K;exact sW rfl (yr om) ⟨Below.refl _ _,Left.of ((by rw[hE,hk];congr 1;omega:(.int .i64 (0-((oO T)-53)):Value)=_))⟩
    · exact QB
    · exact ac8
    · exact ac5
    · exact ac6
    · exact ac4
    · exact uY
    · refine ⟨_,_,_,_,_,rfl,rfl,rfl,kz,fun vs X wq K=>?_⟩;exact QA
  intro vs Qz LE AO AL AF AA;have Aq:=bJ;have Ar:=aD;replace bJ:=bJ.drew.av LE ah.nil;replace aD:=aD.drew.av LE ah.nil;replace E:=E.drew.trans (LE.mono OY);obtain ⟨⟨A4,c4⟩,e6,k6⟩:=AL.2.2.2.2.2.2.1;obtain ⟨HF,LW,E⟩:=cZ HF LW E aj ((k6.map (fun _ h=>h):Per (ak [(some dB),(some aO)]) Qz (fun b=>aA b A4 (limbs ((2:Int)^k)))));obtain ⟨K3,v0,y0,aL5,QF,K4,ey,wT⟩:=AF.1;cases ey
  obtain rfl:vs 6=v0:=Option.some.inj wT;rw[e6] at K4;have Iy:Apart (some K3) (some dB):=Apart.of_lt (zg Aq.lt) QF;have aGx:=Iy.symm;have Iz:Apart (some K3) (some aO):=Apart.of_lt (zg Ar.lt) QF;have aGj:=Iz.symm;obtain ⟨HF,LW,E⟩:=cZ HF LW E aj ((Per.aS K4 (ah.cons Iy (ah.cons Iz ah.nil)):Per (ak [(some dB),(some aO)]) Qz (fun b=>aB b K3 24 #[.bool (decide ((2:Int)^k<0)),.slice A4 (limbs ((2:Int)^k)).length c4])));have e8:=aL5;refine vo (τ:=[(2,_),(3,_),(7,_),(11,.pointer (some ⟨K3,0,none⟩))]) ⟨rfl,rfl,rfl,congrArg some e8,trivial⟩ ?_;clear AL AF AA LE AO OY e6 e8 k6 Aq Ar;refine Ak ?_;rintro e Fb ⟨A5,c5,B6,c6,r,rfl,o5,hb⟩;refine ⟨_,rfl,?_⟩;have XC:∀q9,(ak [(some dB),(some aO)]) q9→q9<Qz.heap.size:=(ak.grow (ak.grow ak.none_ (zg aD.lt)) (zg bJ.lt));have SC:=Nat.le_trans LW.size E.size;have Ec:=Ext.of_below hb No;replace bJ:=bJ.av Ec ah.nil;replace aD:=aD.av Ec ah.nil;replace E:=E.trans Ec.no;have hS:=SC;obtain ⟨HF,LW,E⟩:=cZ HF LW E aj (Per.bP o5 XC);refine ye ?_;refine yn ?_;intro al4 w24 K5 Aw Xh;have IB:Apart (some al4) (some dB):=Apart.of_lt (zg bJ.lt) Xh;have Xi:=IB.symm;have IC:Apart (some al4) (some aO):=Apart.of_lt (zg aD.lt) Xh;have Xj:=IC.symm;replace bJ:=bJ.av Aw ah.nil;replace aD:=aD.av Aw ah.nil;obtain ⟨Xh,HF,E,aj⟩:=aZ HF LW E aj Aw Xh;refine yn ?_;intro K6 w26 vB iq Ay;have Az:Apart (some K6) (some al4):=Apart.of_lt (zg K5.lt) Ay;have QG:=Az.symm;have IE:Apart (some K6) (some dB):=Apart.of_lt (zg bJ.lt) Ay;have Xk:=IE.symm;have IG:Apart (some K6) (some aO):=Apart.of_lt (zg aD.lt) Ay;have Xl:=IG.symm;replace K5:=K5.av iq ah.nil;replace bJ:=bJ.av iq ah.nil;replace aD:=aD.av iq ah.nil;obtain ⟨Ay,HF,E,aj⟩:=aZ HF LW E aj iq Ay;refine zp (vu kz rfl rfl K5 rfl rfl (Nat.le_of_ble_eq_true rfl) ?_);intro w27 Bx Aw;replace K5:=Bx;replace vB:=vB.av Aw (ah.cons Az ah.nil);replace bJ:=bJ.av Aw (ah.cons Xi ah.nil);replace aD:=aD.av Aw (ah.cons Xj ah.nil);replace E:=E.step1 Aw (ak.tail ak.head);obtain ⟨HF,LW,aj,E⟩:=dz HF LW E aj (Y:=ak [(some K6),(some dB),(some aO)]) (ak.keep (ak.skip (ak.keep (ak.keep ak.aV)))) (Per.aS K5 (ah.cons QG (ah.cons IB (ah.cons IC ah.nil))));refine zp (vu kz rfl rfl vB rfl rfl (Nat.le_of_ble_eq_true rfl) ?_);intro w28 Bx iq;replace vB:=Bx;replace bJ:=bJ.av iq (ah.cons Xk ah.nil);replace aD:=aD.av iq (ah.cons Xl ah.nil);replace E:=E.step1 iq ak.head;obtain ⟨HF,LW,aj,E⟩:=dz HF LW E aj (Y:=ak [(some dB),(some aO)]) (ak.skip (ak.keep (ak.keep ak.aV))) (Per.aS vB (ah.cons IE (ah.cons IG ah.nil)));refine zt ?_;refine kX ?_;intro w29 Bx aI;exact ac7
theorem K7:Calls prog 43 #[.int .u64 ((a:Nat):Int)] w (zx w (ky a) 0):=by
 by_cases h0:qw a=0
 · exact Fa w a ha hf h0
 · exact KZ w a ha hf h0
end
end
end Go.Proofs.YtmnmebdmpigddaaGreatDoor
namespace Go.Proofs.YtmnmebdmpigddaaGreatDoor
open Go.RowKit Proofs.Tryz
theorem lC {P Q:Prop} (k:Q) (h:(Unit→Q)→P:=by
 intro zK;refine zr ?_;refine ztx ?_;refine yu ?_;refine za rfl (qex rfl rfl (aQ ?_));refine zd 17 (.bool false) rfl (by rw[oc,hn]<;>rfl) (aQ ?_);exact zK ()):P:=h fun _=>k
attribute [local irreducible] OW RS CW EW
noncomputable def QH (a:Nat) (i:Int):Int:=if iH (ky a) i≠0 then iH (ky a) i else if Ad a then (if ng a then -1 else 1) else 0
theorem K9 {a q:Nat} (hf:rg a<9218868437227405312) (h1:vl q=qw a*2^1074) (h2:q≤rg a):kJ a (Ieee.double.word (ng a) q)=(if Ad a then (if ng a then -1 else 1) else 0)∧xw a (Ieee.double.word (ng a) q)=true:=by
 obtain ⟨w1,w2,w3⟩:=vv (ng a) q om;have hn:bO (Ieee.double.word (ng a) q)=false:=kh (by rw[w1];omega);have ho:xw a (Ieee.double.word (ng a) q)=true:=by rw[xw,kh hf,hn];rfl
 refine ⟨?_,ho⟩;have hl:Ad a=decide (q<rg a):=by
  refine (WY ?_).symm;rw[Qo,←h1];constructor
  · intro h e;have:=ZQ h;omega
  · intro h;rcases Nat.lt_or_ge q (rg a) with h' | h'
    · exact h'
    · exact absurd (congrArg vl (show rg a=q from om)) h
 rw[kJ,if_pos ho,hl];obtain ⟨p1,p2⟩:=yuk a;obtain ⟨p3,p4⟩:=yuk (Ieee.double.word (ng a) q);rw[w1,w2] at p3 p4;unfold Qc;cases hs:ng a with
 | true=>
  rw[hs] at p3;rw[p1 hs,p3 rfl];by_cases h:q<rg a
  · rw[decide_eq_true h,if_pos om];rfl
  · rw[decide_eq_false h,if_neg om,if_neg om];rfl
 | false=>
  rw[hs] at p4;rw[p2 hs,p4 rfl];by_cases h:q<rg a
  · rw[decide_eq_true h,if_neg om,if_pos om];rfl
  · rw[decide_eq_false h,if_neg om,if_neg om];rfl
theorem Xm (s:Bool):floatToIntVal .f64 (Ieee.double.word s 4607182418800017408) .i64=some (if s then -1 else 1):=by cases s<;>decide +kernel
def Xn (a:Nat):Int:=if ng a then -1 else 1
section
variable (w:World) (a:Nat) (ha:a<18446744073709551616)
include ha
section
variable (n1:Bool) (A:Option Addr) (c:Nat) (xs:List Nat) (hx:aA w A xs) (hl:xs.length≤9223372036854775807)
include hx hl
theorem Fg (hn:bO a=true):Calls prog 118 #[.int .u64 ((a:Nat):Int),.agg #[.bool n1,.slice A xs.length c]] w (aH w (.tuple #[.int .i64 0,.bool false])):=by
 have _:=And.intro ha (And.intro hx hl);refine zc func118 rfl ntmps118 rfl ?_;have LW:=aF (No) w;have aj:=bD (No) w;have E:=aF (No) w;refine zf ?_;intro aO w2 aD aI aW;have aW:_≤aO:=Nat.le_trans E.size aW;have aL6:=Nat.le_trans LW.size aW;replace E:=E.trans aI.no;replace E:=E.cons (some aO);replace aj:=ak.grow aj (fun k e=>Or.inr (Nat.le_trans LW.size ((ZJ aW) k e)));replace LW:=LW.step E aj;have SB:∀q9,No q9→ak [(some aO)] q9:=(ak.skip ak.aV);replace aj:=fun k h=>aj k (SB k h);clear SB;replace E:=aF (No) w2;refine zr ?_;refine ztx ?_;refine yu ?_;refine za rfl (qex rfl rfl (aQ ?_));refine zd 17 (.bool true) rfl (by rw[oc,hn]<;>rfl) (qA ?_);exact vj
theorem Fh (hn:bO a=false) (hg:zm n1 xs=false):Calls prog 118 #[.int .u64 ((a:Nat):Int),.agg #[.bool n1,.slice A xs.length c]] w (aH w (.tuple #[.int .i64 0,.bool false])):=by
 have _:=ha;refine zc func118 rfl ntmps118 rfl ?_;obtain ⟨HF,LW,aj,E⟩:=bg w;replace HF:=HF.and (Per.ay hx);refine zf ?_;intro aO w2 aD aI aW;obtain ⟨HF,LW,E⟩:=aK HF LW E aj aD aI;refine lC ?_;refine bV rfl (zb yC rfl ((zw n1 c _ A xs hl (HF.on E).here.1.2).mono ?_));rintro e w3 ⟨rfl,hb⟩;refine ⟨_,rfl,?_⟩;replace E:=bQ E hb;refine zd 19 (.bool false) rfl (by rw[hg]<;>rfl) (go ?_);exact vj
end
section
variable (i:Int) (A:Option Addr) (c:Nat) (hi:i.natAbs<au^30) (hx:aA w A (limbs i)) (hn:bO a=false)
include hi hx hn
theorem Fj (kQ:rg a=9218868437227405312):Calls prog 118 #[.int .u64 ((a:Nat):Int),.agg #[.bool (decide (i<0)),.slice A (limbs i).length c]] w (aH w (.tuple #[.int .i64 (Xn a),.bool true])):=by
 refine zc func118 rfl ntmps118 rfl ?_;obtain ⟨HF,LW,aj,E⟩:=bg w;replace HF:=HF.and (Per.ay hx);refine zf ?_;intro aO w2 aD aI aW;obtain ⟨HF,LW,E⟩:=aK HF LW E aj aD aI;refine lC ?_;refine bV rfl (zb yC rfl ((Na A c _ hi (HF.on E).here.1.2).mono ?_));rintro e w3 ⟨rfl,hb⟩;refine ⟨_,rfl,?_⟩;replace E:=bQ E hb;refine yq ?_;refine zh rfl gY rfl (ju _ a ha) E fun w4 E=>(zd 23 (.bool true) rfl (by rw[decide_eq_true kQ]<;>rfl) (zt ?_));refine zh rfl av4 rfl (uT _ 4607182418800017408 de a ha) E fun w5 E=>(zd 25 (.float .f64 (Ieee.double.word (ng a) 4607182418800017408)) rfl (by rw[show rg 4607182418800017408=4607182418800017408 from de]<;>rfl) (za rfl (tZ (z:=Xn a) underlying3 (by rw[oG];rfl) rfl (Xm (ng a)) (zr ?_))));exact vj
theorem Fp (hf:rg a<9218868437227405312):Calls prog 118 #[.int .u64 ((a:Nat):Int),.agg #[.bool (decide (i<0)),.slice A (limbs i).length c]] w (aH w (.tuple #[.int .i64 (QH a i),.bool true])):=by
 obtain ⟨q,hq1,hq2,hq3⟩:=yjq hf;obtain ⟨t1,t2⟩:=K9 hf hq1 hq2;rw[←hq3] at t1 t2;have hbr:qz (ot .zero a)=ot .zero a:=K8 (kh (by rw[hq3,(vv (ng a) q om).1];omega));refine zc func118 rfl ntmps118 rfl ?_;obtain ⟨HF,LW,aj,E⟩:=bg w;replace HF:=HF.and (Per.ay hx);refine zf ?_;intro aO w2 aD aI aW;obtain ⟨HF,LW,E⟩:=aK HF LW E aj aD aI;refine lC ?_;refine bV rfl (zb yC rfl ((Na A c _ hi (HF.on E).here.1.2).mono ?_));rintro e w3 ⟨rfl,hb⟩;refine ⟨_,rfl,?_⟩;replace E:=bQ E hb;refine yq ?_;refine zh rfl gY rfl (ju _ a ha) E fun w4 E=>(zd 23 (.bool false) rfl (by rw[decide_eq_false om]<;>rfl) (yu ?_));refine za rfl (zb aI5 rfl ((K7 _ a ha hf).mono ?_));rintro e w5 ⟨A2,c2,rfl,o2,hb⟩;refine ⟨_,rfl,?_⟩;have XC:∀q9,(No) q9→q9<w4.heap.size:=ak.none_;replace E:=bQ E hb;obtain ⟨HF,LW,E⟩:=cZ HF LW E aj (Per.own o2 XC);refine zq ?_;refine yn ?_;intro gb6 w7 QI Eb6 Gb6;obtain ⟨Gb6,HF,E,aj⟩:=aZ HF LW E aj Eb6 Gb6;refine zp (vu kz rfl rfl QI rfl rfl (Nat.le_of_ble_eq_true rfl) ?_);intro w8 Bx Eb6;replace QI:=Bx;replace E:=E.step1 Eb6 ak.head;obtain ⟨HF,LW,aj,E⟩:=dz HF LW E aj (Y:=No) (ak.skip ak.aV) (Per.aS QI ah.nil);refine yu ?_;refine zh rfl ai0 rfl (aB7 A2 A c2 c _ (qW hf) hi (HF.on E).here.1.2 (HF.on E).here.1.1.1.2) E fun w9 E=>(qo ?_);refine zj rfl (fun hc=>?_) (fun hc=>?_)
 ·
  have hc:=bne_iff_ne.1 hc;refine zy ?_;exact ⟨by rw[QH,if_pos hc];rfl,(LW.step E aj).toBelow⟩
 ·
  have hc:iH (ky a) i=0:=by simpa using hc
  refine zt ?_;refine za rfl (zb av1 rfl ((qZ _ a hf).mono ?_));rintro e dI ⟨rfl,hb⟩;refine ⟨_,rfl,?_⟩;replace E:=bQ E hb;refine zh rfl VD rfl (qhv _ (ot .zero a)) E fun dS E=>(zd 42 (.int .u64 ((ot .zero a:Nat):Int)) rfl (by rw[hbr]<;>rfl) (zh rfl Z7 rfl (qM _ a (ot .zero a)) E fun eB E=>(qA ?_)));exact ⟨by rw[QH,if_neg (by rw[hc];decide),←t1];rfl,(LW.step E aj).toBelow⟩
end
end
def vC (a:Nat) (n1:Bool) (xs:List Nat):Bool:=!(bO a)&&zm n1 xs
noncomputable def wW (a:Nat) (n1:Bool) (xs:List Nat):Int:=if vC a n1 xs then (if rg a=9218868437227405312 then Xn a else QH a (num n1 xs)) else 0
section
variable (w:World) (a:Nat) (ha:a<18446744073709551616) (n1:Bool) (A:Option Addr) (c:Nat) (xs:List Nat) (hx:aA w A xs) (hl:xs.length≤9223372036854775807)
include ha hx hl
theorem lD:Calls prog 118 #[.int .u64 ((a:Nat):Int),.agg #[.bool n1,.slice A xs.length c]] w (aH w (.tuple #[.int .i64 (wW a n1 xs),.bool (vC a n1 xs)])):=by
 cases hn:bO a with
 | true=>
  have h:vC a n1 xs=false:=by rw[vC,hn];rfl
  rw[wW,h,if_neg de];exact Fg w a ha n1 A c xs hx hl hn
 | false=>
  cases hg:zm n1 xs with
  | false=>
   have h:vC a n1 xs=false:=by rw[vC,hg,Bool.and_false]
   rw[wW,h,if_neg de];exact Fh w a ha n1 A c xs hx hl hn hg
  | true=>
   have h:vC a n1 xs=true:=by rw[vC,hn,hg];rfl
   rw[wW,h,if_pos rfl];obtain ⟨i,rfl,rfl,hi⟩:=qxk hg;rw[jz];by_cases kQ:rg a=9218868437227405312
   · rw[if_pos kQ];exact Fj w a ha i A c hi hx hn kQ
   · rw[if_neg kQ];have h1:=of_decide_eq_false hn;exact Fp w a ha i A c hi hx hn om
end
end Go.Proofs.YtmnmebdmpigddaaGreatDoor
namespace Go.Proofs.YtmnmebdmpigddaaGreatDoor
open Go.RowKit Proofs.Tryz
theorem yyk {P Q:Prop} (k:Q) (h:(Unit→Q)→P:=by
 intro zK;refine za rfl (qdk u24 rfl kz rfl (HF.on E).here.2 rfl rfl ?_);exact zK ()):P:=h fun _=>k
theorem qoq {P:Prop} (h:P:=by
 refine OI ?_;exact fG):P:=h
theorem Xr {P:Prop} (h:P:=by
 refine yu ?_;exact fG):P:=h
theorem QK {P:Prop} (h:P:=by
 refine yq ?_;exact fG):P:=h
theorem ac9 {P:Prop} (h:P:=by
 refine bV rfl (ynz rfl rfl (ye ?_));refine je rfl (fun h3=>?_) (fun h3=>?_)
 ·
  refine yu ?_;exact fG
 ·
  refine Dt ?_;exact acz):P:=h
theorem acz {P:Prop} (h:P:=by
 refine zz 51 rfl (fun h4=>?_) (fun h4=>?_)
 ·
  refine zr ?_;refine zz 58 rfl (fun h5=>?_) (fun h5=>?_)
  ·
   replace h5:=eq_of_beq h5;refine zu ?_;refine bV rfl (ynk u9 rfl (yu ?_));exact fG
  ·
   replace h5:=beq_eq_false_iff_ne.1 h5;refine yq ?_;exact fG
 ·
  refine Dt ?_;exact fG):P:=h
theorem fG {P:Prop} (h:P:=by
 exact ⟨by refine congrArg (fun z=>Ending.returned (.bool z)) ?_;first | (simp_all[PV.good,gr0];done) | (simp_all[PV.good,gr0];omega),(LW.step E aj).toBelow⟩):P:=h
attribute [local irreducible] OW RS CW EW
theorem gr0 {n:Nat} (h:0<n):n≠0:=om
theorem zhz {s:ByteArray} (h:s.toList= []):s.size=0:=by
 have h1:=congrArg List.length h;rw[ByteArray.toList_eq] at h1;exact h1
section
variable (w:World) (k:Int) (yes neg:Bool) (A B:Option Addr) (xs:List Nat) (c bits ni d:Nat) (s:ByteArray) (hx:aA w A xs) (hl:xs.length≤9223372036854775807)
include hx hl
theorem Lb:Calls prog 28 #[.agg #[.int .i64 k,.bool yes,.bool neg,.slice A xs.length c,.int .u64 ((bits:Nat):Int),.string s,.slice B ni d]] w (aH w (.bool (PV.good ⟨k,yes,neg,xs,bits,s,ni⟩))):=by
 refine zc func28 rfl ntmps28 rfl ?_;obtain ⟨HF,LW,aj,E⟩:=bg w;replace HF:=HF.and (Per.ay hx);refine zf ?_;intro aO w2 aD aI aW;obtain ⟨HF,LW,E⟩:=aK HF LW E aj aD aI;refine jm ?_;refine je rfl (fun h1=>?_) (fun h1=>?_)
 ·
  replace h1:=of_decide_eq_true h1;exact Xr
 ·
  replace h1:=of_decide_eq_false h1;refine qo ?_;refine zz 12 rfl (fun h2=>?_) (fun h2=>?_)
  ·
   refine VK ?_;refine je rfl (fun h3=>?_) (fun h3=>?_)
   ·
    replace h3:=eq_of_beq h3;subst h3;refine zt ?_;refine zz 26 rfl (fun h4=>?_) (fun h4=>?_)
    ·
     refine zq ?_;refine zz 29 rfl (fun h5=>?_) (fun h5=>?_)
     ·
      replace h5:=eq_of_beq h5;refine zv ?_;refine zz 34 rfl (fun h6=>?_) (fun h6=>?_)
      ·
       replace h6:=eq_of_beq h6;exact QK
      ·
       replace h6:=beq_eq_false_iff_ne.1 h6;exact QK
     ·
      replace h5:=beq_eq_false_iff_ne.1 h5;refine qA ?_;exact fG
    ·
     refine qrq ?_;exact fG
   ·
    replace h3:=beq_eq_false_iff_ne.1 h3;refine zt ?_;refine je rfl (fun h7=>?_) (fun h7=>?_)
    ·
     replace h7:=eq_of_beq h7;subst h7;refine ye ?_;refine zz 42 rfl (fun h8=>?_) (fun h8=>?_)
     ·
      replace h8:=eq_of_beq h8;refine zv ?_;refine zz 47 rfl (fun h9=>?_) (fun h9=>?_)
      ·
       replace h9:=eq_of_beq h9;exact QK
      ·
       replace h9:=beq_eq_false_iff_ne.1 h9;exact QK
     ·
      replace h8:=beq_eq_false_iff_ne.1 h8;refine qA ?_;exact fG
    ·
     replace h7:=beq_eq_false_iff_ne.1 h7;refine zt ?_;refine je rfl (fun h10=>?_) (fun h10=>?_)
     ·
      replace h10:=eq_of_beq h10;subst h10;refine zq ?_;refine yyk ?_;refine zh rfl yC rfl (zw neg c _ A xs hl (HF.on E).here.1.2) E fun w3 E=>(aQ ?_);refine zz 57 rfl (fun h11=>?_) (fun h11=>?_)
      ·
       refine zv ?_;refine zz 62 rfl (fun h12=>?_) (fun h12=>?_)
       ·
        refine zv ?_;refine zz 67 rfl (fun h13=>?_) (fun h13=>?_)
        ·
         replace h13:=eq_of_beq h13;exact QK
        ·
         replace h13:=beq_eq_false_iff_ne.1 h13;exact QK
       ·
        refine qA ?_;exact fG
      ·
       refine jL ?_;exact fG
     ·
      replace h10:=beq_eq_false_iff_ne.1 h10;refine zt ?_;refine je rfl (fun h14=>?_) (fun h14=>?_)
      ·
       replace h14:=eq_of_beq h14;subst h14;refine ye ?_;refine zz 75 rfl (fun h15=>?_) (fun h15=>?_)
       ·
        replace h15:=eq_of_beq h15;refine zv ?_;refine zz 80 rfl (fun h16=>?_) (fun h16=>?_)
        ·
         exact QK
        ·
         exact QK
       ·
        replace h15:=beq_eq_false_iff_ne.1 h15;refine qA ?_;exact fG
      ·
       replace h14:=beq_eq_false_iff_ne.1 h14;refine zt ?_;refine je rfl (fun h17=>?_) (fun h17=>?_)
       ·
        replace h17:=eq_of_beq h17;subst h17;refine ye ?_;refine zz 88 rfl (fun h18=>?_) (fun h18=>?_)
        ·
         replace h18:=eq_of_beq h18;refine zv ?_;refine zz 93 rfl (fun h19=>?_) (fun h19=>?_)
         ·
          refine zv ?_;refine zz 98 rfl (fun h20=>?_) (fun h20=>?_)
          ·
           replace h20:=eq_of_beq h20;refine zu ?_;refine bV rfl (ynk u9 rfl (qo ?_));exact fG
          ·
           replace h20:=beq_eq_false_iff_ne.1 h20;refine jm ?_;exact fG
         ·
          refine Ed ?_;exact fG
        ·
         replace h18:=beq_eq_false_iff_ne.1 h18;refine jM ?_;exact fG
       ·
        replace h17:=beq_eq_false_iff_ne.1 h17;refine zy ?_;exact fG
  ·
   refine VK ?_;refine je rfl (fun h21=>?_) (fun h21=>?_)
   ·
    replace h21:=eq_of_beq h21;subst h21;refine zt ?_;refine zz 26 rfl (fun h22=>?_) (fun h22=>?_)
    ·
     refine qrq ?_;exact fG
    ·
     refine qrq ?_;exact fG
   ·
    replace h21:=beq_eq_false_iff_ne.1 h21;refine zt ?_;refine je rfl (fun h23=>?_) (fun h23=>?_)
    ·
     replace h23:=eq_of_beq h23;subst h23;exact qoq
    ·
     replace h23:=beq_eq_false_iff_ne.1 h23;refine zt ?_;refine je rfl (fun h24=>?_) (fun h24=>?_)
     ·
      replace h24:=eq_of_beq h24;subst h24;refine zq ?_;refine yyk ?_;refine zh rfl yC rfl (zw neg c _ A xs hl (HF.on E).here.1.2) E fun w4 E=>(aQ ?_);refine zz 57 rfl (fun h25=>?_) (fun h25=>?_)
      ·
       refine zv ?_;refine zz 62 rfl (fun h26=>?_) (fun h26=>?_)
       ·
        refine zv ?_;refine zz 67 rfl (fun h27=>?_) (fun h27=>?_)
        ·
         replace h27:=eq_of_beq h27;exact QK
        ·
         replace h27:=beq_eq_false_iff_ne.1 h27;exact QK
       ·
        refine qA ?_;exact fG
      ·
       refine jL ?_;exact fG
     ·
      replace h24:=beq_eq_false_iff_ne.1 h24;refine zt ?_;refine je rfl (fun h28=>?_) (fun h28=>?_)
      ·
       replace h28:=eq_of_beq h28;subst h28;exact qoq
      ·
       replace h28:=beq_eq_false_iff_ne.1 h28;refine zt ?_;refine je rfl (fun h29=>?_) (fun h29=>?_)
       ·
        replace h29:=eq_of_beq h29;subst h29;refine MX ?_;exact fG
       ·
        replace h29:=beq_eq_false_iff_ne.1 h29;refine zy ?_;exact fG
theorem rg0:Calls prog 12 #[.agg #[.int .i64 0,.bool yes,.bool neg,.slice A xs.length c,.int .u64 ((bits:Nat):Int),.string s,.slice B ni d]] w (aH w (.bool (PV.good ⟨0,yes,neg,xs,bits,s,ni⟩))):=by
 have _:=hx;have _:=hl;have hs0:s.toList= []→s.size=0:=zhz;refine zc func12 rfl ntmps12 rfl ?_;obtain ⟨HF,LW,aj,E⟩:=bg w;replace HF:=HF.and (Per.ay hx);refine zf ?_;intro aO w2 aD aI aW;obtain ⟨HF,LW,E⟩:=aK HF LW E aj aD aI;refine jM ?_;refine je rfl (fun h1=>?_) (fun h1=>?_)
 ·
  exact Xr
 ·
  refine gf ?_;refine zz 24 rfl (fun h2=>?_) (fun h2=>?_)
  ·
   refine yJ ?_;exact fG
  ·
   refine zy ?_;refine zz 34 rfl (fun h3=>?_) (fun h3=>?_)
   ·
    exact qoq
   ·
    refine zt ?_;refine bV rfl (ynz rfl rfl (ye ?_));refine je rfl (fun h4=>?_) (fun h4=>?_)
    ·
     exact Xr
    ·
     refine Dt ?_;refine zz 51 rfl (fun h5=>?_) (fun h5=>?_)
     ·
      refine zr ?_;refine zz 58 rfl (fun h6=>?_) (fun h6=>?_)
      ·
       replace h6:=eq_of_beq h6;refine zu ?_;refine bV rfl (ynk u9 rfl ?_);exact Xr
      ·
       replace h6:=beq_eq_false_iff_ne.1 h6;exact QK
     ·
      refine Dt ?_;exact fG
theorem rg1:Calls prog 12 #[.agg #[.int .i64 1,.bool yes,.bool neg,.slice A xs.length c,.int .u64 ((bits:Nat):Int),.string s,.slice B ni d]] w (aH w (.bool (PV.good ⟨1,yes,neg,xs,bits,s,ni⟩))):=by
 have _:=hx;have _:=hl;have hs0:s.toList= []→s.size=0:=zhz;refine zc func12 rfl ntmps12 rfl ?_;obtain ⟨HF,LW,aj,E⟩:=bg w;replace HF:=HF.and (Per.ay hx);refine zf ?_;intro aO w2 aD aI aW;obtain ⟨HF,LW,E⟩:=aK HF LW E aj aD aI;refine jM ?_;refine je rfl (fun h1=>?_) (fun h1=>?_)
 ·
  exact Xr
 ·
  refine VK ?_;refine zz 34 rfl (fun h2=>?_) (fun h2=>?_)
  ·
   exact qoq
  ·
   refine zt ?_;exact ac9
theorem rg2:Calls prog 12 #[.agg #[.int .i64 2,.bool yes,.bool neg,.slice A xs.length c,.int .u64 ((bits:Nat):Int),.string s,.slice B ni d]] w (aH w (.bool (PV.good ⟨2,yes,neg,xs,bits,s,ni⟩))):=by
 have _:=hx;have _:=hl;have hs0:s.toList= []→s.size=0:=zhz;refine zc func12 rfl ntmps12 rfl ?_;obtain ⟨HF,LW,aj,E⟩:=bg w;replace HF:=HF.and (Per.ay hx);refine zf ?_;intro aO w2 aD aI aW;obtain ⟨HF,LW,E⟩:=aK HF LW E aj aD aI;refine jM ?_;refine je rfl (fun h1=>?_) (fun h1=>?_)
 ·
  exact Xr
 ·
  refine gf ?_;refine zz 24 rfl (fun h2=>?_) (fun h2=>?_)
  ·
   refine yJ ?_;exact fG
  ·
   refine zy ?_;refine zz 34 rfl (fun h3=>?_) (fun h3=>?_)
   ·
    exact qoq
   ·
    refine zt ?_;refine bV rfl (ynz rfl rfl (ye ?_));refine je rfl (fun h4=>?_) (fun h4=>?_)
    ·
     exact Xr
    ·
     refine qA ?_;refine yyk ?_;refine zh rfl aI4 rfl (JY neg c _ A xs hl (HF.on E).here.1.2) E fun w3 E=>(zv ?_);exact fG
theorem rg3:Calls prog 12 #[.agg #[.int .i64 3,.bool yes,.bool neg,.slice A xs.length c,.int .u64 ((bits:Nat):Int),.string s,.slice B ni d]] w (aH w (.bool (PV.good ⟨3,yes,neg,xs,bits,s,ni⟩))):=by
 have _:=hx;have _:=hl;have hs0:s.toList= []→s.size=0:=zhz;refine zc func12 rfl ntmps12 rfl ?_;obtain ⟨HF,LW,aj,E⟩:=bg w;replace HF:=HF.and (Per.ay hx);refine zf ?_;intro aO w2 aD aI aW;obtain ⟨HF,LW,E⟩:=aK HF LW E aj aD aI;refine jM ?_;refine je rfl (fun h1=>?_) (fun h1=>?_)
 ·
  exact Xr
 ·
  refine gf ?_;refine zz 24 rfl (fun h2=>?_) (fun h2=>?_)
  ·
   refine yJ ?_;exact fG
  ·
   refine qA ?_;exact ac9
theorem rg4:Calls prog 12 #[.agg #[.int .i64 4,.bool yes,.bool neg,.slice A xs.length c,.int .u64 ((bits:Nat):Int),.string s,.slice B ni d]] w (aH w (.bool (PV.good ⟨4,yes,neg,xs,bits,s,ni⟩))):=by
 have _:=hx;have _:=hl;have hs0:s.toList= []→s.size=0:=zhz;refine zc func12 rfl ntmps12 rfl ?_;obtain ⟨HF,LW,aj,E⟩:=bg w;replace HF:=HF.and (Per.ay hx);refine zf ?_;intro aO w2 aD aI aW;obtain ⟨HF,LW,E⟩:=aK HF LW E aj aD aI;refine jM ?_;refine je rfl (fun h1=>?_) (fun h1=>?_)
 ·
  exact Xr
 ·
  refine gf ?_;refine zz 24 rfl (fun h2=>?_) (fun h2=>?_)
  ·
   refine yJ ?_;exact fG
  ·
   refine zy ?_;refine zz 34 rfl (fun h3=>?_) (fun h3=>?_)
   ·
    exact qoq
   ·
    refine yJ ?_;exact acz
theorem rgx (hk:k<0∨4<k):Calls prog 12 #[.agg #[.int .i64 k,.bool yes,.bool neg,.slice A xs.length c,.int .u64 ((bits:Nat):Int),.string s,.slice B ni d]] w (aH w (.bool (PV.good ⟨k,yes,neg,xs,bits,s,ni⟩))):=by
 have _:=hx;have _:=hl;have e:PV.good ⟨k,yes,neg,xs,bits,s,ni⟩=false:=by unfold PV.good;simp only[];rw[if_neg om,if_neg om,if_neg om,if_neg om,if_neg om,Bool.and_false]
 rw[e];refine zc func12 rfl ntmps12 rfl ?_;obtain ⟨HF,LW,aj,E⟩:=bg w;refine zf ?_;intro aO w2 aD aI aW;obtain ⟨HF,LW,E⟩:=aK HF LW E aj aD aI;refine zy ?_;by_cases q0:k<0
 ·
  refine zd 6 (.bool true) rfl (by rw[decide_eq_true q0]<;>rfl) (jL ?_);exact vj
 ·
  refine zd 6 (.bool false) rfl (by rw[decide_eq_false q0]<;>rfl) (zv ?_);refine zd 11 (.bool true) rfl (by rw[decide_eq_true om]<;>rfl) (qA ?_);exact vj
theorem Fw:Calls prog 12 #[.agg #[.int .i64 k,.bool yes,.bool neg,.slice A xs.length c,.int .u64 ((bits:Nat):Int),.string s,.slice B ni d]] w (aH w (.bool (PV.good ⟨k,yes,neg,xs,bits,s,ni⟩))):=by
 by_cases hk:k<0∨4<k
 · exact rgx w k yes neg A B xs c bits ni d s hx hl hk
 · obtain rfl | rfl | rfl | rfl | rfl:k=0∨k=1∨k=2∨k=3∨k=4:=om
   · exact rg0 w yes neg A B xs c bits ni d s hx hl
   · exact rg1 w yes neg A B xs c bits ni d s hx hl
   · exact rg2 w yes neg A B xs c bits ni d s hx hl
   · exact rg3 w yes neg A B xs c bits ni d s hx hl
   · exact rg4 w yes neg A B xs c bits ni d s hx hl
end
end Go.Proofs.YtmnmebdmpigddaaGreatDoor
namespace Go.Proofs.YtmnmebdmpigddaaGreatDoor
open Go.RowKit Proofs.Tryz
theorem AU {P Q:Prop} (k:Q) (h:(Unit→Q)→P:=by
 intro zK;refine zq ?_;refine ki (rs:=[.cell 2 28]) (vs:=[_]) rfl ⟨⟨_,rfl,ymv u28 rfl jf B2e rfl⟩,trivial⟩ ?_;exact zK ()):P:=h fun _=>k
theorem zi {P Q:Prop} (k:Q) (h:(Unit→Q)→P:=by
 intro zK;refine za rfl (zkv yB ?_);exact zK ()):P:=h fun _=>k
attribute [local irreducible] OW RS CW EW
theorem Lf {b:Nat} (hb:b<18446744073709551616):qz (qa (qz (qa b)))=qz b:=by
 have e1:bO (qa b)=bO b:=yvk hb;have hb2:=(zeq hb).2.2;by_cases h:bO b=true
 · have e2:bO (qa 9221120237041090560)=true:=by rw[yvk de];decide
   unfold qz;rw[if_pos (e1.trans h),if_pos e2,if_pos h]
 · have h2:¬bO (qa b)=true:=by rw[e1];exact h
   have h3:¬bO (qa (qa b))=true:=by rw[yvk hb2];exact h2
   unfold qz;rw[if_neg h2,if_neg h3,if_neg h];unfold qa;rw[Nat.xor_assoc,Nat.xor_self,Nat.xor_zero]
theorem Fz (w:World) (b:Nat) (hb:b<18446744073709551616):Calls prog 27 #[.int .u64 ((b:Nat):Int)] w (aH w (.agg #[.int .i64 3,.bool false,.bool false,.slice none 0 0,.int .u64 ((qz b:Nat):Int),.string ⟨#[]⟩,.slice none 0 0])):=by
 refine zc func27 rfl ntmps27 rfl (zu ?_);refine zi ?_;rintro g2 wB B2 E2 G2;refine zt ?_;refine za rfl (zb aIx rfl ((KG _ b hb).mono ?_));rintro e w1 ⟨rfl,hb⟩;refine ⟨_,rfl,?_⟩;have E3:=E2.trans (Ext.of_below hb No);have B3:=B2.ext (Ext.of_below hb No) (fun h=>h.elim);by_cases hn:bO b=true
 ·
  refine zd 4 (.bool true) rfl (by rw[hn]<;>rfl) (zy ?_);refine za rfl (ja (cs:=#[.int .i64 3,.bool false,.bool false,.slice none 0 0,.int .u64 9221120237041090560,.string ⟨#[]⟩,.slice none 0 0]) wS yB rfl rfl (zp (zo jf rfl rfl B3 rfl rfl rfl ?_)));rintro wC B2e E4;refine AU ?_;exact ⟨by unfold qz;rw[if_pos hn];rfl,((E3.noL w.heap.size).step E4 (fun q hq=>Or.inl (show w.heap.size≤q by have:=ug hq;omega))).below (fun _ h=>h)⟩
 ·
  have hn':bO b=false:=by cases h9:bO b<;>simp_all
  refine zd 4 (.bool false) rfl (by rw[hn']<;>rfl) (yu ?_);refine za rfl (ja (cs:=#[.int .i64 3,.bool false,.bool false,.slice none 0 0,.int .u64 ((b:Nat):Int),.string ⟨#[]⟩,.slice none 0 0]) wS yB rfl rfl (zp (zo jf rfl rfl B3 rfl rfl rfl ?_)));rintro wC B2e E4;refine AU ?_;exact ⟨by unfold qz;rw[if_neg hn];rfl,((E3.noL w.heap.size).step E4 (fun q hq=>Or.inl (show w.heap.size≤q by have:=ug hq;omega))).below (fun _ h=>h)⟩
end Go.Proofs.YtmnmebdmpigddaaGreatDoor
namespace Go.Proofs.YtmnmebdmpigddaaGreatDoor
open Go.RowKit Proofs.Tryz
theorem yyx {P Q:Prop} (k:Q) (h:(Unit→Q)→P:=by
 intro zK;refine za rfl (jc (z:=0) rfl rfl kr ?_);exact zK ()):P:=h fun _=>k
theorem AV {P Q:Prop} (k:Q) (h:(Unit→Q)→P:=by
 intro zK;refine za rfl (tZ (z:=((mg (nr (rg a)):Nat):Int)) u25 (by rw[oG];rfl) rfl fz (zt ?_));refine yt ?_;refine QZ ?_;exact zK ()):P:=h fun _=>k
theorem lJ {P Q:Prop} (k:Q) (h:(Unit→Q)→P:=by
 intro zK;refine ygq ?_;refine ze 14 (.bool false) rfl (by rw[oc,kh hf]<;>rfl) (ye ?_);exact zK ()):P:=h fun _=>k
theorem zsv {P Q:Prop} (k:Q) (h:(Unit→Q)→P:=by
 intro zK;refine za rfl (xn (z:=0) rfl rfl kr ?_);exact zK ()):P:=h fun _=>k
theorem ygx {P Q:Prop} (k:Q) (h:(Unit→Q)→P:=by
 intro zK;refine za rfl (jo (z:=0) rfl rfl de kr ?_);exact zK ()):P:=h fun _=>k
theorem yzq {P Q:Prop} (k:Q) (h:(Unit→Q)→P:=by
 intro zK;refine yu ?_;refine ztx ?_;refine jm ?_;refine za rfl (qvq rfl rfl (zu ?_));exact zK ()):P:=h fun _=>k
theorem lN {P Q:Prop} (k:Q) (h:(Unit→Q)→P:=by
 intro zK;refine zd 20 (.bool false) rfl (by rw[decide_eq_false om]<;>rfl) (zy ?_);refine za rfl (zb Oz rfl ((uS _ a ha).mono ?_));exact zK ()):P:=h fun _=>k
theorem QZ {P Q:Prop} (k:Q) (h:(Unit→Q)→P:=by
 intro zK;refine za rfl (MV (z:=(oO (rg a)-53).tmod 31) rfl rfl de rfl (yo ?_));refine za rfl (MV (z:=((k:Nat):Int)) rfl rfl de (by rw[t1,hk]) (zt ?_));refine za rfl (MV (z:=((mg (nr (rg a))%2147483647:Nat):Int)) rfl rfl de (kU _ 2147483647) (aQ ?_));refine za rfl (gk rfl rfl om (WQ 1 k om) (zd 41 (.int .u64 ((2^k:Nat):Int)) rfl (by rw[Nat.one_mul,Nat.mod_eq_of_lt om]<;>rfl) ?_));exact zK ()):P:=h fun _=>k
theorem Q0 {P:Prop} (h:P:=by
 refine zr ?_;exact ⟨by rw[Q5,if_neg (by rw[hn];decide),h,if_pos hi];rfl,(LW.step E aj).toBelow⟩):P:=h
theorem ad4 {P:Prop} (h:P:=by
 refine zd 48 (.int .u64 ((qtx (rg a):Nat):Int)) rfl (by rw[xu rfl rfl,←hpr]<;>rfl) (za rfl (jl underlying3 u25 rfl (yr om) (za rfl (xn rfl rfl (yr om) (zv ?_)))));exact ⟨by rw[Q5,if_neg (by rw[kh hf];decide),h,if_neg hni];rfl,(LW.step E aj).toBelow⟩):P:=h
attribute [local irreducible] OW RS CW EW
theorem FB {w w':World} (h:w=w'):Below w.heap.size w w':=by subst h;exact Below.refl _ _
theorem qev (x y:Nat) (hx:x<18446744073709551616) (hy:y<18446744073709551616) (w:World) :
 Calls prog 114 #[.int .u64 x,.int .u64 y] w fun e w'=>e= .returned (.tuple #[.int .u64 ((x*y/18446744073709551616:Nat):Int),.int .u64 ((x*y%18446744073709551616:Nat):Int)])∧Below w.heap.size w w':=
 (qK x y hx hy w).mono fun _ _ ⟨h1,h2⟩=>⟨h1,FB h2⟩
theorem am4 (x:Int):(x.tmod 31+31).tmod 31=x%31∧ -31<x.tmod 31∧x.tmod 31<31:=by
 rcases Int.lt_or_le x 0 with h | h
 · obtain ⟨y,rfl⟩:∃y:Int,x= -y:=⟨-x,om⟩;have e:(-y).tmod 31= -(y%31):=by rw[Int.neg_tmod,Int.tmod_eq_emod_of_nonneg om]
   rw[e,Int.tmod_eq_emod_of_nonneg om];omega
 · rw[Int.tmod_eq_emod_of_nonneg h,Int.tmod_eq_emod_of_nonneg om];omega
def Q5 (a:Nat):Int:=if bO a then 0 else (if ng a then -1 else 1)*(if rg a=9218868437227405312 then 314159 else ((qtx (rg a):Nat):Int))
theorem FC:qtx 0=0:=de
theorem Q6 (r:Nat):qtx r<2147483647:=Nat.mod_lt _ de
theorem Lg {r:Nat} (hr:r<9223372036854775808) (h0:r≠0):mg (nr r)%2147483647*2^((oO r-53)%31).toNat%2147483647=qtx r:=by
 obtain ⟨h1,_⟩:=ymk hr;have:=KH (a:=r) (by rw[h1];exact h0);rw[h1] at this;rw[←this,fm,h1,Nat.mul_mod,Nat.mod_mod,←Nat.mul_mod]
theorem Xu:Gives 114 #[.int .u64 0,.int .u64 512] (.tuple #[.int .u64 0,.int .u64 0]):=by
 intro w;refine zc func114 rfl ntmps114 rfl ?_;have LW:=aF (No) w;have aj:=bD (No) w;have E:=aF (No) w;refine qo ?_;refine yyz ?_;refine zt ?_;refine ygx ?_;refine zt ?_;refine za rfl (kg (z:=512) rfl rfl kr (zt ?_));refine ygx ?_;refine zr ?_;refine zsv ?_;refine zr ?_;refine zsv ?_;refine aQ ?_;refine ygx ?_;refine yyx ?_;refine zt ?_;refine yyz ?_;refine zt ?_;refine ygx ?_;refine yu ?_;refine zsv ?_;refine yyx ?_;refine zr ?_;refine zsv ?_;refine aQ ?_;refine yyx ?_;refine aQ ?_;refine ygx ?_;refine yyx ?_;refine zr ?_;refine zsv ?_;refine ye ?_;refine ki (rs:=[.tmp 4,.tmp 5]) (vs:=[.int .u64 0,.int .u64 0]) rfl ⟨rfl,rfl,trivial⟩ ?_;exact vj
theorem Xv:Gives 146 #[.int .u64 0,.int .u64 0,.int .u64 2147483647] (.tuple #[.int .u64 0,.int .u64 0]):=by
 intro w;refine zc func146 rfl ntmps146 rfl ?_;have LW:=aF (No) w;have aj:=bD (No) w;have E:=aF (No) w;refine qB ?_;have OY:∀q9,(ak (km [])) q9→q9<(World.drew w).heap.size→(No) q9:=fun k h _=>(ak.none_) k h;refine yx (No) ak.none_ [] [] (xq [Fx.of (.int .u64 0),
  Fx.of (.int .u64 2147483647),
  Fx.of (.int .u64 0),
  Fx.of (.int .u64 0),
  Fx.of (.int .u64 2147483647),
  Fx.of (.int .u64 0),
  Fx.of (.int .u64 0),
  Fx.of (.int .u64 0)]) mixed rfl trivial (fun _ h=>by cases h) ?_ ?_
 · refine ⟨arm,arm,?_,arm,arm,?_,arm,arm,trivial⟩
   · refine qh ?_;intro vs X wq K;exact yvx (z:=0) rfl rfl de kr ⟨Below.refl _ _,Left.of rfl⟩
   · refine qh ?_;intro vs X wq K;exact MV (z:=0) rfl rfl de kr ⟨Below.refl _ _,Left.of rfl⟩
 intro vs w1 LE AO AL AF AA;replace E:=E.drew.trans (LE.mono OY);obtain ⟨_,e6,k6⟩:=AL.2.2.2.2.2.2.1;obtain ⟨_,e7,k7⟩:=AL.2.2.2.2.2.2.2.1;refine vo (τ:=[(0,_),(1,_),(2,_),(6,.int .u64 0),(7,.int .u64 0)]) ⟨rfl,rfl,rfl,congrArg some e6,congrArg some e7,trivial⟩ ?_;clear AL AF AA LE AO OY e6 e7 k6 k7;refine zq ?_;refine ki (rs:=[.tmp 6,.tmp 7]) (vs:=[.int .u64 0,.int .u64 0]) rfl ⟨rfl,rfl,trivial⟩ ?_;exact vj
theorem Xw:Gives 115 #[.int .u64 0,.int .u64 0,.int .u64 2147483647] (.int .u64 0):=by
 intro w;refine zc func115 rfl ntmps115 rfl ?_;have LW:=aF (No) w;have aj:=bD (No) w;have E:=aF (No) w;refine qo ?_;refine za rfl (MV (z:=0) rfl rfl de kr (zu ?_));refine zh rfl aa3 rfl (Xv _) E fun w1 E=>(go ?_);refine ki (rs:=[.tmp 6]) (vs:=[.int .u64 0]) rfl ⟨rfl,trivial⟩ ?_;exact vj
theorem Lh (w:World) (a:Nat) (ha:a<18446744073709551616) (hf:rg a<9218868437227405312) (h0:rg a=0):Calls prog 62 #[.int .u64 ((a:Nat):Int)] w (aH w (.int .i64 (Q5 a))):=by
 have hp:pc a=0:=by unfold pc;split<;>omega
 have hlt:(ks a 0==some .lt)=false:=by rw[zvz (kh hf) de,hp];decide
 have hF:Q5 a=0:=by
  have e:(if rg a=9218868437227405312 then 314159 else ((qtx (rg a):Nat):Int))=0:=by rw[if_neg om,h0,FC];rfl
  rw[Q5,if_neg (by rw[kh hf];decide),e,Int.mul_zero]
 have hr:rg a<18446744073709551616:=om;refine zc func62 rfl ntmps62 rfl ?_;have LW:=aF (No) w;have aj:=bD (No) w;have E:=aF (No) w;refine yzq ?_;refine ze 13 (.bool false) rfl (by rw[hlt]<;>rfl) (qo ?_);refine lJ ?_;refine zh rfl gY rfl (ju _ a ha) E fun w1 E=>(lN ?_);rintro e w2 ⟨rfl,hb⟩;refine ⟨_,rfl,?_⟩;replace E:=bQ E hb;refine zh rfl Ow rfl (kS _ (rg a) hr (by rw[kN];exact h0)) E fun w3 E=>(zy ?_);refine zh rfl Oy rfl (kT _ (rg a) hr (by rw[kN];exact h0) 53) E fun w4 E=>(za rfl (tZ (z:=0) u25 (by rw[oG];rfl) rfl (by rw[h0];decide +kernel) (zt ?_)));refine za rfl (jn (z:=(-53)) rfl rfl kr (za rfl (MV (z:=(-22)) rfl rfl de kr (za rfl (jc (z:=9) rfl rfl kr (za rfl (MV (z:=9) rfl rfl de kr (zt ?_))))))));refine za rfl (MV (z:=0) rfl rfl de kr (aQ ?_));refine za rfl (gk (z:=512) rfl rfl de kr (zh rfl p9 rfl (Xu _) E fun w5 E=>(jm ?_)));refine zh rfl He rfl (Xw _) E fun w6 E=>(za rfl (jl (z:=0) underlying3 u25 rfl kr (zsv ?_)));refine zv ?_;exact ⟨by rw[hF];rfl,(LW.step E aj).toBelow⟩
section
variable (w:World) (a:Nat) (ha:a<18446744073709551616)
include ha
theorem Q7 (hn:bO a=true):Calls prog 62 #[.int .u64 ((a:Nat):Int)] w (aH w (.int .i64 (Q5 a))):=by
 have _:=ha;refine zc func62 rfl ntmps62 rfl ?_;have LW:=aF (No) w;have aj:=bD (No) w;have E:=aF (No) w;refine yzq ?_;refine ze 13 (.bool false) rfl (by rw[Aa hn]<;>rfl) (qo ?_);refine ygq ?_;refine ze 14 (.bool true) rfl (by rw[oc,hn]<;>rfl) (zy ?_);exact ⟨by rw[Q5,if_pos hn];rfl,(LW.step E aj).toBelow⟩
theorem Q8 (hi:rg a=9218868437227405312):Calls prog 62 #[.int .u64 ((a:Nat):Int)] w (aH w (.int .i64 (Q5 a))):=by
 have hn:bO a=false:=decide_eq_false om;refine zc func62 rfl ntmps62 rfl ?_;have LW:=aF (No) w;have aj:=bD (No) w;have E:=aF (No) w;refine yzq ?_;refine ze 13 (.bool (ng a)) rfl (by rw[z8 hn om]<;>rfl) (zj rfl (fun h=>?_) (fun h=>?_))
 ·
  refine zy ?_;refine ygq ?_;refine ze 14 (.bool false) rfl (by rw[oc,hn]<;>rfl) (ye ?_);refine zh rfl gY rfl (ju _ a ha) E fun w1 E=>(zd 20 (.bool true) rfl (by rw[decide_eq_true hi]<;>rfl) (zr ?_));refine za rfl (xn (z:=(-314159)) rfl rfl kr ?_);exact Q0
 ·
  refine yu ?_;refine ygq ?_;refine ze 14 (.bool false) rfl (by rw[oc,hn]<;>rfl) (ye ?_);refine zh rfl gY rfl (ju _ a ha) E fun w2 E=>(zd 20 (.bool true) rfl (by rw[decide_eq_true hi]<;>rfl) (zr ?_));refine za rfl (xn (z:=314159) rfl rfl kr ?_);exact Q0
section
variable (hf:rg a<9218868437227405312)
include hf
section
variable (h0:rg a≠0)
include h0
theorem Q9:Calls prog 62 #[.int .u64 ((a:Nat):Int)] w (aH w (.int .i64 (Q5 a))):=by
 have hr:rg a<18446744073709551616:=om;obtain ⟨f1,f2,f3⟩:=qX hf h0;have f0:=(ymk (r:=iI (rg a)) om).1;have f00:=(ymk (r:=iI (rg a)) om).2;obtain ⟨fq1,fq2⟩:=ac3 (r:=rg a) h0;have fq3:vl (1074*4503599627370496+mg (nr (rg a)))=vl (iI (rg a))*2^53:=by rewrite [fq1,f3];exact qlv (p:=1074) (q:=1021) (s:=53) de _
 have hmg:=(WC h0).2;have fw:=vv (ng (iI (rg a))) (1074*4503599627370496+mg (nr (rg a))) om;have fz:floatToIntVal .f64 (Ieee.double.word (ng (iI (rg a))) (1074*4503599627370496+mg (nr (rg a)))) .u64=some ((mg (nr (rg a)):Nat):Int):=by
  have h1:=yeq (ng (iI (rg a))) fq2 fq1;have h2:=WK (a:=Ieee.double.word (ng (iI (rg a))) (1074*4503599627370496+mg (nr (rg a)))) (by rw[fw.1];exact fq2) (by rw[fw.2.1];exact f00) (by rw[h1];omega);rw[h1] at h2;exact h2
 obtain ⟨b1,b2⟩:=KU hf;obtain ⟨t1,t2,t3⟩:=am4 (oO (rg a)-53);obtain ⟨k,hk⟩:∃k:Nat,(oO (rg a)-53)%31=(k:Int):=⟨((oO (rg a)-53)%31).toNat,om⟩;have hk31:k<31:=om;have hpr:=Lg (r:=rg a) (xU a) h0;have hkt:((oO (rg a)-53)%31).toNat=k:=om;rw[hkt] at hpr;have hp2:2^k≤1073741824:=(Nat.pow_le_pow_right de (show k≤30 from om):2^k≤2^30);have hprod:mg (nr (rg a))%2147483647*2^k≤2147483647*1073741824:=Nat.mul_le_mul (Nat.le_of_lt (Nat.mod_lt _ de)) hp2;have hml:=Q6 (rg a);have hni:¬rg a=9218868437227405312:=om;refine zc func62 rfl ntmps62 rfl ?_;have LW:=aF (No) w;have aj:=bD (No) w;have E:=aF (No) w;refine yzq ?_;refine ze 13 (.bool (ng a)) rfl (by rw[z8 (kh hf) h0]<;>rfl) (zj rfl (fun h=>?_) (fun h=>?_))
 ·
  refine zy ?_;refine lJ ?_;refine zh rfl gY rfl (ju _ a ha) E fun w1 E=>(lN ?_);rintro e w2 ⟨rfl,hb⟩;refine ⟨_,rfl,?_⟩;replace E:=bQ E hb;refine zh rfl Ow rfl (qpv _ (rg a) hr (by rw[kN];exact h0) (by rw[kN];exact hf)) E fun w3 E=>(zy ?_);refine zh rfl Oy rfl (qpk _ (iI (rg a)) om (by rw[f0];exact f2) (by rw[f0];exact f1) 53 (1074*4503599627370496+mg (nr (rg a))) de fq2 (by rw[f0];exact fq3)) E fun w4 E=>(AV ?_);refine zh rfl p9 rfl (qev (mg (nr (rg a))%2147483647) (2^k) om om _) E fun w5 E=>(jm ?_);refine zh rfl He rfl (qlk _ (mg (nr (rg a))%2147483647*2^k/18446744073709551616) (mg (nr (rg a))%2147483647*2^k%18446744073709551616) om (Nat.mod_lt _ de)) E fun w6 E=>?_;exact ad4
 ·
  refine yu ?_;refine lJ ?_;refine zh rfl gY rfl (ju _ a ha) E fun w7 E=>(lN ?_);rintro e w8 ⟨rfl,hb⟩;refine ⟨_,rfl,?_⟩;replace E:=bQ E hb;refine zh rfl Ow rfl (qpv _ (rg a) hr (by rw[kN];exact h0) (by rw[kN];exact hf)) E fun w9 E=>(zy ?_);refine zh rfl Oy rfl (qpk _ (iI (rg a)) om (by rw[f0];exact f2) (by rw[f0];exact f1) 53 (1074*4503599627370496+mg (nr (rg a))) de fq2 (by rw[f0];exact fq3)) E fun dI E=>(AV ?_);refine zh rfl p9 rfl (qev (mg (nr (rg a))%2147483647) (2^k) om om _) E fun dS E=>(jm ?_);refine zh rfl He rfl (qlk _ (mg (nr (rg a))%2147483647*2^k/18446744073709551616) (mg (nr (rg a))%2147483647*2^k%18446744073709551616) om (Nat.mod_lt _ de)) E fun eB E=>?_;exact ad4
end
end
theorem Ra:Calls prog 62 #[.int .u64 ((a:Nat):Int)] w (aH w (.int .i64 (Q5 a))):=by
 cases hn:bO a with
 | true=>exact Q7 w a ha hn
 | false=>
  have h1:=of_decide_eq_false hn;by_cases hi:rg a=9218868437227405312
  · exact Q8 w a ha hi
  · by_cases h0:rg a=0
    · exact Lh w a ha om h0
    · exact Q9 w a ha om h0
end
end Go.Proofs.YtmnmebdmpigddaaGreatDoor
namespace Go.Proofs.YtmnmebdmpigddaaGreatDoor
open Go.RowKit Proofs.Tryz
theorem zhq {P Q:Prop} (k:Q) (h:(Unit→Q)→P:=by
 intro zK;refine za rfl (sW rfl (yr om) ?_);exact zK ()):P:=h fun _=>k
attribute [local irreducible] OW RS CW EW
theorem AX {j:Int} (h0:j≠0):0<(limbs j).length:=by rw[qn];exact zvv qg om
theorem Li {b:Nat} (L:List Nat) (j:Nat) (h:j<L.length):val b (L.drop j)=L.getD j 0+b*val b (L.drop (j+1)):=by
 rw[List.drop_eq_getElem_cons h,val,List.getD_eq_getElem?_getD,List.getElem?_eq_getElem h,Option.getD_some]
def Lj (b:Nat) (L:List Nat) (k:Nat):Nat:=val b (L.drop (L.length-k))%2147483647
theorem Rb (b:Nat) (L:List Nat):Lj b L 0=0:=by rw[Lj,Nat.sub_zero,List.drop_length];rfl
theorem am5 (b:Nat) (L:List Nat) (k:Nat):Lj b L k<2147483647:=Nat.mod_lt _ de
theorem Rc {b:Nat} {L:List Nat} {k:Nat} (h:k<L.length):Lj b L (k+1)=(Lj b L k*b+L.getD (L.length-1-k) 0)%2147483647:=by
 have key:∀V l:Nat,(V%2147483647*b+l)%2147483647=(V*b+l)%2147483647:=fun V l=>by rw[←Nat.mod_add_mod,Nat.mod_mul_mod,Nat.mod_add_mod]
 unfold Lj;rw[Li L (L.length-(k+1)) om,show L.length-(k+1)+1=L.length-k from om,show L.length-(k+1)=L.length-1-k from om,Nat.add_comm,Nat.mul_comm b];exact (key _ _).symm
theorem Ll (i:Int):Lj au (limbs i) (limbs i).length=i.natAbs%2147483647:=by rw[Lj,Nat.sub_self,List.drop_zero,qn,gm qg]
def rz (i:Int):Int:=if i<0 then 0-((i.natAbs%2147483647:Nat):Int) else ((i.natAbs%2147483647:Nat):Int)
theorem Rf:nY prog 116 add64Entry:=⟨_,func116,kr,kr,kr,kr⟩
theorem FD (x y:Nat) (w:World):(add64Entry #[.int .u64 ((x:Nat):Int),.int .u64 ((y:Nat):Int),.int .u64 0]).run prog w =
 .ok (.tuple #[.int .u64 (((x+y)%18446744073709551616:Nat):Int),.int .u64 (((x+y)/18446744073709551616:Nat):Int)]) w:=by
 rw[run_add64 _ _ 0 om om om om,Int.add_zero,←Int.natCast_add];rfl
theorem FE {h l hi lo c s:Nat} (h1:hi*18446744073709551616+lo=h*au) (h2:c*18446744073709551616+s=lo+l):((hi+c)*18446744073709551616+s)%2147483647=(h*au+l)%2147483647:=by
 have e:(hi+c)*18446744073709551616+s=h*au+l:=by rw[Nat.add_mul,Nat.add_assoc,h2,←Nat.add_assoc,h1]
 rw[e]
section
variable (i:Int) (A:Option Addr) (c:Nat) (w:World) (hi:i.natAbs<au^30) (hx:aA w A (limbs i))
include hi hx
theorem vG (h0:i=0):Calls prog 63 #[.agg #[.bool (decide (i<0)),.slice A (limbs i).length c]] w (aH w (.int .i64 (rz i))):=by
 have hl:((limbs i).length:Int)=0:=by rw[h0,qj];rfl
 refine zc func63 rfl ntmps63 rfl ?_;obtain ⟨HF,LW,aj,E⟩:=bg w;replace HF:=HF.and (Per.ay hx);refine zf ?_;intro aO w2 aD aI aW;obtain ⟨HF,LW,E⟩:=aK HF LW E aj aD aI;refine zr ?_;refine zh rfl yC rfl (Na A c _ hi (HF.on E).here.1.2) E fun w3 E=>(Ed ?_);refine yt ?_;refine ye ?_;refine zlq (zr ?_);refine ze 16 (.bool false) rfl (by rw[hl];rfl) (gf ?_);refine ze 40 (.bool false) rfl (by rw[h0];rfl) (zt ?_);refine za rfl (jl (z:=0) underlying3 u25 rfl kr (zv ?_));exact ⟨by rw[h0];rfl,(LW.step E aj).toBelow⟩
theorem AY (h0:i≠0):Calls prog 63 #[.agg #[.bool (decide (i<0)),.slice A (limbs i).length c]] w (aH w (.int .i64 (rz i))):=by
 have hl2:=zk hi;obtain ⟨bx,ox,rfl,hbx,hcx⟩:=hx.2 (AX h0);have hsm:=yjx i;refine zc func63 rfl ntmps63 rfl ?_;obtain ⟨HF,LW,aj,E⟩:=bg w;replace HF:=HF.and (Per.ay hx);refine zf ?_;intro aO w2 aD aI aW;obtain ⟨HF,LW,E⟩:=aK HF LW E aj aD aI;refine zr ?_;refine zh rfl yC rfl (Na (some ⟨bx,ox,none⟩) c _ hi (HF.on E).here.1.2) E fun w3 E=>(Ed ?_);refine yt ?_;refine ye ?_;replace HF:=HF.on E;replace LW:=LW.step E aj;replace E:=aF (No) w3;refine jd (ι:=Nat) (fun k=>[(1,.pointer (some ⟨aO,0,none⟩)),(3,.int .u64 ((Lj au (limbs i) k:Nat):Int)),(4,.int .i64 (((limbs i).length:Int)-1-((k:Nat):Int)))]) (fun k w'=>Ext (No) w3 w'∧(k≤(limbs i).length)) (fun k=>(limbs i).length-k) 0 ⟨rfl,congrArg (fun z:Nat=>some (Value.int .u64 (z:Int))) (Rb _ _).symm,congrArg (fun z:Int=>some (Value.int .i64 z)) om,trivial⟩ ⟨Ext.refl _ _,Nat.zero_le _⟩ ?_;rintro k w5 ⟨M4,hk⟩;have Xx:=bD (No) w3;replace E:=E.trans M4;replace HF:=HF.on E;replace LW:=LW.step E aj;replace E:=aF (No) w5;refine zr ?_;refine ze 16 (.bool (decide (k<(limbs i).length))) rfl (xr om) ?_;have hup:=am5 au (limbs i) k;refine zj rfl (fun hl=>?_) (fun hl=>?_)
 ·
  have hl:=of_decide_eq_true hl;obtain ⟨h,hh⟩:∃h,h=Lj au (limbs i) k:=⟨_,rfl⟩;obtain ⟨l,hll⟩:∃l,l=(limbs i).getD ((limbs i).length-1-k) 0:=⟨_,rfl⟩;have hlb:l<1000000000000000000:=by rw[hll];exact ytv de hsm _
  have hnx:Lj au (limbs i) (k+1)=(h*au+l)%2147483647:=by rw[Rc hl,←hh,←hll]
  rw[←hh] at hup;refine ze 3 (.int .u64 ((h:Nat):Int)) rfl (by rw[hh]<;>rfl) ?_;obtain ⟨p,hp⟩:∃p,p=h*1000000000000000000/18446744073709551616:=⟨_,rfl⟩;obtain ⟨q,hq⟩:∃q,q=h*1000000000000000000%18446744073709551616:=⟨_,rfl⟩;have hpq:p*18446744073709551616+q=h*au:=xu hp hq;have hpb:p<2147483647:=by rw[hp];exact Nat.div_lt_of_lt_mul (Nat.lt_of_lt_of_le (Nat.mul_lt_mul_of_pos_right hup de) de)
  have hqb:q<18446744073709551616:=zav de hq;obtain ⟨t,ht⟩:∃t,t=(q+l)/18446744073709551616:=⟨_,rfl⟩;obtain ⟨s,hs⟩:∃s,s=(q+l)%18446744073709551616:=⟨_,rfl⟩;have hts:t*18446744073709551616+s=q+l:=xu ht hs;have hsb:s<18446744073709551616:=zav de hs;have htb:t<2:=by rw[ht];exact Nat.div_lt_of_lt_mul om
  refine zr ?_;refine zh rfl p9 rfl (qev h 1000000000000000000 om de _) E fun w6 E=>(zd 21 (.tuple #[.int .u64 ((p:Nat):Int),.int .u64 ((q:Nat):Int)]) rfl (by rw[hp,hq]<;>rfl) (gf ?_));refine za rfl (kw (j:=(limbs i).length-1-k) u22 yA rfl rfl om om ?_);obtain ⟨b9,o9,hA9,_,hc9⟩:=((HF.on E).here.1.2).2 (AX h0);obtain ⟨rfl,rfl⟩:b9=bx∧o9=ox:=by simpa using hA9.symm
  refine za rfl (jj u25 rfl rfl (hc9 ((limbs i).length-1-k) om) (zd 30 (.int .u64 ((l:Nat):Int)) rfl (by rw[WX,hll]<;>rfl) (za rfl (jE (args:=[.int .u64 ((q:Nat):Int),.int .u64 ((l:Nat):Int),.int .u64 0]) Rf rfl (FD q l _) (zd 31 (.tuple #[.int .u64 ((s:Nat):Int),.int .u64 ((t:Nat):Int)]) rfl (by rw[hs,ht]<;>rfl) (zy ?_))))));refine oh ?_;refine aQ ?_;refine zd 36 (.int .u64 ((p+t:Nat):Int)) rfl (by rw[Int.natCast_add]<;>rfl) (zh rfl He rfl (qlk _ (p+t) s om hsb) E fun w7 E=>(zd 38 (.int .u64 ((Lj au (limbs i) (k+1):Nat):Int)) rfl (by rw[FE hpq hts,←hnx]<;>rfl) (zt ?_)));refine yt ?_;refine zu ?_;exact yc (k+1) om ⟨rfl,rfl,congrArg (fun z:Int=>some (Value.int .i64 z)) om,trivial⟩ ⟨M4.step E Xx,om⟩
 ·
  have hl:=of_decide_eq_false hl;have hke:k=(limbs i).length:=om;have hend:Lj au (limbs i) k=i.natAbs%2147483647:=by rw[hke,Ll]
  refine ze 3 (.int .u64 ((i.natAbs%2147483647:Nat):Int)) rfl (by rw[hend]<;>rfl) (jm ?_);refine zj rfl (fun hn=>?_) (fun hn=>?_)
  ·
   refine zq ?_;refine yzx ?_;refine zhq ?_;refine zt ?_;exact ⟨by rw[rz,if_pos (of_decide_eq_true hn)];rfl,(LW.step E aj).toBelow⟩
  ·
   refine zv ?_;refine yzx ?_;refine zv ?_;exact ⟨by rw[rz,if_neg (of_decide_eq_false hn)];rfl,(LW.step E aj).toBelow⟩
theorem Rh:Calls prog 63 #[.agg #[.bool (decide (i<0)),.slice A (limbs i).length c]] w (aH w (.int .i64 (rz i))):=by
 by_cases h0:i=0
 · exact vG i A c w hi hx h0
 · exact AY i A c w hi hx h0
end
section
variable (n1:Bool) (A:Option Addr) (c:Nat) (xs:List Nat) (w:World) (hx:aA w A xs) (hl:xs.length≤9223372036854775807) (hg:zm n1 xs=false)
include hx hl hg
theorem AZ:Calls prog 63 #[.agg #[.bool n1,.slice A xs.length c]] w (aH w (.int .i64 0)):=by
 refine zc func63 rfl ntmps63 rfl ?_;obtain ⟨HF,LW,aj,E⟩:=bg w;replace HF:=HF.and (Per.ay hx);refine zf ?_;intro aO w2 aD aI aW;obtain ⟨HF,LW,E⟩:=aK HF LW E aj aD aI;refine zr ?_;refine zh rfl yC rfl (zw n1 c _ A xs hl (HF.on E).here.1.2) E fun w3 E=>(zd 9 (.bool false) rfl (by rw[hg]<;>rfl) (jm ?_));exact vj
end
noncomputable def IL (n1:Bool) (xs:List Nat):Int:=if zm n1 xs then rz (num n1 xs) else 0
section
variable (n1:Bool) (A:Option Addr) (c:Nat) (xs:List Nat) (w:World) (hx:aA w A xs) (hl:xs.length≤9223372036854775807)
include hx hl
theorem A9:Calls prog 63 #[.agg #[.bool n1,.slice A xs.length c]] w (aH w (.int .i64 (IL n1 xs))):=by
 cases hg:zm n1 xs with
 | false=>
  rw[IL,if_neg (by rw[hg];decide)];exact AZ n1 A c xs w hx hl hg
 | true=>
  rw[IL,if_pos hg];obtain ⟨i,rfl,rfl,hi⟩:=qxk hg;rw[jz];exact Rh i A c w hi hx
end
end Go.Proofs.YtmnmebdmpigddaaGreatDoor
namespace Go.Proofs.YtmnmebdmpigddaaGreatDoor
open Go.RowKit Proofs.Tryz
theorem ad7 {P:Prop} (h:P:=by
 have LW:=aF (No) w;have aj:=bD (No) w;have E:=aF (No) w;refine yq ?_;refine zj rfl (fun h=>?_) (fun h=>?_)
 ·
  refine yu ?_;exact ⟨by rw[h];rfl,(LW.step E aj).toBelow⟩
 ·
  refine qo ?_;exact ⟨by rw[h];rfl,(LW.step E aj).toBelow⟩):P:=h
theorem II {P:Prop} (h:P:=by
 rintro e w2 ⟨rfl,hb⟩;exact ⟨_,rfl,hb,Left.of rfl⟩):P:=h
attribute [local irreducible] OW RS CW EW
def U6 (j:Nat):Nat:=(Go.Pinned.pow10Rows.getD j (0,0)).1
def U7 (j:Nat):Nat:=(Go.Pinned.pow10Rows.getD j (0,0)).2
theorem XF:Go.Pinned.pow10Rows.all (fun x=>Nat.blt x.1 18446744073709551616&&Nat.blt x.2 18446744073709551616)=true:=kr
theorem FI:Go.Pinned.pow10Rows.length=696:=kr
theorem vH {j:Nat} (hj:j<696):Go.Pinned.pow10Rows[j]? =some (U6 j,U7 j)∧U6 j<18446744073709551616∧U7 j<18446744073709551616:=by
 have hl:j<Go.Pinned.pow10Rows.length:=by rw[FI];exact hj
 have h:=List.all_eq_true.1 XF _ (List.getElem_mem hl);rw[Bool.and_eq_true] at h;have e:Go.Pinned.pow10Rows[j]? =some Go.Pinned.pow10Rows[j]:=List.getElem?_eq_getElem hl;have e1:Go.Pinned.pow10Rows.getD j (0,0)=Go.Pinned.pow10Rows[j]:=by rw[List.getD_eq_getElem?_getD,e];rfl
 unfold U6 U7;rw[e1,e];exact ⟨rfl,Nat.le_of_ble_eq_true h.1,Nat.le_of_ble_eq_true h.2⟩
def vJ (w:World):Prop:=∀j,j<696→w.cell? ⟨13,j*2,none⟩=some (.int .u64 ((U6 j:Nat):Int))∧w.cell? ⟨13,j*2+1,none⟩=some (.int .u64 ((U7 j:Nat):Int))
theorem vJ.lt {w:World} (h:vJ w):13<w.heap.size:=World.block_lt_of_cell? w _ (h 0 de).1
theorem Per.am8 {X:Nat→Prop} {w:World} (h:vJ w) (hx:¬X 13):Per X w vJ:=fun b hb j hj=>
 ⟨(hb.cell (p:=⟨13,j*2,none⟩) h.lt hx).trans (h j hj).1,(hb.cell (p:=⟨13,j*2+1,none⟩) h.lt hx).trans (h j hj).2⟩
section
variable (w:World)
theorem vK (eY:Nat) (c0 c1 c2:Value) (e lp:Int) (j:Nat) (hj:j<696) (hB:aB w eY 257 #[c0,c1,c2]) (hT:vJ w) (hne:eY≠13) (he:-10000≤e∧e≤10000) (hlp:-10000≤lp∧lp≤10000) :
 Calls prog 253 #[.pointer (some ⟨eY,0,none⟩),.int .i64 e,.int .i64 (((j:Nat):Int)-348),.int .i64 lp] w fun en w'=>en= .returned (.tuple #[])∧aB w' eY 257 #[.int .u64 ((U6 j:Nat):Int),.int .u64 ((U7 j:Nat):Int),.int .i64 (0-(e+lp+3))]∧Ext (ak [some eY]) w w':=by
 refine zc func253 rfl ntmps253 rfl ?_;have vL:=hB;have HF:Per (ak [(some eY)]) w (fun _=>True):=Per.xE;have LW:=aF (ak [(some eY)]) w;have aj:=bD (ak [(some eY)]) w;have E:=aF (ak [(some eY)]) w;obtain ⟨HF,LW,E⟩:=cZ HF LW E aj (Per.am8 hT (fun h=>h.elim (fun e=>hne (Option.some.inj e).symm) (fun e=>e.elim)));refine ye ?_;refine yt ?_;refine za rfl (zgv (j:=j) underlying277 ZV rfl rfl om hj (aQ ?_));refine za rfl (jj u25 rfl rfl (by rw[Nat.zero_add];exact ((HF.on E).here.2 j hj).1) (zu ?_));refine zp (vu yA rfl rfl vL rfl rfl (Nat.le_of_ble_eq_true rfl) ?_);intro w1 Bx Bg;replace vL:=Bx;replace E:=E.step1 Bg ak.head;clear Bg;refine zt ?_;refine yt ?_;refine za rfl (zgv (j:=j) underlying277 ZV rfl rfl om hj (aQ ?_));refine za rfl (jj u25 rfl rfl (by rw[Nat.zero_add];exact ((HF.on E).here.2 j hj).2) (zu ?_));refine zp (vu yA rfl rfl vL rfl rfl (Nat.le_of_ble_eq_true rfl) ?_);intro w2 Bx Bg;replace vL:=Bx;replace E:=E.step1 Bg ak.head;clear Bg;refine zt ?_;refine yo ?_;refine yo ?_;refine zhq ?_;refine zu ?_;refine zp (vu G9 rfl rfl vL rfl rfl (Nat.le_of_ble_eq_true rfl) ?_);intro w3 Bx Bg;replace vL:=Bx;replace E:=E.step1 Bg ak.head;clear Bg;obtain ⟨HF,LW,aj,E⟩:=dz HF LW E aj (Y:=No) (ak.skip ak.aV) (Per.aS vL ah.nil);clear vL;refine aQ ?_;refine Vo rfl ?_;exact ⟨rfl,by first | exact (HF.on E).here.2 | exact vL,(LW.step E aj)⟩
end
theorem Rn {M x y:Nat} (hM:0<M) (hy:y≤M):((x:Int)-(y:Int))%(M:Int)=(((x+M-y)%M:Nat):Int):=by
 refine qrx (Nat.mod_lt _ hM) ?_;rw[Nat.mod_add_mod,Nat.sub_add_cancel om,Nat.add_mod_right]
theorem Bh {x y:Nat} (hy:y≤18446744073709551616):IntKind.u64.wrap (((x:Nat):Int)-((y:Nat):Int))=(((x+18446744073709551616-y)%18446744073709551616:Nat):Int):=by
 rw[IntKind.wrap_u64];exact Rn de hy
theorem am9 {s:Nat} (h:s<64):IntKind.i64.wrap (BitVec.ofInt IntKind.i64.bits ((s:Nat):Int) &&& BitVec.ofInt IntKind.i64.bits 63).toNat=((s:Nat):Int):=by
 have key:∀s:Fin 64,IntKind.i64.wrap (BitVec.ofInt IntKind.i64.bits (s.val:Int) &&& BitVec.ofInt IntKind.i64.bits 63).toNat=(s.val:Int):=by decide +kernel
 exact key ⟨s,h⟩
theorem XG (m n:Nat):(((m:Nat):Int) !=((n:Nat):Int))=decide (m≠n):=by
 by_cases h:m=n
 · subst h;simp
 · rw[decide_eq_true h];exact bne_iff_ne.2 om
def Nf (b:Bool):Nat:=if b then 1 else 0
theorem vM (b:Bool):Nf b≤1:=by cases b<;>decide
section
variable (w:World)
theorem FJ (b:Bool):Calls prog 224 #[.bool b] w (aH w (.int .u64 ((Nf b:Nat):Int))):=by
 refine zc func224 rfl ntmps224 rfl ?_;exact ad7
theorem amq (b:Bool):Calls prog 229 #[.bool b] w (aH w (.int .i64 ((Nf b:Nat):Int))):=by
 refine zc func229 rfl ntmps229 rfl ?_;exact ad7
def Dx (x hi:Nat):Nat:=x*hi/18446744073709551616
def Bj (x hi:Nat):Nat:=x*hi%18446744073709551616
def oV (x hi lo:Nat):Nat:=(Dx x hi+18446744073709551616-Nf (decide (Bj x hi<Dx x lo)))%18446744073709551616
def Bl (x hi lo:Nat):Nat:=(Bj x hi+18446744073709551616-Dx x lo)%18446744073709551616
def Lu (x hi lo s:Nat):Nat:=
 if Dx x hi/2^s*2^s%18446744073709551616≠Dx x hi then Dx x hi/2^s ||| 1
 else oV x hi lo/2^s ||| Nf (decide (1<Bl x hi lo))
theorem FK {x hi:Nat} (hx:x<18446744073709551616) (hh:hi<18446744073709551616):Dx x hi<18446744073709551616:=
 Nat.div_lt_of_lt_mul (Nat.lt_of_le_of_lt (Nat.mul_le_mul_left x (Nat.le_of_lt hh)) (Nat.mul_lt_mul_of_pos_right hx de))
theorem FL (gp x hi lo s:Nat) (hx:x<18446744073709551616) (hh:hi<18446744073709551616) (hl:lo<18446744073709551616) (hs:s<64) (hB:aB w gp 257 #[.int .u64 ((hi:Nat):Int),.int .u64 ((lo:Nat):Int),.int .i64 ((s:Nat):Int)]) :
 Calls prog 254 #[.int .u64 ((x:Nat):Int),.pointer (some ⟨gp,0,none⟩)] w (aH w (.int .u64 ((Lu x hi lo s:Nat):Int))):=by
 have h1:=FK hx hh;have h2:=FK hx hl;have h3:Bj x hi<18446744073709551616:=Nat.mod_lt _ de;have h4:oV x hi lo<18446744073709551616:=Nat.mod_lt _ de;have hd:∀m,m/2^s≤m:=fun m=>Nat.div_le_self _ _;refine zc func254 rfl ntmps254 rfl ?_;obtain ⟨HF,LW,aj,E⟩:=bg w;replace HF:=HF.and (Per.blk hB (fun h=>h.elim));refine jm ?_;refine zh rfl p9 rfl (qev x hi hx hh _) E fun w1 E=>(zd 16 (.tuple #[.int .u64 ((Dx x hi:Nat):Int),.int .u64 ((Bj x hi:Nat):Int)]) rfl (by rw[Dx,Bj]<;>rfl) (gf ?_));refine za rfl (kg rfl rfl (am9 hs) (yu ?_));refine za rfl (jo rfl rfl om (xe _ s hs) (aQ ?_));refine za rfl (gk rfl rfl om (WQ _ s hs) (ye ?_));refine ze 30 (.bool (decide (Dx x hi/2^s*2^s%18446744073709551616≠Dx x hi))) rfl (by rw[XG]<;>rfl) (zj rfl (fun hc=>?_) (fun hc=>?_))
 ·
  have hc:=of_decide_eq_true hc;refine ye ?_;refine za rfl (jo rfl rfl om (xe _ s hs) (za rfl (pJ rfl rfl (gz (n:=1) (Nat.lt_of_le_of_lt (hd _) h1) de) (zt ?_))));exact ⟨by rw[Lu,if_pos hc];rfl,(LW.step E aj).toBelow⟩
 ·
  have hc:=of_decide_eq_false hc;refine qo ?_;refine zh rfl p9 rfl (qev x lo hx hl _) E fun w2 E=>(zd 41 (.tuple #[.int .u64 ((Dx x lo:Nat):Int),.int .u64 ((x*lo%18446744073709551616:Nat):Int)]) rfl (by rw[Dx]<;>rfl) (gf ?_));refine zd 47 (.bool (decide (Bj x hi<Dx x lo))) rfl (xr om) (zh rfl OC rfl (FJ _ (decide (Bj x hi<Dx x lo))) E fun w3 E=>(za rfl (jn rfl rfl (Bh (Nat.le_trans (vM _) de)) (zd 49 (.int .u64 ((oV x hi lo:Nat):Int)) rfl (by rw[oV]<;>rfl) (ye ?_)))));have OY:∀q9,(ak (km [])) q9→q9<(World.drew w3).heap.size→(No) q9:=fun k h _=>(ak.none_) k h;refine yx (No) ak.none_ [] [] (xq [Fx.of (.int .u64 ((oV x hi lo:Nat):Int)),
   Fx.of (.int .i64 ((s:Nat):Int)),
   Fx.of (.int .u64 ((oV x hi lo/2^s:Nat):Int)),
   Fx.of (.int .u64 ((Bj x hi:Nat):Int)),
   Fx.of (.int .u64 ((Dx x lo:Nat):Int)),
   Fx.of (.int .u64 ((Bl x hi lo:Nat):Int)),
   Fx.of (.bool (decide (1<Bl x hi lo))),
   Fx.of (.int .u64 ((Nf (decide (1<Bl x hi lo)):Nat):Int)),
   Fx.of (.int .u64 ((oV x hi lo/2^s ||| Nf (decide (1<Bl x hi lo)):Nat):Int)),
   Fx.of (.int .u64 ((oV x hi lo/2^s ||| Nf (decide (1<Bl x hi lo)):Nat):Int))]) mixed rfl trivial (fun _ h=>by cases h) ?_ ?_
  · refine ⟨arm,arm,?_,arm,arm,?_,?_,?_,?_,arm,trivial⟩
    · refine qh ?_;intro vs X wq K;exact jo rfl rfl om (xe _ s hs) ⟨Below.refl _ _,Left.of rfl⟩
    · refine qh ?_;intro vs X wq K;exact jn rfl rfl (Bh (Nat.le_of_lt h2)) ⟨Below.refl _ _,Left.of rfl⟩
    · refine qh ?_;intro vs X wq K;exact sZ rfl rfl ⟨Below.refl _ _,Left.of (xr om)⟩
    · refine qh ?_;intro vs X wq K;refine zb OC rfl ((FJ _ (decide (1<Bl x hi lo))).mono ?_);exact II
    · refine qh ?_;intro vs X wq K;exact pJ rfl rfl (gz (Nat.lt_of_le_of_lt (hd _) h4) (Nat.lt_of_le_of_lt (vM _) de)) ⟨Below.refl _ _,Left.of rfl⟩
  intro vs w4 LE AO AL AF AA;replace E:=E.drew.trans (LE.mono OY);obtain ⟨_,e9,k9⟩:=AL.2.2.2.2.2.2.2.2.2.1;refine vo (τ:=[(4,.int .u64 ((oV x hi lo/2^s ||| Nf (decide (1<Bl x hi lo)):Nat):Int))]) ⟨congrArg some e9,trivial⟩ ?_;clear AL AF AA LE AO OY e9 k9;refine zq ?_;exact ⟨by rw[Lu,if_neg hc];rfl,(LW.step E aj).toBelow⟩
end
end Go.Proofs.YtmnmebdmpigddaaGreatDoor
namespace Go.Proofs.YtmnmebdmpigddaaGreatDoor
open Go.RowKit Proofs.Tryz
theorem qax {P Q:Prop} (k:Q) (h:(Unit→Q)→P:=by
 intro zK;refine za rfl (jl underlying3 u5 rfl (yr om) (yo ?_));exact zK ()):P:=h fun _=>k
theorem ji {P Q:Prop} (k:Q) (h:(Unit→Q)→P:=by
 intro zK;refine zv ?_;refine yo ?_;refine zu ?_;exact zK ()):P:=h fun _=>k
attribute [local irreducible] OW RS CW EW
def gM (x:Nat):Nat:=if x=0 then 0 else x.log2+1
theorem vN {x k:Nat} (h:x<2^k):gM x≤k:=by
 unfold gM;split
 · omega
 · rename_i h0
   have:=(Nat.log2_lt h0).2 h;omega
theorem lX {x k:Nat} (h:2^k≤x):gM x=gM (x/2^k)+k:=by
 have hp:=xc k;have h1:x≠0:=om;have h2:x/2^k≠0:=by have:=Nat.div_pos h hp;omega
 unfold gM;rw[if_neg h1,if_neg h2];have e:x.log2=(x/2^k).log2+k:=by
  refine (Nat.log2_eq_iff h1).2 ⟨?_,?_⟩
  · have:=Nat.log2_self_le h2;rw[Nat.pow_add];exact Nat.le_trans (Nat.mul_le_mul_right _ this) (Nat.div_mul_le_self _ _)
  · have:=@Nat.lt_log2_self (x/2^k);have h3:x<(x/2^k+1)*2^k:=by
     have:=Nat.div_add_mod x (2^k);have h4:=Nat.mod_lt x hp;rw[Nat.add_mul,Nat.one_mul,Nat.mul_comm];omega
    rw[show (x/2^k).log2+k+1=(x/2^k).log2+1+k from om,Nat.pow_add];exact Nat.lt_of_lt_of_le h3 (Nat.mul_le_mul_right _ this)
 omega
def Ro:ByteArray:=⟨#[0,1,2,2,3,3,3,3,4,4,4,4,4,4,4,4,5,5,5,5,5,5,5,5,5,5,5,5,5,5,5,5,6,6,6,6,6,6,6,6,6,6,6,6,6,6,6,6,6,6,6,6,6,6,6,6,6,6,6,6,6,6,6,6,7,7,7,7,7,7,7,7,7,7,7,7,7,7,7,7,7,7,7,7,7,7,7,7,7,7,7,7,7,7,7,7,7,7,7,7,7,7,7,7,7,7,7,7,7,7,7,7,7,7,7,7,7,7,7,7,7,7,7,7,7,7,7,7,8,8,8,8,8,8,8,8,8,8,8,8,8,8,8,8,8,8,8,8,8,8,8,8,8,8,8,8,8,8,8,8,8,8,8,8,8,8,8,8,8,8,8,8,8,8,8,8,8,8,8,8,8,8,8,8,8,8,8,8,8,8,8,8,8,8,8,8,8,8,8,8,8,8,8,8,8,8,8,8,8,8,8,8,8,8,8,8,8,8,8,8,8,8,8,8,8,8,8,8,8,8,8,8,8,8,8,8,8,8,8,8,8,8,8,8,8,8,8,8,8,8,8,8,8,8,8,8]⟩
theorem Lv {u:Nat} (h:u<256):(Ro.data[u]?).map (·.toNat)=some (gM u):=by
 have key:∀v:Fin 256,(Ro.data[v.val]?).map (·.toNat)=some (gM v.val):=by decide +kernel
 exact key ⟨u,h⟩
section
variable (w:World)
theorem Lx (x:Nat) (hx:x<18446744073709551616):Calls prog 196 #[.int .u64 ((x:Nat):Int)] w (aH w (.int .i64 ((gM x:Nat):Int))):=by
 refine zc func196 rfl ntmps196 rfl ?_;have LW:=aF (No) w;have aj:=bD (No) w;have E:=aF (No) w;refine jm ?_;replace LW:=LW.step E aj;replace E:=aF (No) w;refine yw (ι:=Nat×Nat) (fun (y,n)=>[(0,.int .u64 ((y:Nat):Int)),(2,.int .i64 ((n:Nat):Int))]) (fun (y,n) w'=>Ext (No) w w'∧(gM x=gM y+n∧y<4294967296∧n≤32)) ?_ ?_
 ·
  have M1:=aF (No) w;have dM:=bD (No) w;refine zj rfl (fun h=>?_) (fun h=>?_)
  ·
   have h:=of_decide_eq_true h;refine zq ?_;refine za rfl (jo rfl rfl de (xe x 32 de) (zt ?_));exact yk (x/2^32,32) ⟨rfl,rfl,trivial⟩ ⟨M1.step E dM,lX (by show 4294967296≤x;omega),(Nat.div_lt_iff_lt_mul (xc 32)).2 (by show x<18446744073709551616;omega),Nat.le_refl _⟩
  ·
   have h:=of_decide_eq_false h;refine aQ ?_;exact yk (x,0) ⟨rfl,rfl,trivial⟩ ⟨M1.step E dM,rfl,by show x<4294967296;omega,de⟩
 ·
  rintro ⟨y,n⟩ w2 ⟨M1,⟨hy1,hy2,hy3⟩⟩;replace E:=E.trans M1;replace LW:=LW.step E aj;replace E:=aF (No) w2;refine zr ?_;replace LW:=LW.step E aj;replace E:=aF (No) w2;refine yw (ι:=Nat×Nat) (fun (z,m)=>[(0,.int .u64 ((z:Nat):Int)),(2,.int .i64 ((m:Nat):Int))]) (fun (z,m) w'=>Ext (No) w2 w'∧(gM x=gM z+m∧z<65536∧m≤48)) ?_ ?_
  ·
   have M3:=aF (No) w2;have fA:=bD (No) w2;refine zj rfl (fun h=>?_) (fun h=>?_)
   ·
    have h:=of_decide_eq_true h;have hs:=lX (x:=y) (k:=16) (by show 65536≤y;omega);refine zq ?_;refine za rfl (jo rfl rfl de (xe y 16 de) (ji ?_));exact yk (y/2^16,n+16) ⟨rfl,congrArg (fun z:Int=>some (Value.int .i64 z)) om,trivial⟩ ⟨M3.step E fA,by show gM x=gM (y/2^16)+(n+16);omega,(Nat.div_lt_iff_lt_mul (xc 16)).2 hy2,by show n+16≤48;omega⟩
   ·
    have h:=of_decide_eq_false h;refine aQ ?_;exact yk (y,n) ⟨rfl,rfl,trivial⟩ ⟨M3.step E fA,hy1,by show y<65536;omega,by show n≤48;omega⟩
  ·
   rintro ⟨z,m⟩ w4 ⟨M3,⟨hz1,hz2,hz3⟩⟩;replace E:=E.trans M3;replace LW:=LW.step E aj;replace E:=aF (No) w4;refine zr ?_;replace LW:=LW.step E aj;replace E:=aF (No) w4;refine yw (ι:=Nat×Nat) (fun (u,k)=>[(0,.int .u64 ((u:Nat):Int)),(2,.int .i64 ((k:Nat):Int))]) (fun (u,k) w'=>Ext (No) w4 w'∧(gM x=gM u+k∧u<256∧k≤56)) ?_ ?_
   ·
    have M5:=aF (No) w4;have Ng:=bD (No) w4;refine zj rfl (fun h=>?_) (fun h=>?_)
    ·
     have h:=of_decide_eq_true h;have hs:=lX (x:=z) (k:=8) (by show 256≤z;omega);refine zq ?_;refine za rfl (jo rfl rfl de (xe z 8 de) (ji ?_));exact yk (z/2^8,m+8) ⟨rfl,congrArg (fun z:Int=>some (Value.int .i64 z)) om,trivial⟩ ⟨M5.step E Ng,by show gM x=gM (z/2^8)+(m+8);omega,(Nat.div_lt_iff_lt_mul (xc 8)).2 hz2,by show m+8≤56;omega⟩
    ·
     have h:=of_decide_eq_false h;refine aQ ?_;exact yk (z,m) ⟨rfl,rfl,trivial⟩ ⟨M5.step E Ng,hz1,by show z<256;omega,by show m≤56;omega⟩
   ·
    rintro ⟨u,k⟩ w6 ⟨M5,⟨hu1,hu2,hu3⟩⟩;replace E:=E.trans M5;replace LW:=LW.step E aj;replace E:=aF (No) w6;have hul:=vN (x:=u) (k:=8) hu2;refine ye ?_;refine za rfl (jl u5 u25 rfl (ywz om) (za rfl (yp (j:=u) (b:=gM u) u9 rfl rfl rfl (Lv hu2) (qax ?_))));refine zv ?_;exact ⟨by rw[hu1,Int.natCast_add,Int.add_comm];rfl,(LW.step E aj).toBelow⟩
end
end Go.Proofs.YtmnmebdmpigddaaGreatDoor
namespace Go.Proofs.YtmnmebdmpigddaaGreatDoor
open Go.RowKit Proofs.Tryz
theorem yxv {P Q:Prop} (k:Q) (h:(Unit→Q)→P:=by
 intro zK;refine za rfl (xn rfl rfl (yr om) ?_);exact zK ()):P:=h fun _=>k
theorem Rp {P:Prop} (h:P:=by
 by_cases h:m=0
 · subst h;rfl
 · rw[decide_eq_false h];exact beq_eq_false_iff_ne.2 om):P:=h
theorem XH (m:Int) (k:Nat) (hk:k<64):m.fdiv (2^(min ((k:Nat):Int).toNat IntKind.i64.bits))=m/((2^k:Nat):Int):=by
 rw[Int.toNat_natCast,show min k IntKind.i64.bits=k from Nat.min_eq_left (by show k≤64;omega),Int.fdiv_eq_ediv_of_nonneg _ (Int.le_of_lt (Int.pow_pos de))];rw[show (2:Int)^k=((2^k:Nat):Int) by simp]
def l2p (p:Int):Int:=p*108853/32768
def lY (u:Nat):Nat:=(u+1+(u/2^2 &&& 1))/2^2
theorem zgk (u:Nat):u &&& 1≤1:=Nat.and_le_right
def lZ (m:Nat):Nat:=m &&& 9223372036854775808
def U8 (m:Nat):Nat:=m &&& 18442240474082181119
def Bn (m:Nat):Nat:=lZ m ||| 9218868437227405312
def Bo (m k:Nat):Nat:=U8 m ||| (k*2^52%18446744073709551616)
def U9 (m k:Nat):Nat:=
 if m &&& 4503599627370496=0 then m
 else if 2047≤k then Bn m
 else Bo m k
def qsq (m k:Nat):Value:=
 if m &&& 4503599627370496=0 then .nilIface
 else if 2047≤k then .iface 183 (.int .i64 1)
 else .nilIface
theorem LA {m:Nat} (hm:m<18446744073709551616):IntKind.u64.wrap (BitVec.ofInt IntKind.u64.bits (m:Int) &&& ~~~BitVec.ofInt IntKind.u64.bits 4503599627370496).toNat=((m &&& 18442240474082181119:Nat):Int):=by
 have e: ~~~BitVec.ofInt IntKind.u64.bits 4503599627370496=BitVec.ofInt IntKind.u64.bits ((18442240474082181119:Nat):Int):=by decide +kernel
 rw[e];exact kt hm de
theorem amx {m:Nat} (hm:m<18446744073709551616):IntKind.u64.wrap (BitVec.ofInt IntKind.u64.bits ((lZ m:Nat):Int) ||| BitVec.ofInt IntKind.u64.bits 9218868437227405312).toNat=((Bn m:Nat):Int):=
 gz (m:=lZ m) (n:=9218868437227405312) (Nat.lt_of_le_of_lt Nat.and_le_left hm) de
theorem amj {m k:Nat} (hm:m<18446744073709551616):IntKind.u64.wrap (BitVec.ofInt IntKind.u64.bits ((U8 m:Nat):Int) ||| BitVec.ofInt IntKind.u64.bits ((k*2^52%18446744073709551616:Nat):Int)).toNat=((Bo m k:Nat):Int):=
 gz (m:=U8 m) (n:=k*2^52%18446744073709551616) (Nat.lt_of_le_of_lt Nat.and_le_left hm) (Nat.mod_lt _ de)
theorem XJ (m:Nat):(((m:Nat):Int)==0)=decide (m=0):=by
 exact Rp
attribute [local irreducible] OW RS CW EW
section
variable (w:World)
theorem XK (p:Int) (hp:-10000≤p∧p≤10000):Calls prog 252 #[.int .i64 p] w (aH w (.int .i64 (l2p p))):=by
 refine zc func252 rfl ntmps252 rfl ?_;have LW:=aF (No) w;have aj:=bD (No) w;have E:=aF (No) w;refine yu ?_;refine yxv ?_;refine za rfl (jo rfl rfl de (XH _ 15 de) ?_);exact ykq
theorem LC (u:Nat) (hu:u<144115188075855872):Calls prog 257 #[.int .u64 ((u:Nat):Int)] w (aH w (.int .u64 ((lY u:Nat):Int))):=by
 have h1:=zgk (u/2^2);have h2:u/2^2≤u:=Nat.div_le_self _ _;refine zc func257 rfl ntmps257 rfl ?_;have LW:=aF (No) w;have aj:=bD (No) w;have E:=aF (No) w;refine yu ?_;refine oh ?_;refine aQ ?_;refine za rfl (jo rfl rfl de (xe _ 2 de) (za rfl (kg rfl rfl (kt (n:=1) om de) (oh ?_))));refine za rfl (jo rfl rfl de (xe _ 2 de) ?_);exact ykq
theorem Rq (m k:Nat) (hm:m<18446744073709551616) (hk:1≤k∧k≤10000):Calls prog 259 #[.int .u64 ((m:Nat):Int),.int .i64 (((k:Nat):Int)-1075)] w (aH w (.tuple #[.float .f64 (U9 m k),qsq m k])):=by
 refine zc func259 rfl ntmps259 rfl ?_;have LW:=aF (No) w;have aj:=bD (No) w;have E:=aF (No) w;refine zy ?_;refine za rfl (kg rfl rfl (kt (n:=4503599627370496) hm de) (zq ?_));refine ze 8 (.bool (decide (m &&& 4503599627370496=0))) rfl (by rw[XJ]<;>rfl) (zj rfl (fun h=>?_) (fun h=>?_))
 ·
  have h:=of_decide_eq_true h;refine zq ?_;refine za rfl (vi (b:=m) jN rfl (zr ?_));exact ⟨by rw[U9,qsq,if_pos h,if_pos h];rfl,(LW.step E aj).toBelow⟩
 ·
  have h:=of_decide_eq_false h;refine qo ?_;refine ze 12 (.bool (decide (2047≤k))) rfl (xr om) (zj rfl (fun h'=>?_) (fun h'=>?_))
  ·
   have h':=of_decide_eq_true h';refine zq ?_;refine za rfl (kg rfl rfl (kt (n:=9223372036854775808) hm de) (zd 14 (.int .u64 ((lZ m:Nat):Int)) rfl (by rw[lZ]<;>rfl) (za rfl (pJ rfl rfl (amx hm) (za rfl (vi (b:=Bn m) jN rfl (za rfl (D5 kr rfl (zr ?_)))))))));exact ⟨by rw[U9,qsq,if_neg h,if_neg h,if_pos h',if_pos h'];rfl,(LW.step E aj).toBelow⟩
  ·
   have h':=of_decide_eq_false h';refine zv ?_;refine za rfl (zuz rfl rfl (LA hm) (aQ ?_));refine yo ?_;refine za rfl (jl u25 underlying3 rfl (wrap_u64 om) (zd 22 (.int .u64 ((k:Nat):Int)) rfl (by congr 1;omega) (zd 19 (.int .u64 ((U8 m:Nat):Int)) rfl (by rw[U8]<;>rfl) (za rfl (gk rfl rfl de (WQ k 52 de) (za rfl (pJ rfl rfl (amj hm) (za rfl (vi (b:=Bo m k) jN rfl (zt ?_))))))))));exact ⟨by rw[U9,qsq,if_neg h,if_neg h,if_neg h',if_neg h'];rfl,(LW.step E aj).toBelow⟩
end
def eF (d j:Nat):Int:=min 1074 (53-((gM d:Nat):Int)-l2p (((j:Nat):Int)-348))
def sF (d j:Nat):Nat:=(61-((gM d:Nat):Int)-l2p (((j:Nat):Int)-348)-eF d j).toNat
def xF (d:Nat):Nat:=d*2^(64-gM d)%18446744073709551616
def uF (d j:Nat):Nat:=Lu (xF d) (U6 j) (U7 j) (sF d j)
def kF (d j:Nat):Nat:=Nf (decide (36028797018963966≤uF d j))
def vF (d j:Nat):Nat:=uF d j/2^kF d j ||| (uF d j &&& 1)
def mF (d j sign:Nat):Nat:=sign ||| lY (vF d j)
def XM (d j sign:Nat):Nat:=if 64≤sF d j then sign ||| 0 else U9 (mF d j sign) ((1075-eF d j).toNat+kF d j)
def XO (d j sign:Nat):Value:=if 64≤sF d j then .nilIface else qsq (mF d j sign) ((1075-eF d j).toNat+kF d j)
theorem Bp {d:Nat} (h:0<d):1≤gM d:=by unfold gM;rw[if_neg om];omega
theorem rA {a b k:Nat} (ha:a<2^k) (hb:b<2^k):a ||| b<2^k:=Nat.or_lt_two_pow ha hb
theorem rC {a s:Nat} (h:a<18446744073709551616) (hs:8≤s):a/2^s<72057594037927936:=by
 refine Nat.lt_of_le_of_lt (Nat.div_le_div_left (Nat.pow_le_pow_right de hs) de) ((Nat.div_lt_iff_lt_mul (xc 8)).2 h)
theorem IV {x hi lo s:Nat} (hx:x<18446744073709551616) (hh:hi<18446744073709551616) (hs:8≤s):Lu x hi lo s<72057594037927936:=by
 have h1:=rC (FK hx hh) hs;have h2:=rC (a:=oV x hi lo) (Nat.mod_lt _ de) hs;unfold Lu;split
 · exact rA (k:=56) h1 de
 · exact rA (k:=56) h2 (Nat.lt_of_le_of_lt (vM _) de)
theorem aCx {d j:Nat} (h:uF d j<72057594037927936):vF d j<72057594037927936:=
 rA (k:=56) (Nat.lt_of_le_of_lt (Nat.div_le_self _ _) h) (Nat.lt_of_le_of_lt (zgk _) de)
theorem LD {u:Nat} (h:u<72057594037927936):lY u<18446744073709551616:=by
 have h1:=zgk (u/2^2);refine Nat.lt_of_le_of_lt (Nat.div_le_self _ _) om
theorem XP:Gives 255 #[.int .u64 9007199254740992] (.int .u64 36028797018963966):=by
 intro w;refine zc func255 rfl ntmps255 rfl ?_;have LW:=aF (No) w;have aj:=bD (No) w;have E:=aF (No) w;refine yu ?_;refine za rfl (gk (z:=36028797018963968) rfl rfl de kr (za rfl (jn (z:=36028797018963966) rfl rfl kr (ye ?_))));refine ki (rs:=[.tmp 2]) (vs:=[.int .u64 36028797018963966]) rfl ⟨rfl,trivial⟩ ?_;exact vj
section
variable (w:World)
theorem vO (eY:Nat) (c0 c1 c2:Value) (e lp:Int) (j S:Nat) (hj:j<696) (hB:aB w eY 257 #[c0,c1,c2]) (hT:vJ w) (hne:eY≠13) (he:-10000≤e∧e≤10000) (hlp:-10000≤lp∧lp≤10000) (hS:((S:Nat):Int)=0-(e+lp+3)) :
 Calls prog 253 #[.pointer (some ⟨eY,0,none⟩),.int .i64 e,.int .i64 (((j:Nat):Int)-348),.int .i64 lp] w fun en w'=>en= .returned (.tuple #[])∧aB w' eY 257 #[.int .u64 ((U6 j:Nat):Int),.int .u64 ((U7 j:Nat):Int),.int .i64 ((S:Nat):Int)]∧Ext (ak [some eY]) w w':=by
 rw[hS];exact vK w eY c0 c1 c2 e lp j hj hB hT hne he hlp
theorem Bq (d j sign:Nat) (hd:0<d∧d<18446744073709551616) (hj:3≤j∧j≤658) (hs:sign<18446744073709551616) (hT:vJ w) :
 Calls prog 227 #[.int .u64 ((d:Nat):Int),.int .i64 (((j:Nat):Int)-348),.int .u64 ((sign:Nat):Int)] w (aH w (.tuple #[.float .f64 (XM d j sign),XO d j sign])):=by
 have hB1:=Bp hd.1;have hB2:gM d≤64:=vN (k:=64) hd.2;obtain ⟨B,hB⟩:∃B,B=gM d:=⟨_,rfl⟩;obtain ⟨L,hL⟩:∃L,L=l2p (((j:Nat):Int)-348):=⟨_,rfl⟩;have hL':-2000≤L∧L≤2000:=by rw[hL,l2p];omega
 obtain ⟨E0,hE0⟩:∃E0,E0=eF d j:=⟨_,rfl⟩;have hE1:E0=min 1074 (53-((B:Nat):Int)-L):=by rw[hE0,eF,hB,hL]
 obtain ⟨S,hS⟩:∃S,S=sF d j:=⟨_,rfl⟩;have hS1:((S:Nat):Int)=61-((B:Nat):Int)-L-E0:=by rw[hS,sF,←hB,←hL,←hE0];omega
 rw[←hB] at hB1 hB2;have hx:xF d<18446744073709551616:=Nat.mod_lt _ de;obtain ⟨_,ht1,ht2⟩:=vH (j:=j) om;have hu:uF d j<72057594037927936:=IV hx ht1 (by rw[←hS];omega);have hk:kF d j≤1:=vM _;have hv:=aCx hu;have hr:=LD hv;refine zc func227 rfl ntmps227 rfl ?_;obtain ⟨HF,LW,aj,E⟩:=bg w;replace HF:=HF.and (Per.am8 hT (fun h=>h.elim));refine qo ?_;refine za rfl (zb aa4 rfl ((Lx _ d hd.2).mono ?_));rintro e w1 ⟨rfl,hb⟩;refine ⟨_,rfl,?_⟩;replace E:=bQ E hb;clear hb;refine zd 15 (.int .i64 ((B:Nat):Int)) rfl (by rw[hB]<;>rfl) (zt ?_);refine za rfl (zb ax0 rfl ((XK _ (((j:Nat):Int)-348) om).mono ?_));rintro e w2 ⟨rfl,hb⟩;refine ⟨_,rfl,?_⟩;replace E:=bQ E hb;clear hb;refine zd 17 (.int .i64 L) rfl (by rw[hL]<;>rfl) (zt ?_);refine yt ?_;refine aQ ?_;refine yt ?_;refine za rfl (N9 rfl rfl (zd 22 (.int .i64 E0) rfl (by congr 1;rw[hE1];split<;>omega) (zv ?_)));refine za rfl (zkv au0 ?_);intro bM w4 aJ aM bN;obtain ⟨bN,HF,E,aj⟩:=aZ HF LW E aj aM bN;refine zt ?_;refine yt ?_;refine yt ?_;refine zu ?_;refine za rfl (zb ax1 rfl ((vO _ bM _ _ _ _ _ j S om aJ (HF.on E).here.2 (by have:=hT.lt;omega) om om om).mono ?_));rintro e w5 ⟨rfl,hB,hE⟩;refine ⟨_,rfl,?_⟩;replace aJ:=hB;clear hB;replace E:=E.step1 hE ak.head;clear hE;refine zy ?_;refine ze 32 (.bool (decide (64≤S))) rfl (xr om) (zj rfl (fun h=>?_) (fun h=>?_))
 ·
  have h:=of_decide_eq_true h;have h':64≤sF d j:=hS▸h;refine zq ?_;refine za rfl (pJ rfl rfl (gz (n:=0) hs de) (za rfl (vi (b:=sign ||| 0) jN rfl (zr ?_))));exact ⟨by rw[XM,XO,if_pos h',if_pos h'];rfl,(LW.step E aj).toBelow⟩
 ·
  have h:=of_decide_eq_false h;have h':¬64≤sF d j:=hS▸h;obtain ⟨HF,LW,aj,E⟩:=dz HF LW E aj (Y:=No) (ak.skip ak.aV) (Per.aS aJ ah.nil);refine zt ?_;refine yt ?_;refine zd 38 (.int .i64 ((64-B:Nat):Int)) rfl (by congr 1;omega) (za rfl (gk rfl rfl om (WQ d (64-B) om) (zd 39 (.int .u64 ((xF d:Nat):Int)) rfl (by rw[xF,hB]<;>rfl) (za rfl (zb ax2 rfl ((FL _ bM (xF d) (U6 j) (U7 j) S hx ht1 ht2 om (HF.on E).here.2).mono ?_))))));rintro e w6 ⟨rfl,hb⟩;refine ⟨_,rfl,?_⟩;replace E:=bQ E hb;clear hb;refine zd 40 (.int .u64 ((uF d j:Nat):Int)) rfl (by rw[uF,hS]<;>rfl) (zt ?_);refine za rfl (zb ax3 rfl ((XP _).mono ?_));rintro e w7 ⟨rfl,hb⟩;refine ⟨_,rfl,?_⟩;replace E:=bQ E hb;clear hb;refine aQ ?_;refine zd 43 (.bool (decide (36028797018963966≤uF d j))) rfl (xr om) (za rfl (zb awx rfl ((amq _ (decide (36028797018963966≤uF d j))).mono ?_)));rintro e w8 ⟨rfl,hb⟩;refine ⟨_,rfl,?_⟩;replace E:=bQ E hb;clear hb;refine zd 44 (.int .i64 ((kF d j:Nat):Int)) rfl (by rw[kF]<;>rfl) (zr ?_);refine za rfl (jo rfl rfl om (xe _ (kF d j) om) (aQ ?_));refine za rfl (kg rfl rfl (kt (n:=1) om de) (za rfl (pJ rfl rfl (gz (Nat.lt_of_le_of_lt (Nat.div_le_self _ _) om) (Nat.lt_of_le_of_lt (zgk _) de)) (zd 50 (.int .u64 ((vF d j:Nat):Int)) rfl (by rw[vF]<;>rfl) (zr ?_)))));refine yt ?_;refine zr ?_;refine za rfl (zb ax4 rfl ((LC _ (vF d j) om).mono ?_));rintro e w9 ⟨rfl,hb⟩;refine ⟨_,rfl,?_⟩;replace E:=bQ E hb;clear hb;refine za rfl (pJ rfl rfl (gz hs hr) (zd 57 (.int .u64 ((mF d j sign:Nat):Int)) rfl (by rw[mF]<;>rfl) (aQ ?_)));refine zhq ?_;refine zd 59 (.int .i64 ((((1075-E0).toNat+kF d j:Nat):Int)-1075)) rfl (by congr 1;omega) (za rfl (zb ax6 rfl ((Rq _ (mF d j sign) ((1075-E0).toNat+kF d j) (rA (k:=64) hs hr) om).mono ?_)));rintro e dI ⟨rfl,hb⟩;refine ⟨_,rfl,?_⟩;replace E:=bQ E hb;clear hb;refine yu ?_;exact ⟨by rw[XM,XO,if_neg h',if_neg h',←hE0];rfl,(LW.step E aj).toBelow⟩
end
end Go.Proofs.YtmnmebdmpigddaaGreatDoor
namespace Go.Proofs.YtmnmebdmpigddaaGreatDoor
open Go.RowKit
def aCj (b:Nat):Prop:=b≤9218868437227405312
theorem FM {m i:Nat} (h:m<2^i):m &&& 2^i=0:=by
 apply Nat.eq_of_testBit_eq
 intro j;rw[Nat.testBit_and,Nat.testBit_two_pow,Nat.zero_testBit];by_cases hj:i=j
 · subst hj;rw[Nat.testBit_lt_two_pow h];rfl
 · rw[decide_eq_false hj,Bool.and_false]
theorem Rs {m:Nat} (h:m<9007199254740992):U8 m<4503599627370496:=by
 have e:m=m &&& (2^53-1):=by rw[Nat.and_two_pow_sub_one_eq_mod,Nat.mod_eq_of_lt h]
 have e2:U8 m=m%2^52:=by
  unfold U8;rw[←Nat.and_two_pow_sub_one_eq_mod];conv=>lhs;rw[e]
  rw[Nat.and_assoc];have:(2^53-1) &&& 18442240474082181119=2^52-1:=by decide +kernel
  rw[this]
 rw[e2];exact Nat.mod_lt _ de
theorem FN {m k:Nat} (hm:m≤9007199254740992):aCj (U9 m k):=by
 unfold U9;split
 · unfold aCj;omega
 · rename_i h
   have hlt:m<9007199254740992:=by
    rcases Nat.lt_or_eq_of_le hm with h' | h'
    · exact h'
    · subst h';exact absurd (by decide +kernel) h
   split
   · have e:lZ m=0:=FM (i:=63) (by show m<9223372036854775808;omega);unfold Bn;rw[e];exact Nat.le_refl _
   · rename_i hk
     have hc:=Rs hlt;have hk':k*2^52%18446744073709551616=2^52*k:=by
      rw[Nat.mul_comm];exact Nat.mod_eq_of_lt (by show 4503599627370496*k<18446744073709551616;omega)
     unfold Bo;rw[hk',Nat.or_comm,←Nat.two_pow_add_eq_or_of_lt hc];show 4503599627370496*k+U8 m≤9218868437227405312
     omega
theorem zero_or (a:Nat):0 ||| a=a:=Nat.zero_or a
theorem LG {u:Nat} (h:u<36028797018963968):lY u≤9007199254740992:=by
 have h1:=zgk (u/2^2);unfold lY;show (u+1+(u/4 &&& 1))/4≤9007199254740992
 have h2:u/4 &&& 1≤1:=h1;omega
theorem an0 {d j:Nat} (h:uF d j<72057594037927936):vF d j<36028797018963968:=by
 unfold vF;refine rA (k:=55) ?_ (Nat.lt_of_le_of_lt (zgk _) de);unfold kF Nf;by_cases hc:36028797018963966≤uF d j
 · rw[decide_eq_true hc,if_pos rfl];show uF d j/2<36028797018963968
   omega
 · rw[decide_eq_false hc,if_neg de];show uF d j/1<36028797018963968
   omega
theorem aD0 {d j:Nat} (hd:0<d∧d<18446744073709551616) (hj:3≤j∧j≤658):uF d j<72057594037927936:=by
 obtain ⟨_,ht1,_⟩:=vH (j:=j) om;have hB1:=Bp hd.1;have hB2:gM d≤64:=vN (k:=64) hd.2;refine IV (Nat.mod_lt _ de) ht1 ?_;unfold sF eF;have:-2000≤l2p (((j:Nat):Int)-348)∧l2p (((j:Nat):Int)-348)≤2000:=by rw[l2p];omega
 omega
structure vR (g b o n c:Nat) (vs:List Value) (w:World):Prop where
 head:w.cell? ⟨g,0,none⟩=some (.slice (some ⟨b,o,none⟩) n c)
 cells:∀i v,vs[i]? =some v→w.cell? ⟨b,o+i,none⟩=some v
theorem Per.aR {X:Nat→Prop} {w:World} {p:Addr} {v:Value} (h:w.cell? p=some v) (hX:∀k,X k→w.heap.size≤k):Per X w (fun z=>z.cell? p=some v):=fun _ hb=>
 (hb.cell (World.block_lt_of_cell? w _ h) (fun hx=>Nat.lt_irrefl _ (Nat.lt_of_lt_of_le (World.block_lt_of_cell? w _ h) (hX _ hx)))).trans h
def gN:List Nat:=[4607182418800017408,4621819117588971520,4636737291354636288,4652007308841189376,4666723172467343360,4681608360884174848,4696837146684686336,4711630319722168320,4726483295884279808,4741671816366391296,4756540486875873280,4771362005757984768,4786511204640096256,4801453603149578240,4816244402031689728,4831355200913801216,4846369599423283200,4861130398305394688,4876203697187506176,4891288408196988160,4906019910204099648,4921056587992461136,4936209963552724370]
def nV (j:Nat):Nat:=gN.getD j 0
theorem rX {j:Nat} (h:j<23):(gN.map (fun f=>Value.float .f64 f))[j]? =some (.float .f64 (nV j)):=by
 have key:∀i:Fin 23,(gN[i.val]?)=some (nV i.val):=by decide +kernel
 rw[List.getElem?_map,key ⟨j,h⟩];rfl
theorem BI {j:Nat} (h:j<23):rg (nV j)<9218868437227405312∧rg (nV j)≠0∧ng (nV j)=false:=by
 have key:∀i:Fin 23,rg (nV i.val)<9218868437227405312∧rg (nV i.val)≠0∧ng (nV i.val)=false:=by decide +kernel
 exact key ⟨j,h⟩
def RJ:List Int:=[1,3,6,9,13,16,19,23,26]
def lcB (k:Nat):ByteArray:=⟨(Go.Pinned.cheatRows.getD k (0,[])).2.toArray⟩
theorem vS {k:Nat} (h:wX k):(Go.Pinned.cheatRows.getD k (0,[])).1=nU k∧(Go.Pinned.cheatRows.getD k (0,[])).2.map (·.toNat)=rQ k∧k<61:=by
 rcases h with rfl | rfl | rfl | rfl | rfl | rfl | rfl | rfl | rfl | rfl | rfl<;>exact ⟨by decide +kernel,by decide +kernel,de⟩
structure RL (b o c:Nat) (w:World):Prop where
 head:w.cell? ⟨16,0,none⟩=some (.slice (some ⟨b,o,none⟩) 61 c)
 delta:∀k,wX k→w.cell? ⟨b,o+k*2,none⟩=some (.int .i64 ((nU k:Nat):Int))
 cut:∀k,wX k→w.cell? ⟨b,o+k*2+1,none⟩=some (.string (lcB k))
structure dK (bp op cp bf of cf bl ol cl:Nat) (w:World):Prop where
 pow:vJ w
 man:w.cell? ⟨8,0,none⟩=some (.int .u64 52)
 exp:w.cell? ⟨8,1,none⟩=some (.int .u64 11)
 bias:w.cell? ⟨8,2,none⟩=some (.int .i64 (-1023))
 opt:w.cell? ⟨7,0,none⟩=some (.bool true)
 powtab:vR 11 bp op 9 cp (RJ.map (fun z=>Value.int .i64 z)) w
 ten:vR 12 bf of 23 cf (gN.map (fun f=>Value.float .f64 f)) w
 fZ:RL bl ol cl w
structure gV (bp bf bl n:Nat):Prop where
 pow:13<n
 info:8<n
 opt:7<n
 pt:11<n
 tn:12<n
 ch:16<n
 bp:bp<n
 bf:bf<n
 bl:bl<n
theorem dK.below {w:World} {bp op cp bf of cf bl ol cl:Nat} (h:dK bp op cp bf of cf bl ol cl w):gV bp bf bl w.heap.size:=
 have lt {p:Addr} {v:Value} (e:w.cell? p=some v):p.block<w.heap.size:=World.block_lt_of_cell? w _ e;⟨h.pow.lt,lt h.man,lt h.opt,lt h.powtab.head,lt h.ten.head,lt h.fZ.head,lt (h.powtab.cells 0 _ rfl),lt (h.ten.cells 0 _ rfl),lt (h.fZ.delta 1 (.inl rfl))⟩
theorem gV.le {bp bf bl n m:Nat} (h:gV bp bf bl n) (hm:n≤m):gV bp bf bl m:=
 ⟨Nat.lt_of_lt_of_le h.pow hm,Nat.lt_of_lt_of_le h.info hm,Nat.lt_of_lt_of_le h.opt hm,Nat.lt_of_lt_of_le h.pt hm,Nat.lt_of_lt_of_le h.tn hm,Nat.lt_of_lt_of_le h.ch hm,Nat.lt_of_lt_of_le h.bp hm,Nat.lt_of_lt_of_le h.bf hm,Nat.lt_of_lt_of_le h.bl hm⟩
theorem Per.dP {X:Nat→Prop} {w:World} {p:Addr} {v:Value} {n:Nat} (h:w.cell? p=some v) (hp:p.block<n) (hX:∀k,X k→n≤k):Per X w (fun z=>z.cell? p=some v):=fun _ hb=>
 (hb.cell (World.block_lt_of_cell? w _ h) (fun hx=>Nat.lt_irrefl _ (Nat.lt_of_lt_of_le hp (hX _ hx)))).trans h
theorem Per.I4 {X:Nat→Prop} {w:World} {bp op cp bf of cf bl ol cl n:Nat} (h:dK bp op cp bf of cf bl ol cl w) (hn:gV bp bf bl n) (hX:∀k,X k→n≤k):Per X w (dK bp op cp bf of cf bl ol cl):=fun z hz=>
 ⟨Per.am8 h.pow (fun hx=>Nat.lt_irrefl _ (Nat.lt_of_lt_of_le hn.pow (hX _ hx))) z hz,Per.dP h.man hn.info hX z hz,Per.dP h.exp hn.info hX z hz,Per.dP h.bias hn.info hX z hz,Per.dP h.opt hn.opt hX z hz,
  ⟨Per.dP h.powtab.head hn.pt hX z hz,fun i v hv=>Per.dP (h.powtab.cells i v hv) hn.bp hX z hz⟩,⟨Per.dP h.ten.head hn.tn hX z hz,fun i v hv=>Per.dP (h.ten.cells i v hv) hn.bf hX z hz⟩,
  ⟨Per.dP h.fZ.head hn.ch hX z hz,fun k hk=>Per.dP (h.fZ.delta k hk) hn.bl hX z hz,fun k hk=>Per.dP (h.fZ.cut k hk) hn.bl hX z hz⟩⟩
theorem Per.tabs {X:Nat→Prop} {w:World} {bp op cp bf of cf bl ol cl:Nat} (h:dK bp op cp bf of cf bl ol cl w) (hX:∀k,X k→w.heap.size≤k):Per X w (dK bp op cp bf of cf bl ol cl):=Per.I4 h h.below hX
theorem BJ (m:Nat):gU false (FloatKind.f64.nearest ((m:Nat):Int)):=by
 have e:FloatKind.f64.nearest ((m:Nat):Int)=Ieee.double.write (.number false m 0):=by
  show Ieee.double.write (.number (decide (((m:Nat):Int)<0)) ((m:Nat):Int).natAbs 0)=_
  rw[decide_eq_false om];rfl
 rw[e];have h:=zrv (d:=.number false m 0) rfl;exact ⟨h.1,zyk _ _ _,h.2⟩
theorem XZ {b:Nat} {n:Bool} (h:gU n b):gU (!n) (b ^^^ 9223372036854775808):=by
 obtain ⟨h1,h2,h3⟩:=zeq h.lt;have e:b ^^^ 9223372036854775808=qa b:=rfl;rw[e];exact ⟨by rw[bO,h1];exact h.num,by rw[h2,h.sg],h3⟩
end Go.Proofs.YtmnmebdmpigddaaGreatDoor
namespace Go.Proofs.YtmnmebdmpigddaaGreatDoor
open Go.RowKit Proofs.Tryz
theorem BK {P Q:Prop} (k:Q) (h:(Unit→Q)→P:=by
 intro zK;refine za rfl (jj oG rfl rfl (by rw[Nat.mul_one];exact (HF.on E).here.2.ten.cells _ _ (rX om)) ?_);exact zK ()):P:=h fun _=>k
theorem mD {P Q:Prop} (k:Q) (h:(Unit→Q)→P:=by
 intro zK;refine za rfl (jj D9 rfl rfl (HF.on E).here.2.ten.head (aQ ?_));exact zK ()):P:=h fun _=>k
theorem RN {P:Prop} (h:P:=by
 exact ⟨by rw[BL h h1 om om,hf];rfl,(LW.step E aj).toBelow⟩):P:=h
theorem FT {P:Prop} (h:P:=by
 exact ⟨by rw[hx];rfl,(LW.step E aj).toBelow⟩):P:=h
attribute [local irreducible] OW RS CW EW
def f0 (m:Nat) (neg:Bool):Nat:=if neg then FloatKind.f64.nearest ((m:Nat):Int) ^^^ 9223372036854775808 else FloatKind.f64.nearest ((m:Nat):Int)
theorem RO (m:Nat) (neg:Bool):gU neg (f0 m neg):=by
 cases neg
 · rw[f0,if_neg de];exact BJ m
 · rw[f0,if_pos rfl];exact XZ (BJ m)
def FU (f:Nat) (p:Int):Nat:=if 22<p then oi (cK .mul f (nV (p-22).toNat)) else f
def exQ (p:Int):Nat:=if 22<p then 22 else p.toNat
def vU (m:Nat) (p:Int) (neg:Bool):Nat×Bool:=
 if m/2^52≠0 then (0,false)
 else if p=0 then (f0 m neg,true)
 else if 0<p∧p≤37 then
  if (ks (FU (f0 m neg) p) 4831355200913801216==some .gt)=true∨(ks (FU (f0 m neg) p) 14054727237768577024==some .lt)=true then (FU (f0 m neg) p,false)
  else (oi (cK .mul (FU (f0 m neg) p) (nV (exQ p))),true)
 else if p<0∧ -22≤p then (oi (cK .quo (f0 m neg) (nV (-p).toNat)),true)
 else (f0 m neg,false)
theorem I5 {m:Nat} {p:Int} {neg:Bool} (h:m/2^52≠0):vU m p neg=(0,false):=by rw[vU,if_pos h]
theorem I6 {m:Nat} {p:Int} {neg:Bool} (h:¬m/2^52≠0) (h1:p=0):vU m p neg=(f0 m neg,true):=by rw[vU,if_neg h,if_pos h1]
theorem RP {m:Nat} {p:Int} {neg:Bool} (h:¬m/2^52≠0) (h1:¬p=0) (h2:0<p∧p≤37) {b:Bool} (hb:b=(ks (FU (f0 m neg) p) 4831355200913801216==some .gt || ks (FU (f0 m neg) p) 14054727237768577024==some .lt)):vU m p neg=if b then (FU (f0 m neg) p,false) else (oi (cK .mul (FU (f0 m neg) p) (nV (exQ p))),true):=by
 rw[vU,if_neg h,if_neg h1,if_pos h2,hb];simp only[Bool.or_eq_true]
theorem BM {m:Nat} {p:Int} {neg:Bool} (h:¬m/2^52≠0) (h1:¬p=0) (h2:¬(0<p∧p≤37)) (h3:p<0∧ -22≤p):vU m p neg=(oi (cK .quo (f0 m neg) (nV (-p).toNat)),true):=by rw[vU,if_neg h,if_neg h1,if_neg h2,if_pos h3]
theorem BL {m:Nat} {p:Int} {neg:Bool} (h:¬m/2^52≠0) (h1:¬p=0) (h2:¬(0<p∧p≤37)) (h3:¬(p<0∧ -22≤p)):vU m p neg=(f0 m neg,false):=by rw[vU,if_neg h,if_neg h1,if_neg h2,if_neg h3]
theorem RQ {f:Nat} {p:Int} (h:22<p):FU f p=oi (cK .mul f (nV (p-22).toNat)):=by rw[FU,if_pos h]
theorem RU {f:Nat} {p:Int} (h:¬22<p):FU f p=f:=by rw[FU,if_neg h]
theorem RV {p:Int} (h:22<p):exQ p=22:=by rw[exQ,if_pos h]
theorem RY {p:Int} (h:¬22<p):exQ p=p.toNat:=by rw[exQ,if_neg h]
attribute [local irreducible] f0 FU nV oi ks
theorem Ya (p q:Int):(p==q)=decide (p=q):=by by_cases h:p=q<;>simp[h]
theorem LX (m:Nat):(((m:Nat):Int) !=0)=decide (m≠0):=by
 by_cases h:m=0
 · subst h;rfl
 · rw[decide_eq_true h];exact bne_iff_ne.2 om
theorem qwx {f j:Nat} {n:Bool} (hf:gU n f) (hj:j<23):cK .mul f (nV j)=some (oi (cK .mul f (nV j)))∧gU n (oi (cK .mul f (nV j))):=by
 obtain ⟨h1,h2,h3⟩:=BI hj;obtain ⟨z,hz,hs⟩:=XQ hf h1 h2 h3;rw[qR hz];exact ⟨hz,hs⟩
theorem I7 {f j:Nat} {n:Bool} (hf:gU n f) (hj:j<23):cK .quo f (nV j)=some (oi (cK .quo f (nV j)))∧gU n (oi (cK .quo f (nV j))):=by
 obtain ⟨h1,h2,h3⟩:=BI hj;obtain ⟨z,hz,hs⟩:=XR hf h1 h2 h3;rw[qR hz];exact ⟨hz,hs⟩
theorem Yb {f:Nat} {p:Int} {n:Bool} (h:gU n f) (hp:p≤37):gU n (FU f p):=by
 by_cases h2:22<p
 · rw[RQ h2];exact (qwx h om).2
 · rw[RU h2];exact h
theorem an6 (p:Int):exQ p<23:=by
 by_cases h2:22<p
 · rw[RV h2];decide
 · rw[RY h2];omega
theorem Yc {m:Nat} {p:Int} {neg:Bool} (h:(vU m p neg).2=true):gU neg (vU m p neg).1:=by
 have h0:=RO m neg;by_cases a1:m/2^52≠0
 · rw[I5 a1] at h;cases h
 · by_cases a2:p=0
   · rw[I6 a1 a2];exact h0
   · by_cases a3:0<p∧p≤37
     · have hx:=RP (neg:=neg) a1 a2 a3 rfl;rw[hx] at h ⊢;split at h
       · cases h
       · rename_i hb
         rw[if_neg hb];exact (qwx (Yb h0 a3.2) (an6 p)).2
     · by_cases a4:p<0∧ -22≤p
       · rw[BM a1 a2 a3 a4];exact (I7 h0 om).2
       · rw[BL a1 a2 a3 a4] at h;cases h
section
variable (w:World) {bp op cp bf of cf bl ol cl:Nat}
theorem LY (m:Nat) (p:Int) (neg:Bool) (hp:-10000≤p∧p≤10000) (hT:dK bp op cp bf of cf bl ol cl w) :
 Calls prog 226 #[.int .u64 ((m:Nat):Int),.int .i64 p,.bool neg] w (aH w (.tuple #[.float .f64 (vU m p neg).1,.bool (vU m p neg).2])):=by
 refine zc func226 rfl ntmps226 rfl ?_;obtain ⟨HF,LW,aj,E⟩:=bg w;replace HF:=HF.and (Per.tabs hT (fun _ h=>h.elim));refine yq ?_;refine za rfl (jj Oo rfl rfl (HF.on E).here.2.man (za rfl (jo rfl rfl de (xe m 52 de) (zq ?_))));refine ze 12 (.bool (decide (m/2^52≠0))) rfl (by rw[LX]<;>rfl) (zj rfl (fun h=>?_) (fun h=>?_))
 ·
  have h:=of_decide_eq_true h;refine zq ?_;exact ⟨by rw[I5 h];rfl,(LW.step E aj).toBelow⟩
 ·
  have h:=of_decide_eq_false h;refine zv ?_;refine za rfl (ah9 oG (by rw[u25];rfl) rfl (qo ?_));replace HF:=HF.on E;replace LW:=LW.step E aj;replace E:=aF (No) w;refine yw (ι:=Nat) (fun f=>[(1,.int .i64 p),(7,.bool false),(6,.float .f64 f)]) (fun f w'=>Ext (No) w w'∧(f=f0 m neg)) ?_ ?_
  ·
   have M1:=aF (No) w;have dM:=bD (No) w;refine zj rfl (fun hn=>?_) (fun hn=>?_)
   ·
    refine zu ?_;refine za rfl (G7 rfl (zu ?_));exact yk (FloatKind.f64.nearest ((m:Nat):Int) ^^^ 9223372036854775808) ⟨rfl,rfl,rfl,trivial⟩ ⟨M1.step E dM,by rw[hn,f0,if_pos rfl]⟩
   ·
    refine aQ ?_;exact yk (FloatKind.f64.nearest ((m:Nat):Int)) ⟨rfl,rfl,rfl,trivial⟩ ⟨M1.step E dM,by rw[hn,f0,if_neg de]⟩
  ·
   rintro f w2 ⟨M1,hf⟩;replace E:=E.trans M1;replace HF:=HF.on E;replace LW:=LW.step E aj;replace E:=aF (No) w2;have hs:=RO m neg;rw[←hf] at hs;refine qo ?_;refine ze 18 (.bool (decide (p=0))) rfl (by rw[Ya]<;>rfl) (zj rfl (fun h1=>?_) (fun h1=>?_))
   ·
    have h1:=of_decide_eq_true h1;refine yq ?_;exact ⟨by rw[I6 h h1,hf];rfl,(LW.step E aj).toBelow⟩
   ·
    have h1:=of_decide_eq_false h1;refine zv ?_;refine zz 25 rfl (fun h2=>?_) (fun h2=>?_)
    ·
     have h2:=of_decide_eq_true h2;refine zt ?_;refine zj rfl (fun h3=>?_) (fun h3=>?_)
     ·
      have h3:=of_decide_eq_true h3;refine zr ?_;replace HF:=HF.on E;replace LW:=LW.step E aj;replace E:=aF (No) w2;refine yw (ι:=Nat×Nat) (fun (g,q)=>[(1,.int .i64 ((q:Nat):Int)),(7,.bool false),(6,.float .f64 g)]) (fun (g,q) w'=>Ext (No) w2 w'∧(g=FU f p∧q=exQ p∧q<23∧gU neg g)) ?_ ?_
      ·
       have M3:=aF (No) w2;have fA:=bD (No) w2;refine zj rfl (fun h4=>?_) (fun h4=>?_)
       ·
        have h4:=of_decide_eq_true h4;have hmt:=qwx hs (j:=(p-22).toNat) om;refine zq ?_;refine mD ?_;refine yt ?_;refine za rfl (jx (j:=(p-22).toNat) D9 Oq rfl rfl om om (BK ?_));refine za rfl (N7 (.inr (.inr (.inl rfl))) rfl rfl hmt.1 (zt ?_));exact yk (oi (cK .mul f (nV (p-22).toNat)),22) ⟨rfl,rfl,rfl,trivial⟩ ⟨M3.step E fA,(RQ h4).symm,(RV h4).symm,de,hmt.2⟩
       ·
        have h4:=of_decide_eq_false h4;refine aQ ?_;exact yk (f,p.toNat) ⟨congrArg (fun z:Int=>some (Value.int .i64 z)) om,rfl,rfl,trivial⟩ ⟨M3.step E fA,(RU h4).symm,(RY h4).symm,om,hs⟩
      ·
       rintro ⟨g,q⟩ w4 ⟨M3,⟨hg,hq,an7,hgs⟩⟩;replace E:=E.trans M3;replace HF:=HF.on E;replace LW:=LW.step E aj;replace E:=aF (No) w4;have hx:=RP (neg:=neg) h h1 ⟨h2,h3⟩ rfl;rw[←hf,←hg,←hq] at hx;refine ye ?_;refine za rfl (tQ rfl rfl (aQ ?_));refine zz 40 rfl (fun h5=>?_) (fun h5=>?_)
       ·
        rw[h5,Bool.true_or,if_pos rfl] at hx;refine yq ?_;exact FT
       ·
        rw[h5,Bool.false_or] at hx;refine aQ ?_;refine bV rfl (qvq rfl rfl (zq ?_));refine zj rfl (fun h6=>?_) (fun h6=>?_)
        ·
         rw[h6,if_pos rfl] at hx;refine zv ?_;exact FT
        ·
         rw[h6,if_neg de] at hx;have hmt:=qwx hgs an7;refine zv ?_;refine mD ?_;refine za rfl (jx (j:=q) D9 Oq rfl rfl rfl an7 (za rfl (jj oG rfl rfl (by rw[Nat.mul_one];exact (HF.on E).here.2.ten.cells _ _ (rX an7)) (za rfl (N7 (.inr (.inr (.inl rfl))) rfl rfl hmt.1 (yu ?_))))));exact FT
     ·
      have h3:=of_decide_eq_false h3;refine zv ?_;refine zd 53 (.bool false) rfl (by rw[decide_eq_false om]<;>rfl) (jm ?_);exact RN
    ·
     have h2:=of_decide_eq_false h2;refine jm ?_;refine zd 53 (.bool true) rfl (by rw[decide_eq_true om]<;>rfl) (zt ?_);refine zj rfl (fun h3=>?_) (fun h3=>?_)
     ·
      have h3:=of_decide_eq_true h3;have hmt:=I7 hs (j:=(-p).toNat) om;refine zq ?_;refine mD ?_;refine zhq ?_;refine za rfl (jx (j:=(-p).toNat) D9 Oq rfl rfl om om (BK ?_));refine za rfl (N7 (.inr (.inr (.inr rfl))) rfl rfl hmt.1 (yu ?_));exact ⟨by rw[BM h h1 om ⟨om,h3⟩,hf];rfl,(LW.step E aj).toBelow⟩
     ·
      have h3:=of_decide_eq_false h3;refine zv ?_;exact RN
end
end Go.Proofs.YtmnmebdmpigddaaGreatDoor
namespace Go.Proofs.YtmnmebdmpigddaaGreatDoor
open Go.RowKit Proofs.Tryz
theorem ve {P Q:Prop} (k:Q) (h:(Unit→Q)→P:=by
 intro zK;refine za rfl (ynk u9 rfl ?_);exact zK ()):P:=h fun _=>k
theorem adq {P:Prop} (h:P:=by
 refine qc rfl (yq ?_);refine ki (rs:=[.tmp 2,.tmp 3,.tmp 4]) (vs:=[_,_,_]) rfl ⟨rfl,rfl,rfl,trivial⟩ ?_;exact vj):P:=h
attribute [local irreducible] OW RS CW EW
theorem Yd {s:ByteArray} {j u:Nat} (h:(s.data[j]?).map (·.toNat)=some u):j<s.size∧u<256:=by
 obtain ⟨c,h1,rfl⟩:=Option.map_eq_some_iff.1 h;have h2:j<s.data.size:=by
  rcases Nat.lt_or_ge j s.data.size with h3 | h3
  · exact h3
  · rw[Array.getElem?_eq_none h3] at h1;cases h1
 exact ⟨h2,c.toNat_lt⟩
theorem jw {p q:Int} (h:p≠q):(p==q)=false:=beq_eq_false_iff_ne.2 h
theorem aD3 {u:Nat} (h:u<256):IntKind.u8.wrap (BitVec.ofInt IntKind.u8.bits ((u:Nat):Int) ||| BitVec.ofInt IntKind.u8.bits 32).toNat=((u ||| 32:Nat):Int):=by
 have key:∀v:Fin 256,IntKind.u8.wrap (BitVec.ofInt IntKind.u8.bits (v.val:Int) ||| BitVec.ofInt IntKind.u8.bits 32).toNat=((v.val ||| 32:Nat):Int):=by decide +kernel
 exact key ⟨u,h⟩
section
variable (w:World)
theorem LZ (u:Nat) (hu:u<256):Calls prog 180 #[.int .u8 ((u:Nat):Int)] w (aH w (.int .u8 ((u ||| 32:Nat):Int))):=by
 refine zc func180 rfl ntmps180 rfl ?_;have LW:=aF (No) w;have aj:=bD (No) w;have E:=aF (No) w;refine yu ?_;refine za rfl (pJ rfl rfl (aD3 hu) ?_);exact ykq
theorem oZ (s:ByteArray) (u:Nat) (hu:(s.data[0]?).map (·.toNat)=some u) (hd:48≤u∧u≤57):Calls prog 215 #[.string s] w (aH w (.tuple #[.float .f64 0,.int .i64 0,.bool false])):=by
 have hs:=(Yd hu).1;refine zc func215 rfl ntmps215 rfl ?_;have LW:=aF (No) w;have aj:=bD (No) w;have E:=aF (No) w;refine yq ?_;refine ve ?_;refine zq ?_;refine ze 10 (.bool false) rfl (by rw[jw om]) (Ed ?_);refine za rfl (yp (j:=0) (b:=u) u9 rfl rfl rfl hu (Dt ?_));refine ze 13 (.bool false) rfl (by rw[jw om]<;>rfl) (zt ?_);refine ze 13 (.bool false) rfl (by rw[jw om]<;>rfl) (yq ?_);refine ze 16 (.bool false) rfl (by rw[jw om]<;>rfl) (zt ?_);refine ze 16 (.bool false) rfl (by rw[jw om]<;>rfl) (zy ?_);refine ze 19 (.bool false) rfl (by rw[jw om]<;>rfl) (zt ?_);refine ze 19 (.bool false) rfl (by rw[jw om]<;>rfl) (ye ?_);refine qc rfl (aQ ?_);refine qc rfl (aQ ?_);exact adq
end
end Go.Proofs.YtmnmebdmpigddaaGreatDoor
namespace Go.Proofs.YtmnmebdmpigddaaGreatDoor
open Go.RowKit
def eO (neg:Bool):Nat:=if neg then 9223372036854775808 else 0
theorem vY (neg:Bool):eO neg<18446744073709551616:=by cases neg<;>decide
theorem qkq {x:Nat} (h:x≤9218868437227405312) (neg:Bool):gU neg (eO neg ||| x):=by
 cases neg with
 | false=>
  rw[show eO false=0 from rfl,Nat.zero_or];refine ⟨?_,?_,om⟩
  · unfold bO rg;exact decide_eq_false om
  · unfold ng;exact beq_eq_false_iff_ne.2 om
 | true=>
  have e:eO true ||| x=9223372036854775808+x:=by
   have h1:x<2^63:=by show x<9223372036854775808;omega
   have h2:=Nat.two_pow_add_eq_or_of_lt h1 1;have h3:(2^63*1:Nat)=9223372036854775808:=de;rw[h3] at h2;exact h2.symm
  rw[e];refine ⟨?_,?_,om⟩
  · unfold bO rg;exact decide_eq_false om
  · unfold ng;exact beq_iff_eq.2 om
theorem Sl (m k:Nat) (neg:Bool):U9 (eO neg ||| m) k=eO neg ||| U9 m k:=by
 have e1:eO neg &&& 4503599627370496=0:=by cases neg<;>decide +kernel
 have e2:eO neg &&& 9223372036854775808=eO neg:=by cases neg<;>decide +kernel
 have e3:eO neg &&& 18442240474082181119=eO neg:=by cases neg<;>decide +kernel
 unfold U9 Bn Bo lZ U8;rw[Nat.and_or_distrib_right,Nat.and_or_distrib_right,Nat.and_or_distrib_right,e1,e2,e3,Nat.zero_or];split
 · rfl
 · split
   · rw[Nat.or_assoc]
   · rw[Nat.or_assoc]
theorem Sm {d j:Nat} (neg:Bool) (hd:0<d∧d<18446744073709551616) (hj:3≤j∧j≤658):gU neg (XM d j (eO neg)):=by
 unfold XM;split
 · exact qkq (Nat.zero_le _) neg
 · unfold mF;rw[Sl];exact qkq (FN (LG (an0 (aD0 hd hj)))) neg
theorem Sn (m e:Nat) (neg:Bool):rY m e neg=eO neg ||| ((m &&& 4503599627370495) ||| e*4503599627370496):=by
 unfold rY;cases neg with
 | false=>rw[if_neg de,show eO false=0 from rfl,Nat.zero_or]
 | true=>rw[if_pos rfl,Nat.or_comm];rfl
theorem Sq {m e:Nat} {neg:Bool} (h:e≤2046∨(m=0∧e=2047)):gU neg (rY m e neg):=by
 rw[Sn];refine qkq ?_ neg;rcases h with h | ⟨rfl,rfl⟩
 · have h1:m &&& 4503599627370495<2^52:=by
    have:m &&& 4503599627370495≤4503599627370495:=Nat.and_le_right;show m &&& 4503599627370495<4503599627370496;omega
   have h2:=Nat.two_pow_add_eq_or_of_lt h1 e;have h3:(2^52:Nat)=4503599627370496:=de;rw[h3] at h1 h2;rw[Nat.or_comm,Nat.mul_comm e,←h2];omega
 · decide +kernel
def anz (r:Nat×Nat×Bool):Prop:=r.2.1≤2046∨(r.1=0∧r.2.1=2047)
theorem Cc {t:Dec} {e:Int} (h:e≤1023):anz (qtq t e):=by
 unfold qtq;split
 · split
   · exact .inr ⟨rfl,rfl⟩
   · exact .inl (by show (e+1+1023).toNat≤2046;omega)
 · refine .inl ?_;show (if Ja t &&& 4503599627370496=0 then 0 else (e+1023).toNat)≤2046
   split<;>omega
theorem Sr (t:Dec) (e:Int):anz (rZ t e):=by
 unfold rZ;split
 · exact Cc de
 · split
   · exact .inr ⟨rfl,rfl⟩
   · exact Cc om
theorem Sv (t:Dec):anz (vV t):=by
 unfold vV;split
 · exact .inl (Nat.zero_le _)
 · split
   · exact .inr ⟨rfl,rfl⟩
   · split
     · exact .inl (Nat.zero_le _)
     · exact Sr _ _
theorem Me (t:Dec):gU t.neg (Jc t):=Sq (Sv t)
theorem anj (s:ByteArray) (a:Jd):(kk s a).t.neg=a.t.neg:=by
 unfold kk;exact vW
theorem Yk {s:ByteArray} {f p E q:Nat} (neg:Bool) (hs:Nm s f p E q):(stA s f neg).t.neg=neg:=by
 have h:=vr (done:=Md s) (step:=kk s) (fun a=>Yg s f p E q a∧a.t.neg=neg) (fun t=>E-t.i) (fun t h hd=>?_) ⟨qkx neg hs,rfl⟩
 · exact h.1.2
 · obtain ⟨h1,h2⟩:=qkz hs h.1 hd;refine ⟨⟨h1,by rw[anj];exact h.2⟩,?_⟩;rw[aD5];omega
theorem Sw {s:ByteArray} {f p E q:Nat} (neg:Bool) (hs:Nm s f p E q):(fB s f neg).neg=neg:=Yk neg hs
def dW:Value:=.iface 183 (.int .i64 1)
noncomputable def iB (s:ByteArray) (f:Nat):Nat:=(Mc s f).m
noncomputable def Mf (s:ByteArray) (f:Nat):Bool:=(Mc s f).tr
noncomputable def Ce (s:ByteArray) (f:Nat):Nat:=(Ca s f+348).toNat
noncomputable def atF (s:ByteArray) (f:Nat) (neg:Bool):Nat:=XM (iB s f) (Ce s f) (eO neg)
noncomputable def atG (s:ByteArray) (f:Nat) (neg:Bool):Nat:=XM (iB s f+1) (Ce s f) (eO neg)
noncomputable def atL (s:ByteArray) (f:Nat) (neg:Bool):Bool:=ks (atF s f neg) (atG s f neg)==some .eq
noncomputable def iK (s:ByteArray) (f:Nat) (neg:Bool):Nat:=
 if iB s f=0 then eO neg ||| 0
 else if 310<Ca s f then eO neg ||| 9218868437227405312
 else if Ca s f< -345 then eO neg ||| 0
 else if Mf s f=false∧(vU (iB s f) (Ca s f) neg).2=true then (vU (iB s f) (Ca s f) neg).1
 else if Mf s f=false∨atL s f neg=true then atF s f neg
 else Jc (fB s f neg)
noncomputable def mJ (s:ByteArray) (f:Nat) (neg:Bool):Value:=
 if iB s f=0 then .nilIface
 else if 310<Ca s f then dW
 else if Ca s f< -345 then .nilIface
 else if Mf s f=false∧(vU (iB s f) (Ca s f) neg).2=true then .nilIface
 else if Mf s f=false∨atL s f neg=true then XO (iB s f) (Ce s f) (eO neg)
 else if (vV (fB s f neg)).2.2 then dW else .nilIface
theorem Sy (m k:Nat):qsq m k= .nilIface∨qsq m k=dW:=by
 unfold qsq;split
 · exact .inl rfl
 · split
   · exact .inr rfl
   · exact .inl rfl
theorem Sz (d j g:Nat):XO d j g= .nilIface∨XO d j g=dW:=by
 unfold XO;split
 · exact .inl rfl
 · exact Sy _ _
theorem ao0 (s:ByteArray) (f:Nat) (neg:Bool):mJ s f neg= .nilIface∨mJ s f neg=dW:=by
 unfold mJ;split
 · exact .inl rfl
 · split
   · exact .inr rfl
   · split
     · exact .inl rfl
     · split
       · exact .inl rfl
       · split
         · exact Sz _ _ _
         · split
           · exact .inr rfl
           · exact .inl rfl
theorem SA {s:ByteArray} {f p E q:Nat} (hs:Nm s f p E q):iB s f<10000000000000000000:=by
 obtain ⟨h,_⟩:=BU hs;have h1:10^(Mc s f).nm≤10^19:=Nat.pow_le_pow_right de h.hn;have h2:=h.hm;unfold iB;have h3:(10:Nat)^19=10000000000000000000:=de;rw[h3] at h1;omega
theorem Yl {s:ByteArray} {f p E q:Nat} (neg:Bool) (hs:Nm s f p E q):gU neg (iK s f neg):=by
 have hm:=SA hs;unfold iK;split
 · exact qkq (Nat.zero_le _) neg
 · rename_i h0
   split
   · exact qkq (Nat.le_refl _) neg
   · rename_i h1
     split
     · exact qkq (Nat.zero_le _) neg
     · rename_i h2
       split
       · rename_i h3;exact Yc h3.2
       · split
         · exact Sm neg ⟨om,om⟩ (by unfold Ce;omega)
         · have:=Me (fB s f neg);rwa [Sw neg hs] at this
end Go.Proofs.YtmnmebdmpigddaaGreatDoor
namespace Go.Proofs.YtmnmebdmpigddaaGreatDoor
open Go.RowKit Proofs.Tryz
theorem Cg {P Q:Prop} (k:Q) (h:(Unit→Q)→P:=by
 intro zK;refine zu ?_;refine bV rfl (yp (j:=x.i) (b:=aL s x.i) u9 rfl rfl rfl (va h7) ?_);exact zK ()):P:=h fun _=>k
theorem zsq {P Q:Prop} (k:Q) (h:(Unit→Q)→P:=by
 intro zK;refine zt ?_;refine yo ?_;refine zu ?_;exact zK ()):P:=h fun _=>k
theorem zsk {P Q:Prop} (k:Q) (h:(Unit→Q)→P:=by
 intro zK;refine zv ?_;refine ve ?_;refine zu ?_;exact zK ()):P:=h fun _=>k
theorem yzk {P Q:Prop} (k:Q) (h:(Unit→Q)→P:=by
 intro zK;refine za rfl (yp (j:=0) (b:=aL s 0) u9 rfl rfl rfl (va om) ?_);exact zK ()):P:=h fun _=>k
theorem zmz {P Q:Prop} (k:Q) (h:(Unit→Q)→P:=by
 intro zK;refine za rfl (tH u4 rfl rfl (zq ?_));exact zK ()):P:=h fun _=>k
theorem SE {P:Prop} (h:P:=by
 exact yk () ⟨rfl,rfl,rfl,rfl,rfl,rfl,rfl,rfl,rfl,trivial⟩ ⟨M1.step E dM,trivial⟩):P:=h
theorem SF {P:Prop} (h:P:=by
 exact yk t ⟨rfl,rfl,rfl,rfl,rfl,rfl,rfl,rfl,rfl,rfl,rfl,rfl,rfl,rfl,rfl,rfl,rfl,trivial⟩ ⟨M6.step E SG,hu⟩):P:=h
theorem SH {P:Prop} (h:P:=by
 exact yk () ⟨rfl,rfl,rfl,rfl,rfl,rfl,rfl,rfl,rfl,rfl,rfl,rfl,rfl,trivial⟩ ⟨M3.step E fA,trivial⟩):P:=h
theorem adx {P:Prop} (h:P:=by
 rcases hx2 with ⟨h9,h10,h11⟩ | ⟨h9,h10⟩
 · rw[if_neg h11,if_neg h10,if_neg h11,←h9,Int.mul_one]
 · rcases h10 with h10 | h10
   · rw[if_neg om,if_pos h10,if_neg om,←h9,Int.mul_one]
   · rw[if_pos h10,if_pos h10,←h9,Int.mul_neg,Int.mul_one]):P:=h
theorem adj {P:Prop} (h:P:=by
 intro w;refine zc func180 rfl ntmps180 rfl ?_;have LW:=aF (No) w;have aj:=bD (No) w;have E:=aF (No) w;refine yu ?_;refine za rfl (pJ (z:=101) rfl rfl kr (ye ?_));refine ki (rs:=[.tmp 2]) (vs:=[.int .u8 101]) rfl ⟨rfl,trivial⟩ ?_;exact vj):P:=h
theorem ae0 {P:Prop} (h:P:=by
 by_cases hm0:t.m=0
 ·
  refine ze 241 (.bool false) rfl (by rw[hm0];rfl) (OJ ?_);refine od ?_;have e2:Ca s f=0:=by unfold Ca;rw[←ht,if_neg (fun h=>h hm0)]
  refine ki (rs:=[.tmp 2,.tmp 3,.tmp 4,.tmp 5,.tmp 6,.tmp 7,.tmp 8]) (vs:=[_,_,_,_,_,_,_]) rfl ⟨rfl,rfl,rfl,rfl,rfl,rfl,rfl,trivial⟩ ?_;exact ⟨by rw[e1,e2,e3];rfl,(LW.step E aj).toBelow⟩
 ·
  refine ze 241 (.bool true) rfl (aD7 om) (ye ?_);refine za rfl (jn rfl rfl (yr om) (OJ ?_));refine od ?_;have e2:Ca s f=rdP s f-(t.nm:Int):=by unfold Ca;rw[←ht,if_pos hm0]
  refine ki (rs:=[.tmp 2,.tmp 3,.tmp 4,.tmp 5,.tmp 6,.tmp 7,.tmp 8]) (vs:=[_,_,_,_,_,_,_]) rfl ⟨rfl,rfl,rfl,rfl,rfl,rfl,rfl,trivial⟩ ?_;exact ⟨by rw[e1,e2,e3,←hP];rfl,(LW.step E aj).toBelow⟩):P:=h
theorem aD8 {P:Prop} (h:P:=by
 refine za rfl (jc rfl rfl (yr om) (yq ?_));refine zj rfl (fun h5=>?_) (fun h5=>?_)
 ·
  have h5:t.nm<19:=by have h5:=of_decide_eq_true h5;omega
  have hm18:=aM4 hm h5;have hstep:gh s t= { t with i:=t.i+1,dh:=true,nd:=t.nd+1,nm:=t.nm+1,m:=t.m*10+(aL s t.i-48) }:=by unfold gh;rw[if_neg gP,if_neg hnz,if_pos h5]
  rw[hstep] at hkeep hu2;refine ye ?_;refine za rfl (xn rfl rfl (wrap_u64 om) (zr ?_));refine za rfl (jn rfl rfl (ywz om) (za rfl (jl u25 u5 rfl (wrap_u64 om) (za rfl (jc rfl rfl (wrap_u64 om) (zv ?_))))));refine za rfl (jc rfl rfl (yr om) (ye ?_));refine qc rfl (zv ?_);refine za rfl (jc rfl rfl (yr om) (zu ?_));refine yy 2 (.int .u64 ((t.m*10+(aL s t.i-48):Nat):Int)) rfl ((by congr 1;omega:(.int .u64 (((t.m:Int)*10)+(((aL s t.i:Nat):Int)-48)):Value)=_)) ?_;exact yc ({ t with i:=t.i+1,dh:=true,nd:=t.nd+1,nm:=t.nm+1,m:=t.m*10+(aL s t.i-48) }) (by show Z-(t.i+1)<Z-t.i;omega) ⟨rfl,rfl,rfl,rfl,rfl,rfl,rfl,rfl,rfl,rfl,rfl,rfl,rfl,rfl,rfl,rfl,rfl,trivial⟩ ⟨M8.step E wh,hkeep,hu2⟩
 ·
  have h5:¬t.nm<19:=by have h5:=of_decide_eq_false h5;omega
  have hstep:gh s t= { t with i:=t.i+1,dh:=true,nd:=t.nd+1,tr:=t.tr || decide (aL s t.i≠48) }:=by unfold gh;rw[if_neg gP,if_neg hnz,if_neg h5]
  rw[hstep] at hkeep hu2;refine zt ?_;refine zj rfl (fun h6=>?_) (fun h6=>?_)
  ·
   have h6:aL s t.i≠48:=fun e=>absurd h6 (by rw[e];decide);refine zv ?_;refine qc rfl (zv ?_);refine za rfl (jc rfl rfl (yr om) (zu ?_));refine yy 5 (.bool (t.tr || decide (aL s t.i≠48))) rfl ((by rw[decide_eq_true h6,Bool.or_true]:(.bool true:Value)=_)) ?_;exact yc ({ t with i:=t.i+1,dh:=true,nd:=t.nd+1,tr:=t.tr || decide (aL s t.i≠48) }) (by show Z-(t.i+1)<Z-t.i;omega) ⟨rfl,rfl,rfl,rfl,rfl,rfl,rfl,rfl,rfl,rfl,rfl,rfl,rfl,rfl,rfl,rfl,rfl,trivial⟩ ⟨M8.step E wh,hkeep,hu2⟩
  ·
   have h6:aL s t.i=48:=by
    rcases Nat.decEq (aL s t.i) 48 with h7 | h7
    · rw[bne_iff_ne.2 om] at h6;cases h6
    · exact h7
   refine zq ?_;refine qc rfl (zv ?_);refine za rfl (jc rfl rfl (yr om) (zu ?_));refine yy 5 (.bool (t.tr || decide (aL s t.i≠48))) rfl ((by rw[decide_eq_false (fun h=>h h6),Bool.or_false]:(.bool t.tr:Value)=_)) ?_;exact yc ({ t with i:=t.i+1,dh:=true,nd:=t.nd+1,tr:=t.tr || decide (aL s t.i≠48) }) (by show Z-(t.i+1)<Z-t.i;omega) ⟨rfl,rfl,rfl,rfl,rfl,rfl,rfl,rfl,rfl,rfl,rfl,rfl,rfl,rfl,rfl,rfl,rfl,trivial⟩ ⟨M8.step E wh,hkeep,hu2⟩):P:=h
attribute [local irreducible] OW RS CW EW
theorem ao1 {u:Nat} (h:(48≤u∧u≤57)∨u=46∨u=101∨u=0):(u ||| 32)≠120:=by
 rcases h with h | rfl | rfl | rfl
 · have key:∀v:Fin 58,48≤v.val→(v.val ||| 32)≠120:=de;exact key ⟨u,om⟩ h.1
 · decide
 · decide
 · decide
theorem aM4 {m n:Nat} (h:m<10^n) (hn:n<19):m<1000000000000000000:=by
 have h1:10^n≤10^18:=Nat.pow_le_pow_right de om;have h2:(10:Nat)^18=1000000000000000000:=de;omega
theorem Nm.next {s:ByteArray} {f p E q:Nat} (h:Nm s f p E q) (h1:f+1<s.size):(48≤aL s (f+1)∧aL s (f+1)≤57)∨aL s (f+1)=46∨aL s (f+1)=101∨aL s (f+1)=0:=by
 have hf:=h.fp;have hp:=h.pE;rcases Nat.lt_or_ge (f+1) E with h2 | h2
 · rcases h.at_ (i:=f+1) om h2 with h3 | h3
   · exact .inl h3.2
   · exact .inr (.inl h3.2)
 · have e:E=f+1:=om;rw[←e];exact .inr (.inr (.inl (h.exp om).1))
theorem Nm.first {s:ByteArray} {f p E q:Nat} (h:Nm s f p E q):48≤aL s f∧aL s f≤57:=h.aD4 f (Nat.le_refl _) h.fp
theorem Nm.size {s:ByteArray} {f p E q:Nat} (h:Nm s f p E q):f<s.size:=by have:=h.fp;have:=h.pE;have:=h.hE;omega
theorem aD7 {m:Nat} (h:m≠0):((.bool (((m:Nat):Int) !=0)):Value)= .bool true:=by rw[bne_iff_ne.2 om]
def dZ (s:ByteArray) (f:Nat) (neg:Bool):Prop:=(neg=false∧f=0)∨(neg=true∧f=1∧aL s 0=45)
theorem dZ.neg {s:ByteArray} {f:Nat} {neg:Bool} (h:dZ s f neg) (hn:neg=true):f=1∧aL s 0=45:=by
 rcases h with h | h
 · rw[h.1] at hn;cases hn
 · exact h.2
theorem dZ.pos {s:ByteArray} {f:Nat} {neg:Bool} (h:dZ s f neg) (hn:¬neg=true):f=0:=by
 rcases h with h | h
 · exact h.2
 · exact absurd h.1 hn
theorem SI:Gives 180 #[.int .u8 101] (.int .u8 101):=by
 exact adj
section
variable (w:World)
theorem Mg (s:ByteArray) (f:Nat) (neg:Bool) {p Z q:Nat} (hsg:dZ s f neg) (hs:Nm s f p Z q) (hl:s.size<100000):Calls prog 216 #[.string s] w (aH w (.tuple #[.int .u64 ((iB s f:Nat):Int),.int .i64 (Ca s f),.bool neg,.bool (Mf s f),.bool false,.int .i64 (s.size:Int),.bool true])):=by
 have hfs:f<s.size:=hs.size;have hfd:=hs.first;refine zc func216 rfl ntmps216 rfl ?_;have LW:=aF (No) w;have aj:=bD (No) w;have E:=aF (No) w;refine yq ?_;refine xY 4 (zy ?_);refine ve ?_;refine zq ?_;refine ze 24 (.bool false) rfl (by rw[decide_eq_false om]<;>rfl) (yu ?_);refine yzk ?_;refine zu ?_;replace LW:=LW.step E aj;replace E:=aF (No) w;refine yw (ι:=Unit) (fun _=>[(0,.string s),(2,.int .u64 0),(3,.int .i64 0),(4,.bool neg),(5,.bool false),(6,.bool false),(7,.int .i64 ((f:Nat):Int)),(8,.bool false),(9,.bool false)]) (fun _ w'=>Ext (No) w w'∧(True)) ?_ ?_
 ·
  have M1:=aF (No) w;have dM:=bD (No) w;refine zr ?_;by_cases hneg:neg=true
  ·
   obtain ⟨hf1,h45⟩:=hsg.neg hneg;refine ze 28 (.bool false) rfl (by rw[h45];rfl) (zr ?_);refine ze 32 (.bool true) rfl (by rw[h45];rfl) (ye ?_);refine za rfl (jc (z:=1) rfl rfl kr (zr ?_));refine yy 4 (.bool neg) rfl ((by rw[hneg]:(.bool true:Value)=_)) (yy 7 (.int .i64 ((f:Nat):Int)) rfl ((by rw[hf1];rfl:(.int .i64 1:Value)=_)) ?_);exact SE
  ·
   have hf0:=hsg.pos hneg;rw[hf0] at hfd;refine ze 28 (.bool false) rfl (by rw[jw om]<;>rfl) (zr ?_);refine ze 32 (.bool false) rfl (by rw[jw om]<;>rfl) (zq ?_);refine yy 4 (.bool neg) rfl ((by rw[Bool.eq_false_iff.2 hneg]:(.bool false:Value)=_)) (yy 7 (.int .i64 ((f:Nat):Int)) rfl ((by rw[hf0];rfl:(.int .i64 0:Value)=_)) ?_);exact SE
 ·
  rintro _ w2 ⟨M1,_⟩;replace E:=E.trans M1;replace LW:=LW.step E aj;replace E:=aF (No) w2;refine Ed ?_;replace LW:=LW.step E aj;replace E:=aF (No) w2;refine yw (ι:=Unit) (fun _=>[(0,.string s),(2,.int .u64 0),(3,.int .i64 0),(4,.bool neg),(5,.bool false),(6,.bool false),(7,.int .i64 ((f:Nat):Int)),(8,.bool false),(9,.bool false),(10,.int .u64 10),(11,.int .i64 19),(12,.int .u8 101),(54,.bool false)]) (fun _ w'=>Ext (No) w2 w'∧(True)) ?_ ?_
  ·
   have M3:=aF (No) w2;have fA:=bD (No) w2;refine zu ?_;refine yo ?_;refine aQ ?_;refine ve ?_;refine zu ?_;refine zz 41 rfl (fun hl=>?_) (fun hl=>?_)
   ·
    have hl:=of_decide_eq_true hl;refine zu ?_;refine bV rfl (yp (j:=f) (b:=aL s f) u9 rfl rfl rfl (va hfs) (zq ?_));refine zz 47 rfl (fun hz=>?_) (fun hz=>?_)
    ·
     refine zu ?_;refine bV rfl (jc rfl rfl (yr om) (bV rfl (yp (j:=f+1) (b:=aL s (f+1)) u9 rfl rfl rfl (va om) (bV rfl (zb OB rfl ((LZ _ (aL s (f+1)) (FV _ _)).mono ?_))))));rintro e w5 ⟨rfl,hb⟩;refine ⟨_,rfl,?_⟩;replace E:=bQ E hb;have hx:=ao1 (hs.next om);refine zq ?_;refine yy 54 (.bool false) rfl ((by rw[jw om]:(.bool (((aL s (f+1) ||| 32:Nat):Int)==120):Value)=_)) ?_;exact SH
    ·
     refine yu ?_;exact SH
   ·
    refine go ?_;exact SH
  ·
   rintro _ w4 ⟨M3,_⟩;replace E:=E.trans M3;replace LW:=LW.step E aj;replace E:=aF (No) w4;refine aaz ?_;refine xZ (zu ?_);replace LW:=LW.step E aj;replace E:=aF (No) w4;refine yw (ι:=Nj) (fun t=>[(0,.string s),(2,.int .u64 (t.m:Int)),(3,.int .i64 0),(4,.bool neg),(5,.bool t.tr),(6,.bool false),(7,.int .i64 (t.i:Int)),(8,.bool false),(9,.bool false),(10,.int .u64 10),(11,.int .i64 19),(12,.int .u8 101),(13,.bool t.dot),(14,.bool t.dh),(15,.int .i64 (t.nd:Int)),(16,.int .i64 (t.nm:Int)),(17,.int .i64 t.dp)]) (fun t w'=>Ext (No) w4 w'∧(t=Mc s f)) ?_ ?_
   ·
    have M6:=aF (No) w4;have SG:=bD (No) w4;refine aQ ?_;replace M6:=M6.step E SG;replace E:=aF (No) w4;refine jd (ι:=Nj) (fun t=>[(0,.string s),(2,.int .u64 (t.m:Int)),(3,.int .i64 0),(4,.bool neg),(5,.bool t.tr),(6,.bool false),(7,.int .i64 (t.i:Int)),(8,.bool false),(9,.bool false),(10,.int .u64 10),(11,.int .i64 19),(12,.int .u8 101),(13,.bool t.dot),(14,.bool t.dh),(15,.int .i64 (t.nd:Int)),(16,.int .i64 (t.nm:Int)),(17,.int .i64 t.dp)]) (fun t w'=>Ext (No) w4 w'∧(RdN s f p Z q t∧qm (I8 s) (gh s) t=Mc s f)) (fun t=>Z-t.i) (⟨f,0,0,0,0,false,false,false⟩) ⟨rfl,rfl,rfl,rfl,rfl,rfl,rfl,rfl,rfl,rfl,rfl,rfl,rfl,rfl,rfl,rfl,rfl,trivial⟩ ⟨Ext.refl _ _,sj hs,rfl⟩ ?_;rintro t w9 ⟨M8,⟨hI,hu⟩⟩;have wh:=bD (No) w4;replace E:=E.trans M8;replace M6:=M6.step E SG;replace E:=aF (No) w9;have hsE:=hs.hE;have hiE:=hI.iE;have hti:=hI.hi;have hnd:=hI.hd;have hdp:=hI.hp;have hm:=hI.hm;have hfi:=hI.fi;refine zv ?_;refine ve ?_;refine zq ?_;refine zj rfl (fun h1=>?_) (fun h1=>?_)
    ·
     have h1:t.i<s.size:=by have h1:=of_decide_eq_true h1;omega
     refine qo ?_;refine za rfl (yp (j:=t.i) (b:=aL s t.i) u9 rfl rfl rfl (va h1) ?_);by_cases hE2:t.i<Z
     ·
      have hdone:=BS hs hI hE2;have hkeep:=(r9 hs hI hdone).1;have hu2:=hu;rw[qx hdone] at hu2;have hc:=hs.at_ hfi hE2;have hb:=FV s t.i;refine yu ?_;refine zmz ?_;refine ze 66 (.bool false) rfl (by rw[jw om];rfl) ?_;by_cases gP:aL s t.i=46
      ·
       have hstep:gh s t= { t with i:=t.i+1,dot:=true,dp:=t.nd }:=by unfold gh;rw[if_pos gP]
       have F6:t.dot=false:=by
        rcases hc with ⟨_,h3⟩ | ⟨h3,_⟩
        · omega
        · cases h4:t.dot with
          | false=>rfl
          | true=>have:=hI.dt h4;omega
       rw[hstep] at hkeep hu2;refine zv ?_;refine zmz ?_;refine ze 70 (.bool true) rfl (by rw[gP];rfl) (zr ?_);refine ze 74 (.bool false) rfl (by rw[F6]<;>rfl) (xd ?_);refine qc rfl (ji ?_);exact yc ({ t with i:=t.i+1,dot:=true,dp:=t.nd }) (by show Z-(t.i+1)<Z-t.i;omega) ⟨rfl,rfl,rfl,rfl,rfl,rfl,rfl,rfl,rfl,rfl,rfl,rfl,rfl,rfl,rfl,rfl,rfl,trivial⟩ ⟨M8.step E wh,hkeep,hu2⟩
      ·
       have hc:48≤aL s t.i∧aL s t.i≤57:=om;refine zv ?_;refine zmz ?_;refine ze 70 (.bool false) rfl (by rw[jw om];rfl) (zt ?_);refine zd 79 (.bool true) rfl (by rw[decide_eq_true om]<;>rfl) (zq ?_);refine zmz ?_;refine ze 76 (.bool true) rfl (by rw[decide_eq_true om];rfl) (jm ?_);refine zz 86 rfl (fun h3=>?_) (fun h3=>?_)
       ·
        have h3:aL s t.i=48:=by have h3:=eq_of_beq h3;omega
        refine zv ?_;refine zj rfl (fun h4=>?_) (fun h4=>?_)
        ·
         have h4:t.nd=0:=by have h4:=eq_of_beq h4;omega
         have hstep:gh s t= { t with i:=t.i+1,dh:=true,dp:=t.dp-1 }:=by unfold gh;rw[if_neg gP,if_pos ⟨h3,h4⟩]
         rw[hstep] at hkeep hu2;refine zq ?_;refine yt ?_;refine zv ?_;refine qc rfl (ji ?_);exact yc ({ t with i:=t.i+1,dh:=true,dp:=t.dp-1 }) (by show Z-(t.i+1)<Z-t.i;omega) ⟨rfl,rfl,rfl,rfl,rfl,rfl,rfl,rfl,rfl,rfl,rfl,rfl,rfl,rfl,rfl,rfl,rfl,trivial⟩ ⟨M8.step E wh,hkeep,hu2⟩
        ·
         have hnz:¬(aL s t.i=48∧t.nd=0):=fun h=>absurd h4 (by rw[h.2];decide);refine zv ?_;exact aD8
       ·
        have hnz:¬(aL s t.i=48∧t.nd=0):=fun h=>absurd h3 (by rw[h.1];decide);refine yq ?_;exact aD8
     ·
      have hdone:I8 s t=true:=by
       have e:t.i=Z:=om;unfold I8;rw[Bool.or_eq_true];right
       rw[e,(hs.exp om).1];rfl
      have hb:aL s t.i=101:=by
       have e:t.i=Z:=om;rw[e];exact (hs.exp om).1
      rw[yv hdone] at hu;refine yu ?_;refine zmz ?_;refine ze 66 (.bool false) rfl (by rw[hb];rfl) (zv ?_);refine zmz ?_;refine ze 70 (.bool false) rfl (by rw[hb];rfl) (zt ?_);refine zd 79 (.bool true) rfl (by rw[hb];rfl) (zq ?_);refine zmz ?_;refine ze 76 (.bool false) rfl (by rw[hb];rfl) (xd ?_);refine za rfl (tH u4 rfl rfl (yu ?_));refine qc rfl (zq ?_);exact SF
    ·
     have h1:¬t.i<s.size:=by have h1:=of_decide_eq_false h1;omega
     have hdone:I8 s t=true:=by
      unfold I8;rw[decide_eq_true om];rfl
     rw[yv hdone] at hu;refine ye ?_;exact SF
   ·
    rintro t w7 ⟨M6,ht⟩;replace E:=E.trans M6;replace LW:=LW.step E aj;replace E:=aF (No) w7;obtain ⟨hR,SK⟩:=BU hs;rw[←ht] at hR SK;have e1:iB s f=t.m:=by unfold iB;rw[ht]
    have e3:Mf s f=t.tr:=by unfold Mf;rw[ht]
    have hfp:=hs.fp;have hpE:=hs.pE;have hsE:=hs.hE;have hdig:t.dh=true:=hR.dg om;have hnd:=hR.hd;have hdp:=hR.hp;have hnm:=hR.hn;have hti:=hR.hi;refine zr ?_;refine ze 140 (.bool false) rfl (by rw[hdig];rfl) (zy ?_);replace LW:=LW.step E aj;replace E:=aF (No) w7;refine yw (ι:=Int) (fun d2=>[(0,.string s),(2,.int .u64 (t.m:Int)),(3,.int .i64 0),(4,.bool neg),(5,.bool t.tr),(6,.bool false),(7,.int .i64 (t.i:Int)),(8,.bool false),(9,.bool false),(10,.int .u64 10),(12,.int .u8 101),(16,.int .i64 (t.nm:Int)),(17,.int .i64 d2)]) (fun d2 w'=>Ext (No) w7 w'∧(d2=(if t.dot then t.dp else (t.nd:Int)))) ?_ ?_
    ·
     have Xt:=aF (No) w7;have Ym:=bD (No) w7;by_cases hdd:t.dot=true
     ·
      refine ze 142 (.bool false) rfl (by rw[hdd];rfl) (zu ?_);exact yk t.dp ⟨rfl,rfl,rfl,rfl,rfl,rfl,rfl,rfl,rfl,rfl,rfl,rfl,rfl,trivial⟩ ⟨Xt.step E Ym,by rw[hdd,if_pos rfl]⟩
     ·
      refine ze 142 (.bool true) rfl (by rw[Bool.eq_false_iff.2 hdd];rfl) (zv ?_);exact yk (t.nd:Int) ⟨rfl,rfl,rfl,rfl,rfl,rfl,rfl,rfl,rfl,rfl,rfl,rfl,rfl,trivial⟩ ⟨Xt.step E Ym,by rw[if_neg hdd]⟩
    ·
     rintro d2 dS ⟨Xt,hd2⟩;replace E:=E.trans Xt;replace LW:=LW.step E aj;replace E:=aF (No) dS;have hb2:-100000≤d2∧d2≤100000:=by rw[hd2];split<;>omega
     have hP0:rdP s f=d2+nW s Z:=by unfold rdP;rw[←ht,SK,hd2]
     by_cases he:Z<s.size
     ·
      obtain ⟨hx1,hx2,hx3,hx4⟩:=hs.exp he;have hb:aL s t.i=101:=by rw[SK];exact hx1
      refine xd ?_;refine ve ?_;refine zu ?_;refine zd 154 (.bool true) rfl (by rw[decide_eq_true om]<;>rfl) (zu ?_);refine bV rfl (yp (j:=t.i) (b:=aL s t.i) u9 rfl rfl rfl (va om) (zd 157 (.int .u8 101) rfl (by rw[hb];rfl) (bV rfl (zb OB rfl ((SI _).mono ?_)))));rintro e eB ⟨rfl,hb⟩;refine ⟨_,rfl,?_⟩;replace E:=bQ E hb;refine qo ?_;refine yo ?_;refine yu ?_;refine ve ?_;refine zq ?_;refine ze 167 (.bool false) rfl (by rw[decide_eq_false om]<;>rfl) (gf ?_);refine za rfl (yp (j:=t.i+1) (b:=aL s (t.i+1)) u9 rfl rfl rfl (va om) ?_);rw[←SK] at hx2;refine zu ?_;replace LW:=LW.step E aj;replace E:=aF (No) eB;refine yw (ι:=Nat×Int) (fun (k,g)=>[(0,.string s),(2,.int .u64 (t.m:Int)),(3,.int .i64 0),(4,.bool neg),(5,.bool t.tr),(6,.bool false),(7,.int .i64 ((k:Nat):Int)),(8,.bool false),(9,.bool false),(16,.int .i64 (t.nm:Int)),(17,.int .i64 d2),(19,.int .i64 g)]) (fun (k,g) w'=>Ext (No) eB w'∧(k=q∧g=(if aL s (t.i+1)=45 then -1 else 1))) ?_ ?_
      ·
       have iJ:=aF (No) eB;have gK:=bD (No) eB;refine zr ?_;by_cases c43:aL s (t.i+1)=43
       ·
        refine ze 171 (.bool true) rfl (by rw[c43];rfl) (zq ?_);refine yo ?_;refine zq ?_;exact yk (t.i+2,1) ⟨rfl,rfl,rfl,rfl,rfl,rfl,rfl,rfl,rfl,rfl,rfl,rfl,trivial⟩ ⟨iJ.step E gK,om,by rw[if_neg om]⟩
       ·
        refine ze 171 (.bool false) rfl (by rw[jw om]<;>rfl) (zr ?_);by_cases c45:aL s (t.i+1)=45
        ·
         refine ze 175 (.bool true) rfl (by rw[c45];rfl) (ye ?_);refine yo ?_;refine zr ?_;exact yk (t.i+2,-1) ⟨rfl,rfl,rfl,rfl,rfl,rfl,rfl,rfl,rfl,rfl,rfl,rfl,trivial⟩ ⟨iJ.step E gK,om,by rw[if_pos c45]⟩
        ·
         refine ze 175 (.bool false) rfl (by rw[jw om]<;>rfl) (zq ?_);exact yk (t.i+1,1) ⟨rfl,rfl,rfl,rfl,rfl,rfl,rfl,rfl,rfl,rfl,rfl,rfl,trivial⟩ ⟨iJ.step E gK,om,by rw[if_neg c45]⟩
      ·
       rintro ⟨k,g⟩ dL ⟨iJ,⟨hk,hg⟩⟩;replace E:=E.trans iJ;replace LW:=LW.step E aj;replace E:=aF (No) dL;subst hk;have hdq:=hx4 k (Nat.le_refl _) hx3;refine zsk ?_;refine zd 183 (.bool false) rfl (by rw[decide_eq_false om]<;>rfl) (zu ?_);refine bV rfl (yp (j:=k) (b:=aL s k) u9 rfl rfl rfl (va hx3) (zq ?_));refine zd 189 (.bool false) rfl (by rw[decide_eq_false om]<;>rfl) (zu ?_);refine bV rfl (yp (j:=k) (b:=aL s k) u9 rfl rfl rfl (va hx3) (ye ?_));refine ze 194 (.bool false) rfl (by rw[decide_eq_false om]<;>rfl) (qo ?_);replace LW:=LW.step E aj;replace E:=aF (No) dL;refine yw (ι:=Sj) (fun x=>[(0,.string s),(2,.int .u64 (t.m:Int)),(3,.int .i64 0),(4,.bool neg),(5,.bool t.tr),(6,.bool false),(7,.int .i64 (x.i:Int)),(8,.bool false),(9,.bool false),(16,.int .i64 (t.nm:Int)),(17,.int .i64 d2),(19,.int .i64 g),(20,.int .i64 (x.e:Int))]) (fun x w'=>Ext (No) dL w'∧(x=Yf s k)) ?_ ?_
       ·
        have Np:=aF (No) dL;have F7:=bD (No) dL;refine aQ ?_;replace Np:=Np.step E F7;replace E:=aF (No) dL;refine jd (ι:=Sj) (fun x=>[(0,.string s),(2,.int .u64 (t.m:Int)),(3,.int .i64 0),(4,.bool neg),(5,.bool t.tr),(6,.bool false),(7,.int .i64 (x.i:Int)),(8,.bool false),(9,.bool false),(16,.int .i64 (t.nm:Int)),(17,.int .i64 d2),(19,.int .i64 g),(20,.int .i64 (x.e:Int))]) (fun x w'=>Ext (No) dL w'∧(ExI s k x∧qm (og s) (Nn s) x=Yf s k)) (fun x=>s.size-x.i) (⟨k,0⟩) ⟨rfl,rfl,rfl,rfl,rfl,rfl,rfl,rfl,rfl,rfl,rfl,rfl,rfl,trivial⟩ ⟨Ext.refl _ _,⟨⟨Nat.le_refl _,Nat.le_of_lt hx3⟩,by show 0<100000;decide⟩,rfl⟩ ?_;rintro x fF ⟨M17,⟨hI,hu⟩⟩;have aD9:=bD (No) dL;replace E:=E.trans M17;replace Np:=Np.step E F7;replace E:=aF (No) fF;have hhi:=hI.hi;have hhe:=hI.he;refine zsk ?_;refine zz 199 rfl (fun h7=>?_) (fun h7=>?_)
        ·
         have h7:x.i<s.size:=by have h7:=of_decide_eq_true h7;omega
         have hc:=hx4 x.i hhi.1 h7;have hdone:og s x=false:=by unfold og;rw[decide_eq_false om,qxq hc];rfl
         have hkeep:=(mH hI hdone).1;rw[qx hdone] at hu;refine Cg ?_;refine zu ?_;refine zd 204 (.bool true) rfl (by rw[decide_eq_true om]<;>rfl) (Cg ?_);refine zq ?_;refine zd 210 (.bool true) rfl (by rw[decide_eq_true om]<;>rfl) (Dt ?_);refine za rfl (yp (j:=x.i) (b:=aL s x.i) u9 rfl rfl rfl (va h7) (zq ?_));refine ze 222 (.bool false) rfl (by rw[jw om]<;>rfl) (qo ?_);refine zj rfl (fun h8=>?_) (fun h8=>?_)
         ·
          have h8:x.e<10000:=by have h8:=of_decide_eq_true h8;omega
          have hstep:Nn s x= ⟨x.i+1,x.e*10+(aL s x.i-48)⟩:=by unfold Nn;rw[if_pos h8]
          rw[hstep] at hkeep hu;refine zu ?_;refine yxv ?_;refine zu ?_;refine za rfl (yp (j:=x.i) (b:=aL s x.i) u9 rfl rfl rfl (va h7) (qax ?_));refine yt ?_;refine zsq ?_;refine yy 20 (.int .i64 ((x.e*10+(aL s x.i-48):Nat):Int)) rfl ((by congr 1;omega:(.int .i64 ((((x.e:Int)*10)+((aL s x.i:Nat):Int))-48):Value)=_)) ?_;exact yc (⟨x.i+1,x.e*10+(aL s x.i-48)⟩) (by show s.size-(x.i+1)<s.size-x.i;omega) ⟨rfl,rfl,rfl,rfl,rfl,rfl,rfl,rfl,rfl,rfl,rfl,rfl,rfl,trivial⟩ ⟨M17.step E aD9,hkeep,hu⟩
         ·
          have h8:¬x.e<10000:=by have h8:=of_decide_eq_false h8;omega
          have hstep:Nn s x= ⟨x.i+1,x.e⟩:=by unfold Nn;rw[if_neg h8]
          rw[hstep] at hkeep hu;refine ji ?_;exact yc (⟨x.i+1,x.e⟩) (by show s.size-(x.i+1)<s.size-x.i;omega) ⟨rfl,rfl,rfl,rfl,rfl,rfl,rfl,rfl,rfl,rfl,rfl,rfl,rfl,trivial⟩ ⟨M17.step E aD9,hkeep,hu⟩
        ·
         have h7:¬x.i<s.size:=by have h7:=of_decide_eq_false h7;omega
         have hdone:og s x=true:=by unfold og;rw[decide_eq_true om];rfl
         rw[yv hdone] at hu;refine yI ?_;exact yk x ⟨rfl,rfl,rfl,rfl,rfl,rfl,rfl,rfl,rfl,rfl,rfl,rfl,rfl,trivial⟩ ⟨Np.step E F7,hu⟩
       ·
        rintro x w16 ⟨Np,hx⟩;replace E:=E.trans Np;replace LW:=LW.step E aj;replace E:=aF (No) w16;obtain ⟨hI,hdx⟩:=yjv (s:=s) (q:=k) om;rw[←hx] at hI hdx;have hxi:=Sk hx4 hI hdx;have hxe:=hI.he;have hX:IntKind.i64.wrap ((x.e:Int)*g)=nW s Z:=by
         have e9:nW s Z=(x.e:Int)*g:=by
          unfold nW;rw[if_neg om,←SK,hg,hx];exact adx
         have h12:=qgq hs;rw[←e9];exact yr om
        have h12:=qgq hs;refine ye ?_;refine za rfl (xn rfl rfl hX (yo ?_));refine zy ?_;refine ze 7 (.int .i64 (s.size:Int)) rfl (by rw[hxi]<;>rfl) ?_;have hP:d2+nW s Z=rdP s f:=hP0.symm;exact ae0
     ·
      have hz:nW s Z=0:=by unfold nW;rw[if_pos om]
      refine xd ?_;refine ve ?_;refine zu ?_;refine zd 154 (.bool false) rfl (by rw[decide_eq_false om]<;>rfl) (MX ?_);refine ze 7 (.int .i64 (s.size:Int)) rfl (by congr 1;omega) ?_;have hP:d2=rdP s f:=by rw[hP0,hz,Int.add_zero]
      exact ae0
end
end Go.Proofs.YtmnmebdmpigddaaGreatDoor
namespace Go.Proofs.YtmnmebdmpigddaaGreatDoor
open Go.RowKit Proofs.Tryz
theorem SL {P:Prop} (h:P:=by
 refine qh ?_;intro vs X wq K;exact oD (j:=i) u46 oH rfl rfl rfl h2 ⟨Below.refl _ _,Left.of rfl⟩):P:=h
theorem SN {P:Prop} (h:P:=by
 have h1:2^k≤2^60:=Nat.pow_le_pow_right de hk;have h2:(2:Nat)^60=1152921504606846976:=de;omega):P:=h
theorem ae1 {P:Prop} (h:P:=by
 intro vs X wq K;exact yp (j:=i) (b:=aL c i) u9 rfl rfl rfl (va om) ⟨Below.refl _ _,Left.of rfl⟩):P:=h
theorem ae2 {P:Prop} (h:P:=by
 refine qh ?_;intro vs X wq K;have LE:=K.1;exact ya underlying3 rfl rfl (Ba.drew.av LE ah.nil) (wZ hl1 n rfl) ⟨Below.refl _ _,Left.of rfl⟩):P:=h
theorem ae3 {P:Prop} (h:P:=by
 refine qh ?_;intro vs X wq K;have LE:=K.1;exact ya u5 rfl rfl (HF.on (E.drew.trans (LE.mono OY))).here.2 (RA hl om) ⟨Below.refl _ _,Left.of rfl⟩):P:=h
theorem qtk {P:Prop} (h:P:=by
 exact ⟨by rw[e];rfl,(LW.step E aj).toBelow⟩):P:=h
attribute [local irreducible] OW RS CW EW
theorem SQ {d:List Nat} {n:Nat} (h0:n≠0) (h:dg d (n-1)=48):ke d n=ke d (n-1):=by
 obtain ⟨m,rfl⟩:∃m,n=m+1:=⟨n-1,om⟩;rw[Nat.add_sub_cancel] at h ⊢;rw[ke,if_pos h]
theorem Mh {d:List Nat} {n:Nat} (h0:n≠0) (h:dg d (n-1)≠48):ke d n=n:=by
 obtain ⟨m,rfl⟩:∃m,n=m+1:=⟨n-1,om⟩;rw[Nat.add_sub_cancel] at h;rw[ke,if_neg h]
theorem F8 {b l:List Nat} {i x y:Nat} (hb:b[i]? =some x) (hl:l[i]? =some y):jh (b.drop i) (l.drop i)=if x=y then jh (b.drop (i+1)) (l.drop (i+1)) else decide (x<y):=by
 obtain ⟨h1,h2⟩:=List.getElem?_eq_some_iff.1 hb;obtain ⟨h3,h4⟩:=List.getElem?_eq_some_iff.1 hl;rw[List.drop_eq_getElem_cons h1,List.drop_eq_getElem_cons h3,h2,h4];rfl
theorem Ch (b:List Nat) {l:List Nat} {i:Nat} (h:l.length≤i):jh b (l.drop i)=false:=by
 rw[List.drop_eq_nil_of_le h];cases b<;>rfl
theorem pq {b l:List Nat} {i:Nat} (h:b.length≤i) (h2:i<l.length):jh (b.drop i) (l.drop i)=true:=by
 rw[List.drop_eq_nil_of_le h,List.drop_eq_getElem_cons h2];rfl
theorem take_at {d:List Nat} {n i:Nat} (hi:i<n) (hn:n≤d.length):(d.take n)[i]? =some (dg d i):=by
 rw[List.getElem?_take,if_pos hi,IW om]
theorem su {n k:Nat} (h:n<2^k) (hk:k≤60):n<1152921504606846976:=by
 exact SN
theorem sw {n k:Nat} (h:n<10*2^k) (hk:k≤60):n<11529215046068469760:=by
 exact SN
theorem aDq {m:Nat} (h:m≠0):((.bool (((m:Nat):Int)==0)):Value)= .bool false:=by rw[beq_eq_false_iff_ne.2 om]
theorem wZ {t:Dec} (h:t.d.length=800) (n:Nat) (e:t.nd=n):(yg t)[800]? =some (.int .i64 ((n:Nat):Int)):=e▸an2 h
theorem wm {t:Dec} (h:t.d.length=800) (p:Int) (e:t.dp=p):(yg t)[801]? =some (.int .i64 p):=e▸an3 h
theorem aDz {t:Dec} (h:t.d.length=800) (b:Bool) (e:t.neg=b):(yg t)[802]? =some (.bool b):=e▸XU h
theorem aM5 {t:Dec} (h:t.d.length=800) (b:Bool) (e:t.tr=b):(yg t)[803]? =some (.bool b):=e▸an4 h
theorem Yn {t:Dec} (h:t.d.length=800) (b j:Nat) (e:dg t.d j=b) (hj:j<800):(yg t)[j]? =some (.int .u8 ((b:Nat):Int)):=e▸RA h hj
theorem xA {t:Dec} (h:t.d.length=800) {j:Nat} (hj:j<804):j<(yg t).size:=by rw[Rx h];exact hj
section
variable (w:World)
theorem Ci (ga:Nat) (t:Dec) (hl:t.d.length=800) (hn:t.nd≤800) (hB:aB w ga 229 (yg t)) :
 Calls prog 269 #[.pointer (some ⟨ga,0,none⟩)] w fun e w'=>e= .returned (.tuple #[])∧aB w' ga 229 (yg (XV t))∧Ext (ak [some ga]) w w':=by
 refine zc func269 rfl ntmps269 rfl ?_;have Ba:=hB;have LW:=aF (ak [(some ga)]) w;have aj:=bD (ak [(some ga)]) w;have E:=aF (ak [(some ga)]) w;refine aQ ?_;replace LW:=LW.step E aj;replace E:=aF (ak [(some ga)]) w;refine yw (ι:=Unit) (fun _=>[(0,.pointer (some ⟨ga,0,none⟩))]) (fun _ w'=>Ext (ak [(some ga)]) w w'∧aB w' ga 229 (yg { t with nd:=ke t.d t.nd })∧(True)) ?_ ?_
 ·
  have M1:=aF (ak [(some ga)]) w;have dM:=bD (ak [(some ga)]) w;refine aQ ?_;replace M1:=M1.step E dM;replace E:=aF (ak [(some ga)]) w;refine jd (ι:=Nat) (fun n=>[(0,.pointer (some ⟨ga,0,none⟩))]) (fun n w'=>Ext (ak [(some ga)]) w w'∧aB w' ga 229 (yg { t with nd:=n })∧(n≤800∧ke t.d n=ke t.d t.nd)) (fun n=>n) t.nd ⟨rfl,trivial⟩ ⟨Ext.refl _ _,(by exact Ba),hn,rfl⟩ ?_;have d9:=(zg Ba.lt);clear Ba;rintro n w4 ⟨M3,Ba,⟨hn8,he⟩⟩;have fA:GR (ak [(some ga)]) (ak [(some ga)]) w:=(ak.grow ak.none_ (fun k e=>Or.inl (ak.head k e)));replace E:=E.trans M3;replace M1:=M1.step E dM;replace E:=aF (ak [(some ga)]) w4;have hl1:({ t with nd:=n }:Dec).d.length=800:=hl;by_cases h0:n=0
  ·
   have e:ke t.d t.nd=n:=by rw[←he,h0];rfl
   refine zu ?_;have OY:∀q9,(ak (km [])) q9→q9<(World.drew w4).heap.size→(ak [(some ga)]) q9:=fun k h _=>(ak.none_) k h;refine yx (ak [(some ga)]) (ak.grow ak.none_ (zg Ba.lt)) [] [] (xq [Fx.of (.pointer (some ⟨ga,0,none⟩)),
    Fx.of (.pointer (some ⟨ga,0,none⟩)),
    Fx.of (.pointer (some ⟨ga,800,none⟩)),
    Fx.of (.int .i64 ((n:Nat):Int)),
    Fx.of (.bool false),
    Fx.of (.bool false),
    Fx.of undef,
    Fx.of undef,
    Fx.of undef,
    Fx.of undef,
    Fx.of undef,
    Fx.of undef,
    Fx.of undef,
    Fx.of undef,
    Fx.of undef,
    Fx.of undef,
    Fx.of undef,
    Fx.of (.bool false)]) mixed rfl trivial (fun _ h=>by cases h) ?_ ?_
   · refine ⟨arm,arm,arm,?_,?_,arm,arm,arm,arm,arm,arm,arm,arm,arm,arm,arm,arm,arm,trivial⟩
     · exact ae2
     · refine qh ?_;intro vs X wq K;exact sZ rfl rfl ⟨Below.refl _ _,Left.of ((by rw[decide_eq_false om]:(.bool (decide (0<((n:Nat):Int))):Value)=_))⟩
   intro vs w5 LE AO AL AF AA;have fC:=Ba;replace Ba:=Ba.drew.av LE ah.nil;replace E:=E.drew.trans (LE.mono OY);obtain ⟨_,e17,k17⟩:=AL.2.2.2.2.2.2.2.2.2.2.2.2.2.2.2.2.2.1;refine vo (τ:=[(0,_),(19,.bool false)]) ⟨rfl,congrArg some e17,trivial⟩ ?_;clear AL AF AA LE AO OY e17 k17 fC;refine zt ?_;replace Ba:aB w5 ga 229 (yg { t with nd:=ke t.d t.nd }):=by rw[e];exact Ba
   exact yk () ⟨rfl,trivial⟩ ⟨M1.step E dM,(by exact Ba),trivial⟩
  ·
   refine zu ?_;have OY:∀q9,(ak (km [])) q9→q9<(World.drew w4).heap.size→(ak [(some ga)]) q9:=fun k h _=>(ak.none_) k h;refine yx (ak [(some ga)]) (ak.grow ak.none_ (zg Ba.lt)) [] [] (xq [Fx.of (.pointer (some ⟨ga,0,none⟩)),
    Fx.of (.pointer (some ⟨ga,0,none⟩)),
    Fx.of (.pointer (some ⟨ga,800,none⟩)),
    Fx.of (.int .i64 ((n:Nat):Int)),
    Fx.of (.bool true),
    Fx.of (.bool true),
    Fx.of (.pointer (some ⟨ga,0,none⟩)),
    Fx.of (.pointer (some ⟨ga,0,none⟩)),
    Fx.of (.pointer (some ⟨ga,0,none⟩)),
    Fx.of (.pointer (some ⟨ga,800,none⟩)),
    Fx.of (.int .i64 ((n:Nat):Int)),
    Fx.of (.int .i64 (((n:Nat):Int)-1)),
    Fx.of (.pointer (some ⟨ga,0,none⟩)),
    Fx.of (.pointer (some ⟨ga,0,none⟩)),
    Fx.of (.pointer (some ⟨ga,n-1,none⟩)),
    Fx.of (.int .u8 ((dg t.d (n-1):Nat):Int)),
    Fx.of (.bool (((dg t.d (n-1):Nat):Int)==48)),
    Fx.of (.bool (((dg t.d (n-1):Nat):Int)==48))]) mixed rfl trivial (fun _ h=>by cases h) ?_ ?_
   · refine ⟨arm,arm,arm,?_,?_,arm,arm,arm,arm,arm,?_,?_,arm,arm,?_,?_,arm,arm,trivial⟩
     · exact ae2
     · refine qh ?_;intro vs X wq K;exact sZ rfl rfl ⟨Below.refl _ _,Left.of ((by rw[decide_eq_true om]:(.bool (decide (0<((n:Nat):Int))):Value)=_))⟩
     · refine qh ?_;intro vs X wq K;have LE:=K.1;exact pI rfl (ya underlying3 rfl rfl (Ba.drew.av LE ah.nil) (wZ hl1 n rfl) ⟨Below.refl _ _,Left.of rfl⟩)
     · refine qh ?_;intro vs X wq K;exact pI rfl (jn rfl rfl (yr om) ⟨Below.refl _ _,Left.of rfl⟩)
     · refine qh ?_;intro vs X wq K;exact pI rfl (vb (j:=n-1) fJ oH rfl rfl om om ⟨Below.refl _ _,Left.of rfl⟩)
     · refine qh ?_;intro vs X wq K;have LE:=K.1;exact pI rfl (ya u5 rfl rfl (Ba.drew.av LE ah.nil) (Yn hl1 (dg t.d (n-1)) (n-1) rfl om) ⟨Below.refl _ _,Left.of rfl⟩)
   intro vs w6 LE AO AL AF AA;have fC:=Ba;replace Ba:=Ba.drew.av LE ah.nil;replace E:=E.drew.trans (LE.mono OY);obtain ⟨_,e17,k17⟩:=AL.2.2.2.2.2.2.2.2.2.2.2.2.2.2.2.2.2.1;refine vo (τ:=[(0,_),(19,.bool (((dg t.d (n-1):Nat):Int)==48))]) ⟨rfl,congrArg some e17,trivial⟩ ?_;clear AL AF AA LE AO OY e17 k17 fC;refine aQ ?_;refine zj rfl (fun hd=>?_) (fun hd=>?_)
   ·
    have hd:dg t.d (n-1)=48:=by have hd:=eq_of_beq hd;omega
    refine zr ?_;refine za rfl (ya underlying3 rfl rfl Ba (wZ hl1 (n) rfl) (yt ?_));refine zu ?_;refine zd 24 (.int .i64 ((n-1:Nat):Int)) rfl (by congr 1;omega) (zp (qq G9 rfl rfl Ba rfl rfl (xA hl1 (by decide:800<804)) (l6 hl1 (n-1)) ?_));intro w7 Bx Ea;replace Ba:aB w7 ga 229 (yg { t with nd:=n-1 }):=Bx;replace E:=E.step1 Ea ak.head;refine zu ?_;exact yc (n-1) om ⟨rfl,trivial⟩ ⟨M3.step E fA,(by exact Ba),om,by rw[←he,SQ h0 hd]⟩
   ·
    have hd:dg t.d (n-1)≠48:=fun e=>absurd hd (by rw[e];decide);have e:ke t.d t.nd=n:=by rw[←he,Mh h0 hd]
    refine ye ?_;replace Ba:aB w6 ga 229 (yg { t with nd:=ke t.d t.nd }):=by rw[e];exact Ba
    exact yk () ⟨rfl,trivial⟩ ⟨M1.step E dM,(by exact Ba),trivial⟩
 ·
  have d9:=(zg Ba.lt);clear Ba;rintro _ w2 ⟨M1,Ba,_⟩;replace E:=E.trans M1;replace LW:=LW.step E aj;replace E:=aF (ak [(some ga)]) w2;have hl':({ t with nd:=ke t.d t.nd }:Dec).d.length=800:=hl;refine zv ?_;refine za rfl (ya underlying3 rfl rfl Ba (wZ hl' (ke t.d t.nd) rfl) (zq ?_));refine zj rfl (fun h1=>?_) (fun h1=>?_)
  ·
   have h1:ke t.d t.nd=0:=by have h1:=eq_of_beq h1;omega
   refine ye ?_;refine zp (qq G9 rfl rfl Ba rfl rfl (xA hl' (by decide:801<804)) (qkk hl' 0) ?_);intro w8 Bx Ea;replace Ba:aB w8 ga 229 (yg { t with nd:=ke t.d t.nd,dp:=0 }):=Bx;replace E:=E.step1 Ea ak.head;refine aQ ?_;refine Vo rfl ?_;exact ⟨rfl,by unfold XV;rw[if_pos h1];exact Ba,(LW.step E aj)⟩
  ·
   have h1:ke t.d t.nd≠0:=fun e=>absurd h1 (by rw[e];decide);refine aQ ?_;refine Vo rfl ?_;exact ⟨rfl,by unfold XV;rw[if_neg h1];exact Ba,(LW.step E aj)⟩
theorem F9 (ga:Nat) (t:Dec) (n:Nat) (c:ByteArray) (l:List Nat) (hl:t.d.length=800) (hn:n≤800) (hc:c.size=l.length) (hcl:∀i,i<l.length→l[i]? =some (aL c i)) (hB:aB w ga 229 (yg t)) :
 Calls prog 277 #[.slice (some ⟨ga,0,none⟩) n 800,.string c] w (aH w (.bool (jh (t.d.take n) l))):=by
 refine zc func277 rfl ntmps277 rfl ?_;obtain ⟨HF,LW,aj,E⟩:=bg w;replace HF:=HF.and (Per.blk hB (fun h=>h.elim));refine jm ?_;replace HF:=HF.on E;replace LW:=LW.step E aj;replace E:=aF (No) w;refine jd (ι:=Nat) (fun i=>[(0,.slice (some ⟨ga,0,none⟩) n 800),(1,.string c),(4,.bool false),(5,.int .i64 ((i:Nat):Int))]) (fun i w'=>Ext (No) w w'∧(i≤l.length∧i≤n∧jh ((t.d.take n).drop i) (l.drop i)=jh (t.d.take n) l)) (fun i=>l.length-i) 0 ⟨rfl,rfl,rfl,rfl,trivial⟩ ⟨Ext.refl _ _,Nat.zero_le _,Nat.zero_le _,rfl⟩ ?_;rintro i w2 ⟨M1,⟨hi,hin,he⟩⟩;have dM:=bD (No) w;replace E:=E.trans M1;replace HF:=HF.on E;replace LW:=LW.step E aj;replace E:=aF (No) w2;refine zv ?_;refine ve ?_;refine zq ?_;refine zj rfl (fun h1=>?_) (fun h1=>?_)
 ·
  have h1:i<l.length:=by have h1:=of_decide_eq_true h1;omega
  refine gf ?_;refine zj rfl (fun h2=>?_) (fun h2=>?_)
  ·
   have h2:n≤i:=by have h2:=of_decide_eq_true h2;omega
   have e:jh (t.d.take n) l=true:=by rw[←he,pq (by rw[List.length_take];omega) h1]
   refine gf ?_;exact qtk
  ·
   have h2:i<n:=by have h2:=of_decide_eq_false h2;omega
   have hs:=F8 (take_at (d:=t.d) h2 om) (hcl i h1);rw[he] at hs;refine zq ?_;have OY:∀q9,(ak (km [])) q9→q9<(World.drew w2).heap.size→(No) q9:=fun k h _=>(ak.none_) k h;refine yx (No) ak.none_ [] [] (xq [Fx.of (.slice (some ⟨ga,0,none⟩) n 800),
    Fx.of (.int .i64 ((i:Nat):Int)),
    Fx.of (.pointer (some ⟨ga,i,none⟩)),
    Fx.of (.int .u8 ((dg t.d i:Nat):Int)),
    Fx.of (.string c),
    Fx.of (.int .i64 ((i:Nat):Int)),
    Fx.of (.int .u8 ((aL c i:Nat):Int)),
    Fx.of (.bool (((dg t.d i:Nat):Int) !=((aL c i:Nat):Int)))]) mixed rfl trivial (fun _ h=>by cases h) ?_ ?_
   · refine ⟨arm,arm,?_,?_,arm,arm,?_,arm,trivial⟩
     · exact SL
     · exact ae3
     · refine qh ?_;exact ae1
   intro vs w3 LE AO AL AF AA;replace E:=E.drew.trans (LE.mono OY);obtain ⟨_,e7,k7⟩:=AL.2.2.2.2.2.2.2.1;refine vo (τ:=[(0,_),(1,_),(4,_),(5,_),(23,.bool (((dg t.d i:Nat):Int) !=((aL c i:Nat):Int)))]) ⟨rfl,rfl,rfl,rfl,congrArg some e7,trivial⟩ ?_;clear AL AF AA LE AO OY e7 k7;refine aQ ?_;refine zj rfl (fun h3=>?_) (fun h3=>?_)
   ·
    have h3:dg t.d i≠aL c i:=fun e=>absurd h3 (by rw[e];simp);rw[if_neg h3] at hs;refine aQ ?_;have OY:∀q9,(ak (km [])) q9→q9<(World.drew w3).heap.size→(No) q9:=fun k h _=>(ak.none_) k h;refine yx (No) ak.none_ [] [] (xq [Fx.of (.slice (some ⟨ga,0,none⟩) n 800),
     Fx.of (.int .i64 ((i:Nat):Int)),
     Fx.of (.pointer (some ⟨ga,i,none⟩)),
     Fx.of (.int .u8 ((dg t.d i:Nat):Int)),
     Fx.of (.string c),
     Fx.of (.int .i64 ((i:Nat):Int)),
     Fx.of (.int .u8 ((aL c i:Nat):Int)),
     Fx.of (.bool (decide (dg t.d i<aL c i))),
     Fx.of (.bool (decide (dg t.d i<aL c i)))]) mixed rfl trivial (fun _ h=>by cases h) ?_ ?_
    · refine ⟨arm,arm,?_,?_,arm,arm,?_,?_,arm,trivial⟩
      · exact SL
      · exact ae3
      · refine qh ?_;exact ae1
      · refine qh ?_;intro vs X wq K;exact NP rfl rfl ⟨Below.refl _ _,Left.of (xr om)⟩
    intro vs w4 LE AO AL AF AA;replace E:=E.drew.trans (LE.mono OY);obtain ⟨_,e8,k8⟩:=AL.2.2.2.2.2.2.2.2.1;refine vo (τ:=[(0,_),(1,_),(4,.bool (decide (dg t.d i<aL c i))),(5,_)]) ⟨rfl,rfl,congrArg some e8,rfl,trivial⟩ ?_;clear AL AF AA LE AO OY e8 k8;refine yu ?_;exact ⟨by rw[hs];rfl,(LW.step E aj).toBelow⟩
   ·
    have h3:dg t.d i=aL c i:=by
     rcases Nat.decEq (dg t.d i) (aL c i) with h | h
     · rw[bne_iff_ne.2 om] at h3;cases h3
     · exact h
    rw[if_pos h3] at hs;refine ji ?_;refine yy 5 (.int .i64 ((i+1:Nat):Int)) rfl (rfl) ?_;exact yc (i+1) om ⟨rfl,rfl,rfl,rfl,trivial⟩ ⟨M1.step E dM,om,om,hs.symm⟩
 ·
  have h1:l.length≤i:=by have h1:=of_decide_eq_false h1;omega
  have e:jh (t.d.take n) l=false:=by rw[←he,Ch _ h1]
  refine jm ?_;exact qtk
end
end Go.Proofs.YtmnmebdmpigddaaGreatDoor
namespace Go.Proofs.YtmnmebdmpigddaaGreatDoor
open Go.RowKit Proofs.Tryz
theorem mK {P Q:Prop} (k:Q) (h:(Unit→Q)→P:=by
 intro zK;refine za rfl (ya underlying3 rfl rfl Ba (wm hl t.dp rfl) ?_);exact zK ()):P:=h fun _=>k
theorem mM {P Q:Prop} (k:Q) (h:(Unit→Q)→P:=by
 intro zK;refine za rfl (ya underlying3 rfl rfl Ba (wZ hl (t.nd) rfl) ?_);exact zK ()):P:=h fun _=>k
theorem mO {P Q:Prop} (k:Q) (h:(Unit→Q)→P:=by
 intro zK;refine za rfl (jl Oo u5 rfl (wrap_u64 om) ?_);exact zK ()):P:=h fun _=>k
theorem mP {P Q:Prop} (k:Q) (h:(Unit→Q)→P:=by
 intro zK;refine WR ?_;refine zq ?_;refine yy 6 (.int .u64 ((M*10:Nat):Int)) rfl (rfl) ?_;exact zK ()):P:=h fun _=>k
theorem ygk {P Q:Prop} (k:Q) (h:(Unit→Q)→P:=by
 intro zK;refine zp (qq oH rfl rfl Ba rfl rfl (xA hlx om) (ad8 hlx om) ?_);exact zK ()):P:=h fun _=>k
theorem mQ {P Q:Prop} (k:Q) (h:(Unit→Q)→P:=by
 intro zK;refine oh ?_;refine za rfl (jl u5 Oo rfl (ywz om) (zu ?_));exact zK ()):P:=h fun _=>k
attribute [local irreducible] OW RS CW EW
theorem ao2 (k:Nat) (hk:k≤60):IntKind.u64.wrap (((1:Nat):Int)*2^(min ((k:Nat):Int).toNat IntKind.u64.bits))=((2^k:Nat):Int):=by
 rw[WQ 1 k om,Nat.one_mul];have h1:2^k≤2^60:=Nat.pow_le_pow_right de hk;have h2:(2:Nat)^60=1152921504606846976:=de;rw[Nat.mod_eq_of_lt om]
theorem SS (n k:Nat) (hn:n<18446744073709551616) (hk:k≤60):IntKind.u64.wrap (BitVec.ofInt IntKind.u64.bits (n:Int) &&& BitVec.ofInt IntKind.u64.bits ((2^k-1:Nat):Int)).toNat=((n%2^k:Nat):Int):=by
 have h1:2^k≤2^60:=Nat.pow_le_pow_right de hk;have h2:(2:Nat)^60=1152921504606846976:=de;rw[kt hn om,Nat.and_two_pow_sub_one_eq_mod]
theorem Jf (n k Q:Nat) (hk:k≤60) (h:Q=n/2^k):((n:Nat):Int).fdiv (2^(min ((k:Nat):Int).toNat IntKind.u64.bits))=((Q:Nat):Int):=by
 rw[h];exact xe n k om
theorem SV (n k M:Nat) (hn:n<18446744073709551616) (hk:k≤60) (h:M=n%2^k):IntKind.u64.wrap (BitVec.ofInt IntKind.u64.bits (n:Int) &&& BitVec.ofInt IntKind.u64.bits ((2^k-1:Nat):Int)).toNat=((M:Nat):Int):=by
 rw[h];exact SS n k hn hk
theorem Ga (m:Nat):(((m:Nat):Int)==0)=decide (m=0):=by
 exact Rp
theorem Yo {t:Dec} {k:Nat} {s:eU} (h1:s.n/2^k=0) (h2:s.r<t.nd):zxv t k s=false:=decide_eq_false (fun h=>h.elim (fun h=>h h1) (fun h=>absurd h (Nat.not_le.2 h2)))
theorem ao3 {t:Dec} {k:Nat} {s:eU} (h:RG t k s):s.r≤t.nd+k+1:=by
 rcases h.far with h1 | h1
 · omega
 · have h2:10^(s.r-t.nd)<10^(k+1):=by
    exact Rw
   have:=(Nat.pow_lt_pow_iff_right (a:=10) de).1 h2;omega
section
variable (w:World)
theorem sD (ga k:Nat) (t:Dec) (hk:1≤k∧k≤60) (ht:bH t) (h0:0<t.nd) (hdp:-20000000≤t.dp∧t.dp≤20000000) (hB:aB w ga 229 (yg t)) :
 Calls prog 271 #[.pointer (some ⟨ga,0,none⟩),.int .u64 ((k:Nat):Int)] w fun e w'=>e= .returned (.tuple #[])∧aB w' ga 229 (yg (js t k))∧Ext (ak [some ga]) w w':=by
 have hl:=ht.len;have hnd:=ht.hn;have hp2:0<2^k:=Nat.two_pow_pos k;refine zc func271 rfl ntmps271 rfl ?_;have Ba:=hB;have LW:=aF (ak [(some ga)]) w;have aj:=bD (ak [(some ga)]) w;have E:=aF (ak [(some ga)]) w;refine qA ?_;replace LW:=LW.step E aj;replace E:=aF (ak [(some ga)]) w;refine yw (ι:=eU) (fun s=>[(0,.pointer (some ⟨ga,0,none⟩)),(1,.int .u64 ((k:Nat):Int)),(4,.int .i64 (s.r:Int)),(5,.int .i64 0),(6,.int .u64 (s.n:Int))]) (fun s w'=>Ext (ak [(some ga)]) w w'∧aB w' ga 229 (yg t)∧(s=iA t k)) ?_ ?_
 ·
  have M1:=aF (ak [(some ga)]) w;have dM:=bD (ak [(some ga)]) w;refine aQ ?_;replace M1:=M1.step E dM;replace E:=aF (ak [(some ga)]) w;refine jd (ι:=eU) (fun s=>[(0,.pointer (some ⟨ga,0,none⟩)),(1,.int .u64 ((k:Nat):Int)),(4,.int .i64 (s.r:Int)),(5,.int .i64 0),(6,.int .u64 (s.n:Int))]) (fun s w'=>Ext (ak [(some ga)]) w w'∧aB w' ga 229 (yg t)∧(LH t k s∧qm (zxv t k) (quk t) s=XW t k)) (fun s=>t.nd-s.r) (⟨0,0⟩) ⟨rfl,rfl,rfl,rfl,rfl,trivial⟩ ⟨Ext.refl _ _,(by exact Ba),rF t k,rfl⟩ ?_;have d9:=(zg Ba.lt);clear Ba;rintro s w4 ⟨M3,Ba,⟨hI,hu⟩⟩;have fA:GR (ak [(some ga)]) (ak [(some ga)]) w:=(ak.grow ak.none_ (fun k e=>Or.inl (ak.head k e)));replace E:=E.trans M3;replace M1:=M1.step E dM;replace E:=aF (ak [(some ga)]) w4;have ao4:=sw hI.hn hk.2;obtain ⟨Q,hQ⟩:∃Q,Q=s.n/2^k:=⟨_,rfl⟩;have hr:=hI.hr;refine zv ?_;refine za rfl (jo rfl rfl om (Jf s.n k Q om hQ) (zq ?_));refine ze 15 (.bool (decide (Q=0))) rfl (by rw[Ga]<;>rfl) (zj rfl (fun h1=>?_) (fun h1=>?_))
  ·
   have h1:Q=0:=of_decide_eq_true h1;rw[hQ] at h1;refine yq ?_;refine mM ?_;refine zq ?_;refine zj rfl (fun h2=>?_) (fun h2=>?_)
   ·
    have h2:t.nd≤s.r:=by have h2:=of_decide_eq_true h2;omega
    have hn0:=hI.pos om;have hdone:zxv t k s=true:=decide_eq_true (.inr h2);rw[yv hdone] at hu;have hJ:=l9 (k:=k) ht h0;rw[←hu] at hJ;refine zr ?_;refine ze 25 (.bool false) rfl (aDq om) (zv ?_);replace M1:=M1.step E dM;replace E:=aF (ak [(some ga)]) w4;refine jd (ι:=eU) (fun s=>[(0,.pointer (some ⟨ga,0,none⟩)),(1,.int .u64 ((k:Nat):Int)),(4,.int .i64 (s.r:Int)),(5,.int .i64 0),(6,.int .u64 (s.n:Int))]) (fun s w'=>Ext (ak [(some ga)]) w4 w'∧aB w' ga 229 (yg t)∧(LM t k s∧qm (zpv k) qcz s=iA t k)) (fun s=>2^k-s.n) s ⟨rfl,rfl,rfl,rfl,rfl,trivial⟩ ⟨Ext.refl _ _,(by exact Ba),hJ,by rw[hu];rfl⟩ ?_;have d9:=(zg Ba.lt);clear Ba;rintro s w6 ⟨M5,Ba,⟨hJ,hu⟩⟩;have Ng:GR (ak [(some ga)]) (ak [(some ga)]) w4:=(ak.grow ak.none_ (fun k e=>Or.inl (ak.head k e)));replace E:=E.trans M5;replace M1:=M1.step E dM;replace E:=aF (ak [(some ga)]) w6;have ao4:=sw hJ.1.hn hk.2;have hnp:=hJ.1.pos;have hrr:=hJ.1.far;obtain ⟨Q,hQ⟩:∃Q,Q=s.n/2^k:=⟨_,rfl⟩;refine zv ?_;refine za rfl (jo rfl rfl om (Jf s.n k Q om hQ) (zq ?_));refine ze 32 (.bool (decide (Q=0))) rfl (by rw[Ga]<;>rfl) (zj rfl (fun h3=>?_) (fun h3=>?_))
    ·
     have h3:Q=0:=of_decide_eq_true h3;rw[hQ] at h3;have hdone:zpv k s=false:=decide_eq_false (fun h=>h h3);obtain ⟨hk1,hk2⟩:=l8 hJ hdone;have hk3:=su hk2 hk.2;have hr3:=ao3 hk1.1;have hs:qcz s= ⟨s.r+1,s.n*10⟩:=rfl;rw[qx hdone] at hu;rw[hs] at hk1 hu hr3;have hr3:s.r+1≤900:=by have hr3:s.r+1≤t.nd+k+1:=hr3;omega
     refine zt ?_;refine WR ?_;refine zv ?_;refine yo ?_;refine zq ?_;refine yy 6 (.int .u64 ((s.n*10:Nat):Int)) rfl (rfl) (yy 4 (.int .i64 ((s.r+1:Nat):Int)) rfl (rfl) ?_);exact yc (⟨s.r+1,s.n*10⟩) (by show 2^k-s.n*10<2^k-s.n;omega) ⟨rfl,rfl,rfl,rfl,rfl,trivial⟩ ⟨M5.step E Ng,(by exact Ba),hk1,hu⟩
    ·
     have h3:¬Q=0:=of_decide_eq_false h3;rw[hQ] at h3;have hdone:zpv k s=true:=decide_eq_true h3;rw[yv hdone] at hu;refine zr ?_;refine qc rfl (zq ?_);exact yk s ⟨rfl,rfl,rfl,rfl,rfl,trivial⟩ ⟨M1.step E dM,(by exact Ba),hu⟩
   ·
    have h2:s.r<t.nd:=by have h2:=of_decide_eq_false h2;omega
    have hdone:=Yo h1 h2;obtain ⟨hk1,hk2,_⟩:=rE ht hI hdone;have hk3:=su hk2 hk.2;have hg:=ht.dh s.r h2;have hs:quk t s= ⟨s.r+1,s.n*10+(dg t.d s.r-48)⟩:=rfl;rw[qx hdone] at hu;rw[hs] at hk1 hu;refine yu ?_;refine za rfl (vb (j:=s.r) fJ oH rfl rfl om om (za rfl (ya u5 rfl rfl Ba (Yn hl (dg t.d (s.r)) (s.r) rfl om) (mO ?_))));refine zv ?_;refine WR ?_;refine aQ ?_;refine oh ?_;refine zhk ?_;refine zsq ?_;refine yy 6 (.int .u64 ((s.n*10+(dg t.d s.r-48):Nat):Int)) rfl ((by congr 1;omega:(.int .u64 ((((s.n:Int)*10)+((dg t.d (s.r):Nat):Int))-48):Value)=_)) (yy 4 (.int .i64 ((s.r+1:Nat):Int)) rfl (rfl) ?_);exact yc (⟨s.r+1,s.n*10+(dg t.d s.r-48)⟩) (by show t.nd-(s.r+1)<t.nd-s.r;omega) ⟨rfl,rfl,rfl,rfl,rfl,trivial⟩ ⟨M3.step E fA,(by exact Ba),hk1,hu⟩
  ·
   have h1:¬Q=0:=of_decide_eq_false h1;rw[hQ] at h1;have hdone:zxv t k s=true:=decide_eq_true (.inl h1);rw[yv hdone] at hu;have hdB:zpv k (XW t k)=true:=by rw[←hu];exact decide_eq_true h1
   have e:s=iA t k:=by unfold iA;rw[yv hdB];exact hu
   refine ye ?_;exact yk s ⟨rfl,rfl,rfl,rfl,rfl,trivial⟩ ⟨M1.step E dM,(by exact Ba),e⟩
 ·
  have d9:=(zg Ba.lt);clear Ba;rintro s w2 ⟨M1,Ba,hs⟩;replace E:=E.trans M1;replace LW:=LW.step E aj;replace E:=aF (ak [(some ga)]) w2;obtain ⟨hJ,hdB⟩:=ztq k ht h0;have hBr:=ad9 k ht h0;have hBn:=sw hJ.1.hn hk.2;have hBp:=hJ.1.hr;rw[←hs] at hBr hBn hBp;refine zv ?_;refine mK ?_;refine aQ ?_;refine yt ?_;refine yt ?_;refine zu ?_;refine zp (qq G9 rfl rfl Ba rfl rfl (xA hl (by decide:801<804)) (qkk hl (t.dp-((s.r:Int)-1))) ?_);intro w7 Bx Ea;replace Ba:aB w7 ga 229 (yg { t with dp:=t.dp-((s.r:Int)-1) }):=Bx;replace E:=E.step1 Ea ak.head;refine zv ?_;refine za rfl (gk rfl rfl om (ao2 k om) ?_);have aQ2:=su (n:=2^k-1) (k:=k) om om;refine zhk ?_;refine ye ?_;refine ze 8 (.int .u64 ((2^k-1:Nat):Int)) rfl (by congr 1;omega) ?_;replace LW:=LW.step E aj;replace E:=aF (ak [(some ga)]) w7;refine yw (ι:=RsC) (fun x=>[(0,.pointer (some ⟨ga,0,none⟩)),(1,.int .u64 ((k:Nat):Int)),(5,.int .i64 (x.w:Int)),(6,.int .u64 (x.n:Int)),(8,.int .u64 ((2^k-1:Nat):Int))]) (fun x w'=>Ext (ak [(some ga)]) w7 w'∧aB w' ga 229 (yg { t with d:=x.d,dp:=t.dp-((s.r:Int)-1) })∧(x=RB t k)) ?_ ?_
  ·
   have M8:=aF (ak [(some ga)]) w7;have wh:=bD (ak [(some ga)]) w7;refine aQ ?_;replace M8:=M8.step E wh;replace E:=aF (ak [(some ga)]) w7;refine jd (ι:=RsC) (fun x=>[(0,.pointer (some ⟨ga,0,none⟩)),(1,.int .u64 ((k:Nat):Int)),(4,.int .i64 (x.r:Int)),(5,.int .i64 (x.w:Int)),(6,.int .u64 (x.n:Int)),(8,.int .u64 ((2^k-1:Nat):Int))]) (fun x w'=>Ext (ak [(some ga)]) w7 w'∧aB w' ga 229 (yg { t with d:=x.d,dp:=t.dp-((s.r:Int)-1) })∧(LP t k s.r x∧qm (ymz t) (quq k) x=RB t k)) (fun x=>t.nd-x.r) (⟨t.d,s.r,0,s.n⟩) ⟨rfl,rfl,rfl,rfl,rfl,rfl,trivial⟩ ⟨Ext.refl _ _,(by exact Ba),by rw[hs];exact rH ht h0,by rw[hs];rfl⟩ ?_;have d9:=(zg Ba.lt);clear Ba;rintro x dS ⟨Xt,Ba,⟨hI,hu⟩⟩;have Ym:GR (ak [(some ga)]) (ak [(some ga)]) w7:=(ak.grow ak.none_ (fun k e=>Or.inl (ak.head k e)));replace E:=E.trans Xt;replace M8:=M8.step E wh;replace E:=aF (ak [(some ga)]) dS;have hlx:({ t with d:=x.d,dp:=t.dp-((s.r:Int)-1) }:Dec).d.length=800:=hI.len;have hxw:=hI.hw;have hxr:=hI.hr;have ao4:=sw hI.hn hk.2;refine zr ?_;refine za rfl (ya underlying3 rfl rfl Ba (wZ hlx (t.nd) rfl) (zq ?_));refine zj rfl (fun h1=>?_) (fun h1=>?_)
   ·
    have h1:x.r<t.nd:=by have h1:=of_decide_eq_true h1;omega
    have hdone:ymz t x=false:=decide_eq_false om;have hkeep:=rG ht hk.1 hBp hI hdone;have hg:=ht.dh x.r om;rw[←hI.old x.r om] at hg;obtain ⟨Q,hQ⟩:∃Q,Q=x.n/2^k:=⟨_,rfl⟩;obtain ⟨M,hM⟩:∃M,M=x.n%2^k:=⟨_,rfl⟩;have hq9:=qyz hI.hn;rw[←hQ] at hq9;have aM6:=su (n:=M) (by rw[hM];exact Nat.mod_lt _ hp2) hk.2;have hst:quq k x= ⟨x.d.set x.w (Q+48),x.r+1,x.w+1,M*10+(dg x.d x.r-48)⟩:=by rw[hQ,hM];rfl
    rw[qx hdone] at hu;rw[hst] at hkeep hu;refine zy ?_;refine za rfl (vb (j:=x.r) fJ oH rfl rfl om om (za rfl (ya u5 rfl rfl Ba (Yn hlx (dg x.d (x.r)) (x.r) rfl om) (mO ?_))));refine zr ?_;refine za rfl (jo rfl rfl om (Jf x.n k Q om hQ) (zr ?_));refine za rfl (kg rfl rfl (SV x.n k M om hk.2 hM) (yu ?_));refine mQ ?_;refine za rfl (vb (j:=x.w) fJ oH rfl rfl rfl om (zd 86 (.int .u8 ((Q+48:Nat):Int)) rfl (rfl) (ygk ?_)));intro eB Bx Ea;replace Ba:aB eB ga 229 (yg { t with d:=x.d.set x.w (Q+48),dp:=t.dp-((s.r:Int)-1) }):=Bx;replace E:=E.step1 Ea ak.head;refine zv ?_;refine yo ?_;refine zv ?_;refine WR ?_;refine aQ ?_;refine oh ?_;refine zhk ?_;refine zsq ?_;refine yy 6 (.int .u64 ((M*10+(dg x.d x.r-48):Nat):Int)) rfl ((by congr 1;omega:(.int .u64 (((((M:Nat):Int)*10)+((dg x.d (x.r):Nat):Int))-48):Value)=_)) (yy 4 (.int .i64 ((x.r+1:Nat):Int)) rfl (rfl) (yy 5 (.int .i64 ((x.w+1:Nat):Int)) rfl (rfl) ?_));exact yc (⟨x.d.set x.w (Q+48),x.r+1,x.w+1,M*10+(dg x.d x.r-48)⟩) (by show t.nd-(x.r+1)<t.nd-x.r;omega) ⟨rfl,rfl,rfl,rfl,rfl,rfl,trivial⟩ ⟨Xt.step E Ym,(by exact Ba),hkeep,hu⟩
   ·
    have h1:t.nd≤x.r:=by have h1:=of_decide_eq_false h1;omega
    have hdone:ymz t x=true:=decide_eq_true h1;rw[yv hdone] at hu;refine ye ?_;exact yk x ⟨rfl,rfl,rfl,rfl,rfl,trivial⟩ ⟨M8.step E wh,(by exact Ba),hu⟩
  ·
   have d9:=(zg Ba.lt);clear Ba;rintro x w9 ⟨M8,Ba,hx⟩;replace E:=E.trans M8;replace LW:=LW.step E aj;replace E:=aF (ak [(some ga)]) w9;obtain ⟨hC,_⟩:=Bu ht hk.1 h0;refine aQ ?_;replace LW:=LW.step E aj;replace E:=aF (ak [(some ga)]) w9;refine yw (ι:=Va) (fun y=>[(0,.pointer (some ⟨ga,0,none⟩)),(5,.int .i64 (y.w:Int))]) (fun y w'=>Ext (ak [(some ga)]) w9 w'∧aB w' ga 229 (yg { t with d:=y.d,dp:=t.dp-((s.r:Int)-1),tr:=y.tr })∧(y=rsE t k)) ?_ ?_
   ·
    have iJ:=aF (ak [(some ga)]) w9;have gK:=bD (ak [(some ga)]) w9;have hl9:({ t with d:=x.d,dp:=t.dp-((s.r:Int)-1) }:Dec).d.length=800:=by show x.d.length=800;rw[hx];exact hC.len
    refine aQ ?_;replace iJ:=iJ.step E gK;replace E:=aF (ak [(some ga)]) w9;refine jd (ι:=Va×Nat) (fun (y,j)=>[(0,.pointer (some ⟨ga,0,none⟩)),(1,.int .u64 ((k:Nat):Int)),(5,.int .i64 (y.w:Int)),(6,.int .u64 (y.n:Int)),(8,.int .u64 ((2^k-1:Nat):Int))]) (fun (y,j) w'=>Ext (ak [(some ga)]) w9 w'∧aB w' ga 229 (yg { t with d:=y.d,dp:=t.dp-((s.r:Int)-1),tr:=y.tr })∧(FQ t k s.r y∧qm RD (gu k) y=rsE t k∧(2^j∣y.n∧j≤k+1∧(j=k+1→y.n=0)))) (fun (y,j)=>k+1-j) (⟨x.d,x.w,x.n,t.tr⟩,0) ⟨rfl,rfl,rfl,rfl,rfl,trivial⟩ ⟨Ext.refl _ _,(by exact Ba),by rw[hx,hs];exact rM ht hk.1 h0,by rw[hx];rfl,⟨Nat.one_dvd _,om,fun e=>absurd e om⟩⟩ ?_;have d9:=(zg Ba.lt);clear Ba;rintro ⟨y,j⟩ w16 ⟨Np,Ba,⟨hI,hu,hj⟩⟩;have F7:GR (ak [(some ga)]) (ak [(some ga)]) w9:=(ak.grow ak.none_ (fun k e=>Or.inl (ak.head k e)));replace E:=E.trans Np;replace iJ:=iJ.step E gK;replace E:=aF (ak [(some ga)]) w16;have qH:({ t with d:=y.d,dp:=t.dp-((s.r:Int)-1),tr:=y.tr }:Dec).d.length=800:=hI.len;have hyw:=hI.hw;have ao4:=sw hI.hn hk.2;refine zr ?_;refine zj rfl (fun h1=>?_) (fun h1=>?_)
    ·
     have h1:0<y.n:=by have h1:=of_decide_eq_true h1;omega
     have hdone:RD y=false:=decide_eq_false om;have hkeep:=rJ hk.1 hI;obtain ⟨hj1,hj2⟩:=Bv hj hdone;obtain ⟨Q,hQ⟩:∃Q,Q=y.n/2^k:=⟨_,rfl⟩;obtain ⟨M,hM⟩:∃M,M=y.n%2^k:=⟨_,rfl⟩;have hq9:=qyz hI.hn;rw[←hQ] at hq9;have aM6:=su (n:=M) (by rw[hM];exact Nat.mod_lt _ hp2) hk.2;rw[qx hdone] at hu;refine zr ?_;refine za rfl (jo rfl rfl om (Jf y.n k Q om hQ) (zr ?_));refine za rfl (kg rfl rfl (SV y.n k M om hk.2 hM) (zy ?_));refine zj rfl (fun h2=>?_) (fun h2=>?_)
     ·
      have h2:y.w<800:=by have h2:=of_decide_eq_true h2;omega
      have hst:gu k y= ⟨y.d.set y.w (Q+48),y.w+1,M*10,y.tr⟩:=by rw[hQ,hM];unfold gu;rw[if_pos h2]
      rw[hst] at hkeep hu hj2;refine zv ?_;refine mQ ?_;refine za rfl (vb (j:=y.w) fJ oH rfl rfl rfl om (zd 111 (.int .u8 ((Q+48:Nat):Int)) rfl (rfl) (zp (qq oH rfl rfl Ba rfl rfl (xA qH om) (ad8 qH om) ?_))));intro nS Bx Ea;replace Ba:aB nS ga 229 (yg { t with d:=y.d.set y.w (Q+48),dp:=t.dp-((s.r:Int)-1),tr:=y.tr }):=Bx;replace E:=E.step1 Ea ak.head;refine ye ?_;refine yo ?_;refine zv ?_;refine mP ?_;refine yy 5 (.int .i64 ((y.w+1:Nat):Int)) rfl (rfl) ?_;exact yc (⟨y.d.set y.w (Q+48),y.w+1,M*10,y.tr⟩,j+1) (by show k+1-(j+1)<k+1-j;omega) ⟨rfl,rfl,rfl,rfl,rfl,trivial⟩ ⟨Np.step E F7,(by exact Ba),hkeep,hu,hj2⟩
     ·
      have h2:¬y.w<800:=by have h2:=of_decide_eq_false h2;omega
      refine zt ?_;refine zj rfl (fun h3=>?_) (fun h3=>?_)
      ·
       have h3:0<Q:=by have h3:=of_decide_eq_true h3;omega
       have hst:gu k y= ⟨y.d,y.w,M*10,true⟩:=by rw[hQ] at h3;rw[hM];unfold gu;rw[if_neg h2,if_pos h3]
       rw[hst] at hkeep hu hj2;refine ye ?_;refine zp (qq sz4 rfl rfl Ba rfl rfl (xA qH (by decide:803<804)) (FP qH true) ?_);intro fF Bx Ea;replace Ba:aB fF ga 229 (yg { t with d:=y.d,dp:=t.dp-((s.r:Int)-1),tr:=true }):=Bx;replace E:=E.step1 Ea ak.head;refine ye ?_;refine mP ?_;exact yc (⟨y.d,y.w,M*10,true⟩,j+1) (by show k+1-(j+1)<k+1-j;omega) ⟨rfl,rfl,rfl,rfl,rfl,trivial⟩ ⟨Np.step E F7,(by exact Ba),hkeep,hu,hj2⟩
      ·
       have h3:¬0<Q:=by have h3:=of_decide_eq_false h3;omega
       have hst:gu k y= ⟨y.d,y.w,M*10,y.tr⟩:=by rw[hQ] at h3;rw[hM];unfold gu;rw[if_neg h2,if_neg h3]
       rw[hst] at hkeep hu hj2;refine ye ?_;refine mP ?_;exact yc (⟨y.d,y.w,M*10,y.tr⟩,j+1) (by show k+1-(j+1)<k+1-j;omega) ⟨rfl,rfl,rfl,rfl,rfl,trivial⟩ ⟨Np.step E F7,(by exact Ba),hkeep,hu,hj2⟩
    ·
     have h1:y.n=0:=by have h1:=of_decide_eq_false h1;omega
     have hdone:RD y=true:=decide_eq_true h1;rw[yv hdone] at hu;refine ye ?_;exact yk y ⟨rfl,rfl,trivial⟩ ⟨iJ.step E gK,(by exact Ba),hu⟩
   ·
    have d9:=(zg Ba.lt);clear Ba;rintro y dL ⟨iJ,Ba,hy⟩;replace E:=E.trans iJ;replace LW:=LW.step E aj;replace E:=aF (ak [(some ga)]) dL;obtain ⟨hE,_⟩:=Bw ht hk.1 h0;rw[←hy] at hE;have qH:({ t with d:=y.d,dp:=t.dp-((s.r:Int)-1),tr:=y.tr }:Dec).d.length=800:=hE.len;have aM7:({ t with d:=y.d,nd:=y.w,dp:=t.dp-((s.r:Int)-1),tr:=y.tr }:Dec).d.length=800:=hE.len;refine zt ?_;refine zp (qq G9 rfl rfl Ba rfl rfl (xA qH (by decide:800<804)) (l6 qH y.w) ?_);intro nT Bx Ea;replace Ba:aB nT ga 229 (yg { t with d:=y.d,nd:=y.w,dp:=t.dp-((s.r:Int)-1),tr:=y.tr }):=Bx;replace E:=E.step1 Ea ak.head;refine ye ?_;refine za rfl (zb aa6 rfl ((Ci _ ga _ aM7 hE.hw Ba).mono ?_));rintro e Qz ⟨rfl,hB,hE⟩;refine ⟨_,rfl,?_⟩;replace Ba:=hB;clear hB;replace E:=E.step1 hE ak.head;clear hE;refine aQ ?_;refine Vo rfl ?_;exact ⟨rfl,by unfold js;rw[←hy,←hs];exact Ba,(LW.step E aj)⟩
end
end Go.Proofs.YtmnmebdmpigddaaGreatDoor

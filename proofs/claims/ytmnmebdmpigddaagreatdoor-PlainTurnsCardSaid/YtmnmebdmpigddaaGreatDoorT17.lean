/- Texts of this claim. -/
import Derived.Test.YtmnmebdmpigddaaGreatDoorT16
import Derived.WalkKit
import Derived.Lib.Mul64
import Derived.Laws.Bits64b
import Derived.BigQuiet
import Derived.Deep.QuietTactic
import Derived.Lib.Hide
import Derived.Laws.Externs
import Derived.Deep.DeepCutAuto
import Derived.Deep.CutBlock
import Derived.Test.YtmnmebdmpigddaaGreatDoorRows
set_option maxRecDepth 100000
set_option maxHeartbeats 20000000
namespace Go.Proofs.YtmnmebdmpigddaaGreatDoor
open Go.RowKit Go.Lib
theorem ak1 {P:Prop} (h:P:=by
 have hqp:1≤q:=by omega
 have HDN:=Lib.hid hdn;have HQ2:Hid ((q-1)*3725290298+(r+3725290298)=T):=by have:=Zq.out;show _=_;omega
 clear hdn;by_cases hB:4294967296≤r+3725290298
 · have hend:=yuz bT0 bT1 b00 b01 HQ2.out (by omega) HDN.out (by omega);have Gv:=Lib.hid hend;clear hend;go_wp2
   go_meet
   exact ⟨by rw[Gv.out],rfl⟩
 · go_wp2
   go_round
   case rel=>exact ⟨q-1,r+3725290298,rfl,rfl,by omega,by omega,by omega,by omega,HQ2,HDN⟩
   case measure=>simp[RowKit.intOf];omega):P:=h
theorem ak2 {P:Prop} (h:P:=by
 have hqp:1≤q:=by omega
 have HDN:=Lib.hid hdn;have HQ2:Hid ((q-1)*3725290298+(r+3725290298)=U):=by have:=Zq.out;show _=_;omega
 clear hdn;by_cases hB:4294967296≤r+3725290298
 · have hend:=yuz bU0 bU1 b10 b11 HQ2.out (by omega) HDN.out (by omega);have Gv:=Lib.hid hend;clear hend;go_wp2
   go_meet
   exact ⟨by rw[Gv.out],rfl⟩
 · go_wp2
   go_round
   case rel=>exact ⟨q-1,r+3725290298,rfl,rfl,by omega,by omega,by omega,by omega,HQ2,HDN⟩
   case measure=>simp[RowKit.intOf];omega):P:=h
namespace AV
theorem maskN (a:Nat) (ha:a<18446744073709551616):bits .and .u64 (a:Int) 4294967295=((a%4294967296:Nat):Int):=by
 have h:=bits_and_u64_nat a 4294967295 ha (by omega);have e:a &&& 4294967295=a%4294967296:=Nat.and_two_pow_sub_one_eq_mod a 32;rw[e] at h;exact h
theorem divN (a:Nat):(a:Int)/4294967296=((a/4294967296:Nat):Int):=by omega
theorem mulN (a b:Nat):(a:Int)*(b:Int)=((a*b:Nat):Int):=(Int.natCast_mul a b).symm
theorem addN (a b:Nat):(a:Int)+(b:Int)=((a+b:Nat):Int):=(Int.natCast_add a b).symm
theorem wrapN (a:Nat) (ha:a<18446744073709551616):IntKind.u64.wrap (a:Int)=(a:Int):=by rw[IntKind.wrap_u64];omega
theorem wrapM (a:Nat):IntKind.u64.wrap (a:Int)=((a%18446744073709551616:Nat):Int):=by rw[IntKind.wrap_u64];omega
end AV
set_option maxHeartbeats 1000000 in
theorem rM (x y:Nat) (hx:x<18446744073709551616) (hy:y<18446744073709551616) (w:World) :
 Calls Tryz.prog 114 #[.int .u64 x,.int .u64 y] w fun e w'=>e= .returned (.tuple #[.int .u64 ((x*y/18446744073709551616:Nat):Int),.int .u64 ((x*y%18446744073709551616:Nat):Int)])∧w=w':=by
 obtain ⟨bd,bt,bw,hhi⟩:=Lib.mul64_hi x y hx hy;have ba:=Lib.half_mul_le (a:=x/4294967296) (b:=y/4294967296) (by omega) (by omega);have bb:=Lib.half_mul_le (a:=x/4294967296) (b:=y%4294967296) (by omega) (by omega);have bc:=Lib.half_mul_le (a:=x%4294967296) (b:=y/4294967296) (by omega) (by omega);have ba':x/4294967296*(y/4294967296)<18446744073709551616:=by omega
 have bb':x/4294967296*(y%4294967296)<18446744073709551616:=by omega
 have bc':x%4294967296*(y/4294967296)<18446744073709551616:=by omega
 have bh1:x/4294967296*(y/4294967296)+(x/4294967296*(y%4294967296)+x%4294967296*(y%4294967296)/4294967296)/4294967296<18446744073709551616:=by omega
 have bh:x/4294967296*(y/4294967296)+(x/4294967296*(y%4294967296)+x%4294967296*(y%4294967296)/4294967296)/4294967296+((x/4294967296*(y%4294967296)+x%4294967296*(y%4294967296)/4294967296)%4294967296+x%4294967296*(y/4294967296))/4294967296<18446744073709551616:=by omega
 go_enter Tryz.func114,Tryz.ntmps114
 go_wp2
 simp only[AV.maskN x hx,AV.maskN y hy,AV.divN,AV.mulN,AV.addN,AV.wrapN _ bd,AV.wrapN _ bb',AV.wrapN _ bt,AV.maskN _ bt,AV.wrapN _ bc',AV.wrapN _ bw,AV.wrapN _ ba',AV.wrapN _ bh1,AV.wrapN _ bh,AV.wrapM (x*y)]
 rw[hhi];go_ret2
 exact ⟨rfl,rfl⟩
theorem Nk (w:World):Calls Tryz.prog 174 #[.int .u64 1000000000000000000] w fun e w'=>e= .returned (.int .i64 4)∧w=w':=by
 go_enter Tryz.func174,Tryz.ntmps174
 go_wp2
 go_ret
 exact ⟨by kernel_rfl,rfl⟩
theorem        rO (x y : Int) (hx : 0 ≤ x) (hy : 0 ≤ y) (w : World) :
 (callFunc 116 #[.int .u64 x, .int .u64 y, .int .u64 0]).run Tryz.prog w =
  .ok (.value (.tuple #[.int .u64 ((x + y) % 18446744073709551616), .int .u64 ((x + y) / 18446744073709551616)])) w := by
 rw [run_callFunc_extern Tryz.func116 (by kernel_rfl) (by kernel_rfl) (by kernel_rfl) (e := add64Entry) (by kernel_rfl), run_add64 x y 0 hx hy (by omega) (by omega)];simp only [Result.andThen, Int.add_zero]
theorem as9 (hi lo:Int) (h0:0≤hi) (h1:hi<1000000000000000000) (l0:0≤lo) (l1:lo<18446744073709551616) :
 bits .or .u64 (hi*16) (lo/1152921504606846976)=hi*16+lo/1152921504606846976:=by
 obtain ⟨a,rfl⟩:=Int.eq_ofNat_of_zero_le h0;obtain ⟨b,hb⟩:=Int.eq_ofNat_of_zero_le (show 0≤lo/1152921504606846976 by omega);rw[hb];have h:=bits_or_u64_nat (a*16) b (by omega) (by omega);have e:a*16 ||| b=a*16+b:=by
  have:=Nat.shiftLeft_add_eq_or_of_lt (show b<2^4 by omega) a;rw[Nat.shiftLeft_eq] at this;exact this.symm
 rw[e] at h;rw[show ((a:Int)*16)=((a*16:Nat):Int) by omega,h];omega
theorem AX (V:Int) (h0:0≤V) (h1:V<18446744073709551616):bits .and .u64 V 4294967295=V%4294967296:=by
 obtain ⟨a,rfl⟩:=Int.eq_ofNat_of_zero_le h0;rw[AV.maskN a (by omega)];omega
theorem yuz {U V q r:Int} (h0:0≤U) (h1:U<16000000000000000000) (v0:0≤V) (v1:V<4294967296) (hq:q*3725290298+r=U) (hr:0≤r)
 (hQ:(U*4294967296+V)/16000000000000000000≤q) (ht:q*1983905792≤4294967296*r+V):q=(U*4294967296+V)/16000000000000000000:=by omega
theorem yeq {U V q r:Int} (h0:0≤U) (h1:U<16000000000000000000) (v0:0≤V) (v1:V<4294967296) (hq:q*3725290298+r=U)
 (ht:4294967296≤q∨4294967296*r+V<q*1983905792):(U*4294967296+V)/16000000000000000000≤q-1:=by omega
set_option maxHeartbeats 2000000 in
theorem Gw (hi lo:Int) (h0:0≤hi) (h1:hi<1000000000000000000) (l0:0≤lo) (l1:lo<18446744073709551616) (w:World) :
 Calls Tryz.prog 146 #[.int .u64 hi,.int .u64 lo,.int .u64 1000000000000000000] w fun e w'=>e= .returned (.tuple #[.int .u64 ((hi*18446744073709551616+lo)/1000000000000000000),.int .u64 ((hi*18446744073709551616+lo)%1000000000000000000)])∧ ∃n,w'=w.drewN n:=by
 by_cases hz:hi=0
 · subst hz;have e1:(0:Int)*18446744073709551616+lo=lo:=by omega
   rw[e1];have hq0:0≤lo/1000000000000000000:=by omega
   have hr0:0≤lo%1000000000000000000:=by omega
   go_enter Tryz.func146,Tryz.ntmps146
   go_wp2
   go_quiet (fail)
   go_wp2
   go_ret2
   exact ⟨by simp,_,rfl⟩
 · have hz2:(hi==0)=false:=by simpa using hz
   have hle:¬1000000000000000000≤hi:=by omega
   clear hz;obtain ⟨U,hU⟩:∃U,U=hi*16+lo/1152921504606846976:=⟨_,rfl⟩;obtain ⟨V,hV⟩:∃V,V=lo*16%18446744073709551616:=⟨_,rfl⟩;obtain ⟨V1,hV1⟩:∃V1,V1=V/4294967296:=⟨_,rfl⟩;obtain ⟨V0,hV0⟩:∃V0,V0=V%4294967296:=⟨_,rfl⟩;obtain ⟨Q,hQ⟩:∃Q,Q=U/3725290298:=⟨_,rfl⟩;have eor:bits .or .u64 (hi*16) (lo/1152921504606846976)=U:=by rw[as9 hi lo h0 h1 l0 l1,hU]
   have ew:IntKind.u64.wrap (lo*16)=V:=by rw[IntKind.wrap_u64,hV]
   have bU0:0≤U:=by omega
   have bU1:U<16000000000000000000:=by omega
   have bV0:0≤V:=by omega
   have bV1:V<18446744073709551616:=by omega
   have b10:0≤V1:=by omega
   have b11:V1<4294967296:=by omega
   have b00:0≤V0:=by omega
   have b01:V0<4294967296:=by omega
   have bQ0:0≤Q:=by omega
   have bQ1:Q≤4294967297:=by omega
   have em:bits .and .u64 V 4294967295=V0:=by rw[AX V bV0 bV1,hV0]
   have ed:V/4294967296=V1:=hV1.symm;have ec:bits .and .u64 16000000000000000000 4294967295=1983905792:=by rw[AX _ (by omega) (by omega)];rfl
   have eq:U/3725290298=Q:=hQ.symm;have HU:=Lib.hid hU;have HV:=Lib.hid hV;have HV1:=Lib.hid hV1;have HV0:=Lib.hid hV0;have HQ:=Lib.hid hQ;have bR0:0≤U-Q*3725290298:=by omega
   have bR1:U-Q*3725290298<3725290298:=by omega
   clear hU hV hV1 hV0 hQ;go_enter Tryz.func146,Tryz.ntmps146
   go_upto_block 0 with (go_at_call 174;refine (Nk _).mono ?_;rintro e w' ⟨rfl,rfl⟩)
   clear eq eor ew em ed ec;go_cut [15] (fun v wx=>v= .int .u64 ((U*4294967296+V1)/16000000000000000000)∧w=wx)
   case first=>
    go_wp2_with fail
    go_loop [15,16] (fun qv rv=>∃q r:Int,qv= .int .u64 q∧rv= .int .u64 r∧0≤q∧q≤4294967297∧0≤r∧r<4294967296∧Hid (q*3725290298+r=U)∧Hid ((U*4294967296+V1)/16000000000000000000≤q)) (fun qv _=>(RowKit.intOf qv).toNat)
    case atStart=>exact ⟨Q,U-Q*3725290298,by rw[HQ.out],rfl,bQ0,bQ1,bR0,by omega,by show _=_;omega,by have:=HQ.out;show _≤_;omega⟩
    case round=>
     obtain ⟨q,r,rfl,rfl,hq0,hq1,hr0,hr1,Zq,yC⟩:=hrel;by_cases hA:4294967296≤q
     · have hdn:=yeq bU0 bU1 b10 b11 Zq.out (Or.inl hA);exact ak2
     · by_cases hT:4294967296*r+V1<q*1983905792
       · have hdn:=yeq bU0 bU1 b10 b11 Zq.out (Or.inr hT);exact ak2
       · have hend:=yuz bU0 bU1 b10 b11 Zq.out hr0 yC.out (by omega);have Gv:=Lib.hid hend;clear hend;go_wp2
         go_meet
         exact ⟨by rw[Gv.out],rfl⟩
   case rest=>
    obtain ⟨rfl,rfl⟩:=hcut;obtain ⟨P,hP⟩:∃P,P=(U*4294967296+V1)/16000000000000000000:=⟨_,rfl⟩;obtain ⟨T,hT⟩:∃T,T=(U*4294967296+V1)%16000000000000000000:=⟨_,rfl⟩;rw[←hP];have bP0:0≤P:=by omega
    have bP1:P<4294967296:=by omega
    have bT0:0≤T:=by omega
    have bT1:T<16000000000000000000:=by omega
    obtain ⟨Q2,hQ2⟩:∃Q2,Q2=T/3725290298:=⟨_,rfl⟩;have cQ0:0≤Q2:=by omega
    have cQ1:Q2≤4294967297:=by omega
    have cR0:0≤T-Q2*3725290298:=by omega
    have cR1:T-Q2*3725290298<3725290298:=by omega
    obtain ⟨X1,hX1⟩:∃X,X=IntKind.u64.wrap (U*4294967296):=⟨_,rfl⟩;obtain ⟨X2,hX2⟩:∃X,X=IntKind.u64.wrap (X1+V1):=⟨_,rfl⟩;obtain ⟨X3,Zr⟩:∃X,X=IntKind.u64.wrap (P*16000000000000000000):=⟨_,rfl⟩;have e4:IntKind.u64.wrap (X2-X3)=T:=by rw[hX2,Zr,hX1];simp only[IntKind.wrap_u64];omega
    have e1:=hX1.symm;have e2:=hX2.symm;have e3:=Zr.symm;have aH1:0≤X1∧X1<18446744073709551616:=by rw[hX1];simp only[IntKind.wrap_u64];omega
    have aH2:0≤X2∧X2<18446744073709551616:=by rw[hX2];simp only[IntKind.wrap_u64];omega
    have aH3:0≤X3∧X3<18446744073709551616:=by rw[Zr];simp only[IntKind.wrap_u64];omega
    have HP:=Lib.hid hP;have HT:=Lib.hid hT;have asq:=Lib.hid hQ2;clear hP hT hQ2 hX1 hX2 Zr;go_upto_block 2 with fail
    clear e1 e2 e3 e4 aH1 aH2 aH3;go_cut [18] (fun v wx=>v= .int .u64 ((T*4294967296+V0)/16000000000000000000)∧w=wx)
    case first=>
     go_wp2_with fail
     go_loop [18,16] (fun qv rv=>∃q r:Int,qv= .int .u64 q∧rv= .int .u64 r∧0≤q∧q≤4294967297∧0≤r∧r<4294967296∧Hid (q*3725290298+r=T)∧Hid ((T*4294967296+V0)/16000000000000000000≤q)) (fun qv _=>(RowKit.intOf qv).toNat)
     case atStart=>exact ⟨Q2,T-Q2*3725290298,by rw[asq.out],by rw[asq.out],cQ0,cQ1,cR0,by omega,by show _=_;omega,by have:=asq.out;show _≤_;omega⟩
     case round=>
      obtain ⟨q,r,rfl,rfl,hq0,hq1,hr0,hr1,Zq,yC⟩:=hrel;by_cases hA:4294967296≤q
      · have hdn:=yeq bT0 bT1 b00 b01 Zq.out (Or.inl hA);exact ak1
      · by_cases hT:4294967296*r+V0<q*1983905792
        · have hdn:=yeq bT0 bT1 b00 b01 Zq.out (Or.inr hT);exact ak1
        · have hend:=yuz bT0 bT1 b00 b01 Zq.out hr0 yC.out (by omega);have Gv:=Lib.hid hend;clear hend;go_wp2
          go_meet
          exact ⟨by rw[Gv.out],rfl⟩
    case rest=>
     obtain ⟨rfl,rfl⟩:=hcut;obtain ⟨P2,hP2⟩:∃P,P=(T*4294967296+V0)/16000000000000000000:=⟨_,rfl⟩;obtain ⟨T2,hT2⟩:∃T2,T2=(T*4294967296+V0)%16000000000000000000:=⟨_,rfl⟩;rw[←hP2];have cP0:0≤P2:=by omega
     have cP1:P2<4294967296:=by omega
     have cT0:0≤T2:=by omega
     have cT1:T2<16000000000000000000:=by omega
     obtain ⟨X1,hX1⟩:∃X,X=IntKind.u64.wrap (T*4294967296):=⟨_,rfl⟩;obtain ⟨X2,hX2⟩:∃X,X=IntKind.u64.wrap (X1+V0):=⟨_,rfl⟩;obtain ⟨X3,Zr⟩:∃X,X=IntKind.u64.wrap (P2*16000000000000000000):=⟨_,rfl⟩;have e4:IntKind.u64.wrap (X2-X3)=T2:=by rw[hX2,Zr,hX1];simp only[IntKind.wrap_u64];omega
     have e1:=hX1.symm;have e2:=hX2.symm;have e3:=Zr.symm;have aH1:0≤X1∧X1<18446744073709551616:=by rw[hX1];simp only[IntKind.wrap_u64];omega
     have aH2:0≤X2∧X2<18446744073709551616:=by rw[hX2];simp only[IntKind.wrap_u64];omega
     have aH3:0≤X3∧X3<18446744073709551616:=by rw[Zr];simp only[IntKind.wrap_u64];omega
     have hfin:P*4294967296+P2=(hi*18446744073709551616+lo)/1000000000000000000∧T2/16=(hi*18446744073709551616+lo)%1000000000000000000:=by
      have a1:=HU.out;have a2:=HV.out;have a3:=HV1.out;have a4:=HV0.out;have a5:=HP.out;have a6:=HT.out;omega
     obtain ⟨f1,f2⟩:=hfin;have F1:=Lib.hid f1;have F2:=Lib.hid f2;have bF:P*4294967296+P2<18446744073709551616:=by omega
     clear hP2 hT2 hX1 hX2 Zr f1 f2;go_wp2
     go_ret2
     exact ⟨by rw[F1.out,F2.out];rfl,0,rfl⟩
end Go.Proofs.YtmnmebdmpigddaaGreatDoor
namespace Go.Proofs.YtmnmebdmpigddaaGreatDoor
open Go.RowKit Proofs.Tryz
theorem ak3 {P:Prop} (h:P:=by
 refine bodyPost_ret (v:=.tuple #[.agg #[.bool false,.slice none 0 0],.int .i64 3]) (by simp[results,Tryz.results94,go_sem,r0,r1]) rfl ?_;exact j6 (LW.trans (L.mono LW.size)) om _ _):P:=h
theorem Td (neg:Bool) (A:Option Addr) (c:Nat) (xs:List Nat) (w:World) (hx:aC w A xs) (hs:small au xs) (hl:xs.length≤1048576) :
 Calls prog 147 #[.bool neg,.slice A xs.length c] w (yd w (eH true (bL neg (val au xs))) (dV true (bL neg (val au xs)))):=by
 rcases Nat.lt_or_ge (val au xs) (au^30) with h | h
 · rw[zux (by rw[qt];exact h),zuz (by rw[qt];exact h)];exact qmz neg A c xs w hx hs hl h
 · rw[kP (by rw[qt];exact h),qkz (by rw[qt];exact h)];exact Kg neg A c xs w hx hs hl h
theorem Te {ys zs:List Nat} {k j u t C X:Nat} (hz:k+j<zs.length) (h:val au zs+au^(k+j)*u=C+au^k*(X*val au (ys.take j))) (ht:t=X*ys.getD j 0+zs.getD (k+j) 0+u) :
 val au (zs.set (k+j) (t%au))+au^(k+(j+1))*(t/au)=C+au^k*(X*val au (ys.take (j+1))):=by
 have h1:=ybk (b:=au) zs (k+j) (t%au) hz;have h2:au^(k+(j+1))*(t/au)=au^(k+j)*(au*(t/au)):=by rw[←Nat.add_assoc,Nat.pow_succ,Nat.mul_assoc]
 have h3:au^(k+j)*(t%au)+au^(k+j)*(au*(t/au))=au^(k+j)*t:=by rw[←Nat.mul_add,Nat.mod_add_div]
 have h4:au^(k+j)*t=au^(k+j)*(X*ys.getD j 0)+au^(k+j)*zs.getD (k+j) 0+au^(k+j)*u:=by rw[ht,Nat.mul_add,Nat.mul_add]
 have h5:au^k*(X*val au (ys.take (j+1)))=au^k*(X*val au (ys.take j))+au^(k+j)*(X*ys.getD j 0):=by
  rw[yk,Nat.mul_add,Nat.mul_add,Nat.pow_add,Nat.mul_left_comm X,Nat.mul_assoc (au^k)]
 omega
theorem Nl {xs ys zs:List Nat} {k u:Nat} (hz:k+ys.length<zs.length) (h0:zs.getD (k+ys.length) 0=0)
 (h:val au zs+au^(k+ys.length)*u=val au (xs.take k)*val au ys+au^k*(xs.getD k 0*val au (ys.take ys.length))) :
 val au (zs.set (k+ys.length) u)=val au (xs.take (k+1))*val au ys:=by
 have h1:=ybk (b:=au) zs (k+ys.length) u hz;rw[h0,Nat.mul_zero,Nat.add_zero] at h1;rw[h1,h,List.take_length,yk,Nat.add_mul,Nat.mul_assoc]
def Gy (w:World) (n1 n2:Bool) (A B:Option Addr) (c d:Nat) (xs ys:List Nat) (b:World):Prop:=
 Two w n1 n2 A B c d xs ys b∧(b.cell? ⟨w.heap.size+1+1,0,none⟩=some (.bool false)∧b.cell? ⟨w.heap.size+1+1,1,none⟩=some (.slice none 0 0)∧b.frozen? ⟨w.heap.size+1+1,0,none⟩=false∧b.frozen? ⟨w.heap.size+1+1,1,none⟩=false)
def Tf (w:World) (n1 n2:Bool) (A B:Option Addr) (c d:Nat) (xs ys:List Nat):World:=(two w n1 n2 A B c d xs ys).alloc (.cells #[.bool false,.slice none 0 0] 24)
theorem qcq (w:World) (n1 n2:Bool) (A B:Option Addr) (c d:Nat) (xs ys:List Nat):Below w.heap.size w (Tf w n1 n2 A B c d xs ys):=
 (yqq w n1 n2 A B c d xs ys).alloc (yqq w n1 n2 A B c d xs ys).size _
theorem qzq (w:World) (n1 n2:Bool) (A B:Option Addr) (c d:Nat) (xs ys:List Nat):(Tf w n1 n2 A B c d xs ys).heap.size=w.heap.size+3:=by simp[Tf,two]
theorem qcz {w b:World} {n1 n2:Bool} {A B:Option Addr} {c d:Nat} {xs ys:List Nat} (hx:aC w A xs) (hy:aC w B ys) (hb:Below (Tf w n1 n2 A B c d xs ys).heap.size (Tf w n1 n2 A B c d xs ys) b):Gy w n1 n2 A B c d xs ys b:=by
 have k:Below (two w n1 n2 A B c d xs ys).heap.size (two w n1 n2 A B c d xs ys) (Tf w n1 n2 A B c d xs ys):=(Below.refl _ _).alloc (Nat.le_refl _) _;have Z:aB (Tf w n1 n2 A B c d xs ys) (w.heap.size+1+1) 24 #[.bool false,.slice none 0 0]:=aB.newAt (by simp[two]);exact ⟨Nj hx hy (ks k hb),(Z.below hb Z.lt).two⟩
section
variable (n1 n2:Bool) (A B:Option Addr) (c d:Nat) (xs ys:List Nat) (w:World)
set_option maxHeartbeats 1000000 in
theorem Zt (hx:aC w A xs) (hy:aC w B ys) (hl:xs.length≤9223372036854775807) (hl':ys.length≤9223372036854775807) (hok:(zr n1 xs&&zr n2 ys)=false) :
 Calls prog 94 #[.agg #[.bool n1,.slice A xs.length c],.agg #[.bool n2,.slice B ys.length d]] w (yd w 0 3):=by
 obtain ⟨W0,hW0⟩:∃W0,W0=Tf w n1 n2 A B c d xs ys:=⟨_,rfl⟩;have LW:Below w.heap.size w W0:=by rw[hW0];exact qcq ..
 have Zu:Hid (W0.heap.size=w.heap.size+3):=by rw[hW0];exact qzq ..
 have HF:Hid (∀b1,Below W0.heap.size W0 b1→Gy w n1 n2 A B c d xs ys b1):=fun b1 hb=>by rw[hW0] at hb;exact qcz hx hy hb
 have hg1:=fun w hx=>yr n1 c w A xs hl hx;have hg2:=fun w hy=>yr n2 d w B ys hl' hy;clear hx hy;unfold Tf two at hW0;have L:Below W0.heap.size W0 W0:=Below.refl _ _;obtain ⟨⟨⟨x0,x1,y0,y1⟩,hx,hy⟩,r0,r1,r2,r3⟩:=HF.out _ L;go_enter func94,ntmps94
 cases h1:zr n1 xs
 · rw[h1] at hg1;clear hok h1;go_upto_region 1 with fail
   rw[←hW0];clear hW0;go_wp2_with (go_at_call 66;refine (hg1 _ hx).mono ?_;rintro e w1 ⟨rfl,hb⟩;have L:=ks L hb;clear x0 x1 y0 y1 hx hy r0 r1 r2 r3 hb;obtain ⟨⟨⟨x0,x1,y0,y1⟩,hx,hy⟩,r0,r1,r2,r3⟩:=HF.out _ L)
   exact ak3
 · rw[h1,Bool.true_and] at hok;rw[h1] at hg1;rw[hok] at hg2;clear hok h1;go_upto_region 1 with fail
   rw[←hW0];clear hW0;go_wp2_with (go_at_call 66;refine (hg1 _ hx).mono ?_;rintro e w1 ⟨rfl,hb⟩;have L:=ks L hb;clear x0 x1 y0 y1 hx hy r0 r1 r2 r3 hb;obtain ⟨⟨⟨x0,x1,y0,y1⟩,hx,hy⟩,r0,r1,r2,r3⟩:=HF.out _ L;refine Hid.out ?_)
   refine Lib.hid ?_;go_wp2_with (go_at_call 66;refine (hg2 _ hy).mono ?_;rintro e w1 ⟨rfl,hb⟩;have L:=ks L hb;clear x0 x1 y0 y1 hx hy r0 r1 r2 r3 hb;obtain ⟨⟨⟨x0,x1,y0,y1⟩,hx,hy⟩,r0,r1,r2,r3⟩:=HF.out _ L)
   exact ak3
theorem Nn {p z u:Int} (p0:0≤p) (p1:p≤999999999999999999*999999999999999999) (z0:0≤z) (z1:z<1000000000000000000) (u0:0≤u) (u1:u<1000000000000000000) :
 0≤p/18446744073709551616∧p/18446744073709551616<1000000000000000000∧
 (p/18446744073709551616+(p%18446744073709551616+z)/18446744073709551616+((p%18446744073709551616+z)%18446744073709551616+u)/18446744073709551616)*18446744073709551616+((p%18446744073709551616+z)%18446744073709551616+u)%18446744073709551616=p+z+u∧
 (p+z+u)/1000000000000000000<1000000000000000000∧
 p/18446744073709551616+(p%18446744073709551616+z)/18446744073709551616+((p%18446744073709551616+z)%18446744073709551616+u)/18446744073709551616<1000000000000000000:=by
 refine ⟨om,om,om,om,om⟩
theorem Zv (b n:Nat):val b (List.replicate n 0)=0:=by
 induction n with
 | zero=>rfl
 | succ n ih=>rw[List.replicate_succ,val,ih];simp
theorem Np (x y:Int) (h0:0≤x) (h1:x<18446744073709551616) (k0:0≤y) (k1:y<18446744073709551616) (w:World) :
 Calls prog 114 #[.int .u64 x,.int .u64 y] w fun e w'=>e= .returned (.tuple #[.int .u64 (x*y/18446744073709551616),.int .u64 (x*y%18446744073709551616)])∧w'=w:=by
 obtain ⟨a,rfl⟩:=Int.eq_ofNat_of_zero_le h0;obtain ⟨b,rfl⟩:=Int.eq_ofNat_of_zero_le k0;refine (rM a b om om w).mono fun e w' h=>?_;obtain ⟨rfl,rfl⟩:=h;rw[←Int.natCast_mul];exact ⟨by congr 1,rfl⟩
theorem Gz {xs ys:List Nat} (hs:small au xs) (ht:small au ys) (k j:Nat):0≤nth xs k*nth ys j∧nth xs k*nth ys j≤999999999999999999*999999999999999999:=by
 have a0:=yc xs k;have b0:=yc ys j;have a1:=qx (by unfold au;omega) hs k;have b1:=qx (by unfold au;omega) ht j;rw[FX] at a1 b1;refine ⟨Int.mul_nonneg a0 b0,Int.mul_le_mul om om b0 om⟩
set_option maxHeartbeats 2000000 in
theorem Tg (hx:aC w A xs) (hy:aC w B ys) (hg:zr n1 xs=true) (hk:zr n2 ys=true) :
 Calls prog 94 #[.agg #[.bool n1,.slice A xs.length c],.agg #[.bool n2,.slice B ys.length d]] w (yd w (eH true (num n1 xs*num n2 ys)) (dV true (num n1 xs*num n2 ys))):=by
 obtain ⟨hs,_,hl,_⟩:=yv hg;obtain ⟨ht,_,hl',_⟩:=yv hk;have hprod:∀v,v=val au xs*val au ys→bL (n1 !=n2) v=num n1 xs*num n2 ys:=fun v hv=>by
  rw[hv,ke,ke];unfold bL;cases n1<;>cases n2<;>simp[Int.natCast_mul,Int.neg_mul,Int.mul_neg]
 have HP:=Lib.hid hprod;have HS:=Lib.hid hs;have HT:=Lib.hid ht;obtain ⟨q,hq⟩:∃q,q=num n1 xs*num n2 ys:=⟨_,rfl⟩;rw[←hq] at HP ⊢;obtain ⟨W0,hW0⟩:∃W0,W0=Tf w n1 n2 A B c d xs ys:=⟨_,rfl⟩;have LW:Below w.heap.size w W0:=by rw[hW0];exact qcq ..
 have Zu:Hid (W0.heap.size=w.heap.size+3):=by rw[hW0];exact qzq ..
 have HF:Hid (∀b1,Below W0.heap.size W0 b1→Gy w n1 n2 A B c d xs ys b1):=fun b1 hb=>by rw[hW0] at hb;exact qcz hx hy hb
 have hg1:=fun w hx=>yr n1 c w A xs om hx;have hg2:=fun w hy=>yr n2 d w B ys om hy;rw[hg] at hg1;rw[hk] at hg2;clear hx hy hq hprod hs ht hg hk;unfold Tf two at hW0;have L:Below W0.heap.size W0 W0:=Below.refl _ _;obtain ⟨⟨⟨x0,x1,y0,y1⟩,hx,hy⟩,r0,r1,r2,r3⟩:=HF.out _ L;go_enter func94,ntmps94
 go_upto_region 1 with fail
 rw[←hW0];clear hW0;go_wp2_with (go_at_call 66;refine (hg1 _ hx).mono ?_;rintro e w1 ⟨rfl,hb⟩;have L:=ks L hb;clear x0 x1 y0 y1 hx hy r0 r1 r2 r3 hb;obtain ⟨⟨⟨x0,x1,y0,y1⟩,hx,hy⟩,r0,r1,r2,r3⟩:=HF.out _ L;refine Hid.out ?_)
 refine Lib.hid ?_;go_wp2_with (go_at_call 66;refine (hg2 _ hy).mono ?_;rintro e w1 ⟨rfl,hb⟩;have L:=ks L hb;clear x0 x1 y0 y1 hx hy r0 r1 r2 r3 hb;obtain ⟨⟨⟨x0,x1,y0,y1⟩,hx,hy⟩,r0,r1,r2,r3⟩:=HF.out _ L;refine Hid.out ?_)
 refine Lib.hid ?_;clear hg1 hg2;obtain ⟨N,hN⟩:∃N:Nat,N=xs.length+ys.length+1:=⟨_,rfl⟩;have hmk:=ynk N om;have hNi:((xs.length:Int)+(ys.length:Int)+1)=(N:Int):=om;have HN:=Lib.hid hN;have hNb:N≤61:=om;clear hN;go_upto_region 4 with fail
 obtain ⟨g,hg⟩:∃g,g=w1.heap.size:=⟨_,rfl⟩;obtain ⟨W1,hW1⟩:∃W1,W1=w1.alloc (.cells (madeCells #[.int .u64 0] N) 25):=⟨_,rfl⟩;have k1:Below w1.heap.size w1 W1:=by rw[hW1];exact (Below.refl _ _).alloc (Nat.le_refl _) _
 have hrow:Row W1 g N (List.replicate N 0):=by
  have h:=(Row.made w1 N).fill;rw[←hW1,←hg] at h;simpa using h
 have hWg:W1.heap.size=g+1:=by rw[hW1,hg];simp
 have hgW:W0.heap.size≤g:=by rw[hg];exact L.size
 have L:=ks L k1;rw[←hg,←hW1];clear x0 x1 y0 y1 hx hy r0 r1 r2 r3 hmk hNi hg hW1 k1;obtain ⟨⟨⟨x0,x1,y0,y1⟩,hx,hy⟩,r0,r1,r2,r3⟩:=HF.out _ L;go_wp2_with fail
 clear x0 x1 y0 y1 hx hy r0 r1 r2 r3;go_loopw [34] (fun iv wr=>∃(k:Nat) (zs:List Nat),k≤xs.length∧iv= .int .i64 k∧Row wr g N zs∧zs.length=N∧small au zs∧Hid (val au zs=val au (xs.take k)*val au ys)∧Hid (∀p,k+ys.length≤p→nth zs p=0)∧Below W0.heap.size W0 wr) (fun iv _=>xs.length-(intOf iv).toNat)
 case atStart=>exact ⟨0,List.replicate N 0,om,rfl,hrow,by simp,by intro x hx;rw[List.eq_of_mem_replicate hx];unfold au;omega,by show _=_;rw[Zv,List.take_zero];simp[val],fun p _=>p8 _ _,L⟩
 case round=>
  obtain ⟨k,zs,hk,rfl,hrw,hzl,hzs,HV,HZ,hbel⟩:=hrel;obtain ⟨⟨⟨x0,x1,y0,y1⟩,hx,hy⟩,r0,r1,r2,r3⟩:=HF.out _ hbel;by_cases hkn:k<xs.length
  · obtain ⟨wo,rfl⟩:∃wo:World,wo=wr:=⟨_,rfl⟩;have hm1:(k:Int)<(xs.length:Int):=om;have HX0:Hid (val au zs+au^(k+0)*(0:Int).toNat=val au (xs.take k)*val au ys+au^k*(xs.getD k 0*val au (ys.take 0))):=by
     show _=_;rw[HV.out];simp[val]
    go_wp2_with fail
    clear x0 x1 y0 y1 hx hy r0 r1 r2 r3;go_loopw [8,40] (fun cv jv wi=>∃(j:Nat) (u:Int) (qs:List Nat),j≤ys.length∧jv= .int .i64 j∧cv= .int .u64 u∧0≤u∧u<1000000000000000000∧Row wi g N qs∧qs.length=N∧small au qs∧
     Hid (val au qs+au^(k+j)*u.toNat=val au (xs.take k)*val au ys+au^k*(xs.getD k 0*val au (ys.take j)))∧Hid (∀p,k+ys.length≤p→nth qs p=0)∧Below W0.heap.size W0 wi) (fun _ jv _=>ys.length-(intOf jv).toNat)
    case atStart=>exact ⟨0,0,zs,om,rfl,rfl,om,om,hrw,hzl,hzs,HX0,HZ,hbel⟩
    case round=>
     obtain ⟨j,u,qs,hj,rfl,rfl,hu0,hu1,hrq,hql,SG,HQ,HZ2,iH⟩:=hrel;obtain ⟨⟨⟨x0,x1,y0,y1⟩,hx,hy⟩,r0,r1,r2,r3⟩:=HF.out _ iH;by_cases hjn:j<ys.length
     · have hN1:=HN.out;obtain ⟨b,o,rfl,hb,hc⟩:=hx.2 om;obtain ⟨b',o',rfl,hb',hc'⟩:=hy.2 om;have hcx:=hc k hkn;have hcy:=hc' j hjn;have hcz:=hrq.cell (j:=k+j) om;have hm2:(j:Int)<(ys.length:Int):=om;have hk0:(0:Int)≤(k:Int):=om;have hj0:(0:Int)≤(j:Int):=om;have hnx:=yc xs k;have hny:=yc ys j;have hnz:=yc qs (k+j);have hlx:=qx (by unfold au;omega) HS.out k;have vL:=qx (by unfold au;omega) HT.out j;have hlz:=qx (by unfold au;omega) SG (k+j);rw[FX] at hlx vL hlz;obtain ⟨p0,p1⟩:=Gz HS.out HT.out k j;obtain ⟨P,hP⟩:∃P,P=nth xs k*nth ys j:=⟨_,rfl⟩;rw[←hP] at p0 p1;obtain ⟨m1,m2,m3,m4,m5⟩:=Nn p0 p1 hnz hlz hu0 hu1;have hmul:=fun w=>Np (nth xs k) (nth ys j) hnx om hny om w;rw[←hP] at hmul;obtain ⟨h0,hh0⟩:∃h0,h0=P/18446744073709551616:=⟨_,rfl⟩;obtain ⟨l0,hl0⟩:∃l0,l0=P%18446744073709551616:=⟨_,rfl⟩;rw[←hh0,←hl0] at hmul;obtain ⟨l1,hl1⟩:∃l1,l1=(l0+nth qs (k+j))%18446744073709551616:=⟨_,rfl⟩;obtain ⟨c1,hc1⟩:∃c1,c1=(l0+nth qs (k+j))/18446744073709551616:=⟨_,rfl⟩;obtain ⟨l2,hl2⟩:∃l2,l2=(l1+u)%18446744073709551616:=⟨_,rfl⟩;obtain ⟨c2,hc2⟩:∃c2,c2=(l1+u)/18446744073709551616:=⟨_,rfl⟩;have b1:0≤l0:=om;have b2:0≤l1:=om;have b3:0≤l2∧l2<18446744073709551616:=om;have b4:0≤c1:=om;have b5:0≤c2:=om;have ha1:∀w,(callFunc 116 #[.int .u64 l0,.int .u64 (nth qs (k+j)),.int .u64 0]).run prog w= .ok (.value (.tuple #[.int .u64 l1,.int .u64 c1])) w:=fun w=>by rw[rO l0 _ b1 hnz,hl1,hc1]
       have ha2:∀w,(callFunc 116 #[.int .u64 l1,.int .u64 u,.int .u64 0]).run prog w= .ok (.value (.tuple #[.int .u64 l2,.int .u64 c2])) w:=fun w=>by rw[rO l1 _ b2 hu0,hl2,hc2]
       rw[←hh0,←hl0,←hl1,←hc1,←hl2,←hc2] at m3;rw[←hh0,←hl0,←hl1,←hc1,←hc2] at m5;rw[←hh0] at m1 m2;have hdv:=fun w=>Gw (h0+c1+c2) l2 om m5 b3.1 b3.2 w;rw[m3] at hdv;obtain ⟨T,hT⟩:∃T,T=P+nth qs (k+j)+u:=⟨_,rfl⟩;rw[←hT] at hdv m4;obtain ⟨Q,hQ⟩:∃Q,Q=T/1000000000000000000:=⟨_,rfl⟩;obtain ⟨R,hR⟩:∃R,R=T%1000000000000000000:=⟨_,rfl⟩;rw[←hQ,←hR] at hdv;rw[←hQ] at m4;have hQ0:0≤Q:=om;have hR0:0≤R:=om;have hR1:R<1000000000000000000:=om;have HST:Hid (val au (qs.set (k+j) R.toNat)+au^(k+(j+1))*Q.toNat=val au (xs.take k)*val au ys+au^k*(xs.getD k 0*val au (ys.take (j+1)))):=by
        have hTn:T.toNat=xs.getD k 0*ys.getD j 0+qs.getD (k+j) 0+u.toNat:=by
         have e1:P=((xs.getD k 0*ys.getD j 0:Nat):Int):=by rw[hP];unfold nth;rw[←Int.natCast_mul]
         have e2:nth qs (k+j)=((qs.getD (k+j) 0:Nat):Int):=by unfold nth;rfl
         rw[hT,e1,e2];omega
        have h:=Te (zs:=qs) (k:=k) (j:=j) (ys:=ys) om HQ.out hTn;have e3:R.toNat=T.toNat%au:=by rw[hR];unfold au;omega
        have e4:Q.toNat=T.toNat/au:=by rw[hQ];unfold au;omega
        show _=_;rw[e3,e4];exact h
       have hfz:=hrq.frozen (k+j);have hkj:(k:Int)+(j:Int)<(N:Int):=om;have aP8:(0:Int)≤(k:Int)+(j:Int):=om;have hw64:IntKind.i64.wrap ((k:Int)+(j:Int))=(k:Int)+(j:Int):=IntWalk.i64_in _ om;clear hc hc' hP hh0 hl0 hl1 hc1 hl2 hc2 hT hQ hR m3 hN1 p0 p1;go_wp2_with fail
       go_quiet ((go_at_call 114;exact Calls.quiet_of_same (hmul _)))
       go_wp2_with (go_at_call 146;refine (hdv _).mono ?_;rintro e w' ⟨rfl,nd,rfl⟩)
       go_roundw
       case rel=>exact ⟨j+1,Q,qs.set (k+j) R.toNat,om,by go_num,rfl,hQ0,m4,by first | exact (hrq.drewN _).setInt R hR0 om | exact ((hrq.drewN _).drewN _).setInt R hR0 om,by rw[List.length_set];exact hql,jo SG _ _ (by unfold au;omega),HST,
        fun p hp=>by rw[qkv _ _ _ om,if_neg om];exact HZ2.out p hp,by first | exact (gi iH _).setCell hgW _ | exact (gi (gi iH _) _).setCell hgW _⟩
       case measure=>simp[intOf];omega
     · obtain rfl:j=ys.length:=om;have hN1:=HN.out;have hcz:=hrq.cell (j:=k+ys.length) om;have hz0:nth qs (k+ys.length)=0:=HZ2.out _ (Nat.le_refl _);rw[hz0] at hcz;have hfz:=hrq.frozen (k+ys.length);have hm2:¬(ys.length:Int)<(ys.length:Int):=om;have hkj:(k:Int)+(ys.length:Int)<(N:Int):=om;have aP8:(0:Int)≤(k:Int)+(ys.length:Int):=om;have hw64:IntKind.i64.wrap ((k:Int)+(ys.length:Int))=(k:Int)+(ys.length:Int):=IntWalk.i64_in _ om;have hlq:k+ys.length<qs.length:=om;have HCL:Hid (val au (qs.set (k+ys.length) u.toNat)=val au (xs.take (k+1))*val au ys):=Nl hlq (by unfold nth at hz0;omega) HQ.out;clear hz0 hN1;go_wp2_with fail
       go_roundw
       case rel=>exact ⟨k+1,qs.set (k+ys.length) u.toNat,om,by go_num,hrq.setInt u hu0 hlq,by rw[List.length_set];exact hql,jo SG _ _ (by unfold au;omega),HCL,
        fun p hp=>by rw[qkv _ _ _ hlq,if_neg om];exact HZ2.out p om,iH.setCell hgW _⟩
       case measure=>simp[intOf];omega
  · obtain rfl:k=xs.length:=om;have hm1:¬(xs.length:Int)<(xs.length:Int):=om;have iq:=hrw.nums hzl (ztz hzs);have hfit:=fun w h=>Td (n1 !=n2) (some ⟨g,0,none⟩) N zs w h hzs om;have hval:bL (n1 !=n2) (val au zs)=q:=HP.out _ (by rw[HV.out,List.take_length]);rw[hval,hzl] at hfit;clear hval;go_wp2_with (go_at_call 147;refine (hfit _ iq).mono ?_;rintro e w4 ⟨A4,c4,rfl,iG,hb4⟩;have LB:=hbel.trans (hb4.mono hbel.size);clear x0 x1 y0 y1 hx hy r0 r1 r2 r3;obtain ⟨⟨⟨x0,x1,y0,y1⟩,hx,hy⟩,r0,r1,r2,r3⟩:=HF.out _ LB)
    refine bodyPost_ret (v:=.tuple #[.agg #[.bool (decide (eH true q<0)),.slice A4 (limbs (eH true q)).length c4],.int .i64 (dV true q)]) (by simp[results,Tryz.results94,go_sem,r0,r1]) rfl ?_;exact qmk iG (LW.trans (LB.mono LW.size)) om (by have:=Zu.out;have:=hbel.size;omega) _ _
theorem Zw (hx:aC w A xs) (hy:aC w B ys) (hl:xs.length≤9223372036854775807) (hl':ys.length≤9223372036854775807) :
 Calls prog 94 #[.agg #[.bool n1,.slice A xs.length c],.agg #[.bool n2,.slice B ys.length d]] w
  (yd w (eH (zr n1 xs&&zr n2 ys) (num n1 xs*num n2 ys)) (dV (zr n1 xs&&zr n2 ys) (num n1 xs*num n2 ys))):=by
 cases h:(zr n1 xs&&zr n2 ys)
 · rw[AQ,AU];exact Zt n1 n2 A B c d xs ys w hx hy hl hl' h
 · obtain ⟨hg,hk⟩:=Bool.and_eq_true_iff.1 h;exact Tg n1 n2 A B c d xs ys w hx hy hg hk
end
end Go.Proofs.YtmnmebdmpigddaaGreatDoor
namespace Go.Proofs.YtmnmebdmpigddaaGreatDoor
open Go.RowKit
section
variable {i j:Int} (A B:Option Addr) (c d:Nat) (w:World) (hi:i.natAbs<au^30) (hj:j.natAbs<au^30) (hx:aC w A (limbs i)) (hy:aC w B (limbs j))
include hi
include hx
include hj hy
theorem aH4:Calls Tryz.prog 94 #[.agg #[.bool (decide (i<0)),.slice A (limbs i).length c],.agg #[.bool (decide (j<0)),.slice B (limbs j).length d]] w (yd w (eH true (i*j)) (dV true (i*j))):=by
 have h:=Zw (decide (i<0)) (decide (j<0)) A B c d (limbs i) (limbs j) w hx hy (by have:=ve hi;omega) (by have:=ve hj;omega);rwa [vb hi,vb hj,ji,ji] at h
theorem aH5:Calls Tryz.prog 40 #[.agg #[.bool (decide (i<0)),.slice A (limbs i).length c],.agg #[.bool (decide (j<0)),.slice B (limbs j).length d]] w fun e w'=>e= .returned (.int .i64 (zY i j))∧Below w.heap.size w w':=by
 have h:=Ko A B c d (limbs i) (limbs j) w (decide (i<0)) (decide (j<0)) hx hy (by have:=ve hi;omega) (by have:=ve hj;omega);rw[vb hi,vb hj,ji,ji] at h;unfold AY at h;exact h
end
theorem Ns {i:Int} (h:dV true i=0):i.natAbs<au^30:=by
 unfold dV at h;rw[if_pos rfl] at h;split at h
 · assumption
 · cases h
structure PV where
 k:Int
 yes:Bool
 neg:Bool
 xs:List Nat
 bits:Nat
 s:ByteArray
 ni:Nat
structure PVp where
 a:Option Addr
 c:Nat
 b:Option Addr
 d:Nat
def PV.cells (v:PV) (p:PVp):List Value:=[.int .i64 v.k,.bool v.yes,.bool v.neg,.slice p.a v.xs.length p.c,.int .u64 (v.bits:Int),.string v.s,.slice p.b v.ni p.d]
def PV.val (v:PV) (p:PVp):Value:=.agg #[.int .i64 v.k,.bool v.yes,.bool v.neg,.slice p.a v.xs.length p.c,.int .u64 (v.bits:Int),.string v.s,.slice p.b v.ni p.d]
@[reducible] def bK (v:PV) (A:Option Addr) (c:Nat) (B:Option Addr) (d:Nat):Value:=.agg #[.int .i64 v.k,.bool v.yes,.bool v.neg,.slice A v.xs.length c,.int .u64 (v.bits:Int),.string v.s,.slice B v.ni d]
def PV.good (v:PV):Bool:=
 decide (v.ni=0)&&(if v.k=0 then !v.yes&&(!v.neg&&decide (v.xs.length=0))&&decide (v.bits=0)&&(v.s.toList==(⟨#[]⟩:ByteArray).toList)
  else if v.k=1 then (!v.neg&&decide (v.xs.length=0))&&decide (v.bits=0)&&(v.s.toList==(⟨#[]⟩:ByteArray).toList)
  else if v.k=2 then zr v.neg v.xs&& !v.yes&&decide (v.bits=0)&&(v.s.toList==(⟨#[]⟩:ByteArray).toList)
  else if v.k=3 then (!v.neg&&decide (v.xs.length=0))&& !v.yes&&(v.s.toList==(⟨#[]⟩:ByteArray).toList)
  else if v.k=4 then (!v.neg&&decide (v.xs.length=0))&& !v.yes&&decide (v.bits=0)&&decide (v.s.size≤20000)
  else false)
end Go.Proofs.YtmnmebdmpigddaaGreatDoor
namespace Go.Proofs.YtmnmebdmpigddaaGreatDoor
open Go.RowKit Proofs.Tryz
theorem lM {P Q:Prop} (k:Q) (h:(Unit→Q)→P:=by
 intro zK;refine zk (yb kw rfl rfl bN rfl rfl (Nat.le_of_ble_eq_true rfl) ?_);exact zK ()):P:=h fun _=>k
theorem lN {P Q:Prop} (k:Q) (h:(Unit→Q)→P:=by
 intro zK;refine zk (yb kw rfl rfl dn rfl rfl (Nat.le_of_ble_eq_true rfl) ?_);exact zK ()):P:=h fun _=>k
theorem BA {P Q:Prop} (k:Q) (h:(Unit→Q)→P:=by
 intro zK;refine jm ?_;refine zd 19 (.bool false) rfl (by rw[hd]<;>rfl) (zu ?_);refine za rfl (zb Mk rfl ((quk 1 _ de de).mono ?_));exact zK ()):P:=h fun _=>k
theorem zxq {P Q:Prop} (k:Q) (h:(Unit→Q)→P:=by
 intro zK;refine za rfl (qn (cs:=#[.bool false,.slice none 0 0]) zF zC rfl rfl ?_);exact zK ()):P:=h fun _=>k
theorem yq {P Q:Prop} (k:Q) (h:(Unit→Q)→P:=by
 intro zK;refine za rfl (zbx zC ?_);exact zK ()):P:=h fun _=>k
theorem zi {P Q:Prop} (k:Q) (h:(Unit→Q)→P:=by
 intro zK;refine zm ?_;refine za rfl (jz rfl ?_);exact zK ()):P:=h fun _=>k
attribute [local irreducible] OW RS CW EW
theorem ylk {W w':World} {f:Int} (hb:Below W.heap.size W w'):yd W 0 f (.returned (.tuple #[.agg #[.bool false,.slice none 0 0],.int .i64 f])) w':=
 ⟨none,0,by rw[vi];rfl,by rw[vi];exact Own.nil _ _,hb⟩
theorem znz {w:World} {base c g:Nat} {A:Option Addr} {xs:List Nat} {t:TypeId} {cs:Array Value} (h:Own w base A c xs) (hb:aB w g t cs) (ht:25≠t):Apart (Value.slice A xs.length c).ownBlock (some g):=
 fun k e f=>qaz h.1 hb ht (e.trans f.symm)
theorem Per.TQ {l:List (Option Nat)} {w:World} {base c:Nat} {A:Option Addr} {xs:List Nat} (h:Own w base A c xs) (hn:ah (Value.slice A xs.length c).ownBlock l):Per (aj l) w (fun b=>Own b base A c xs):=
 fun _ hb=>⟨vt h.1 hb hn,h.2⟩
theorem Per.dD {X:Nat→Prop} {w:World} {base c:Nat} {A:Option Addr} {xs:List Nat} (h:Own w base A c xs) (hx:∀k,X k→k<base):Per X w (fun b=>Own b base A c xs):=fun b hb=>by
 have hb':Ext (aj [none]) w b∨True:=Or.inr trivial;refine ⟨(⟨h.1.1,?_⟩),h.2⟩;rcases h.1.2 with h2 | ⟨g,cap,cur,hv,hg,hh,r⟩
 · exact Or.inl h2
 · exact Or.inr ⟨g,cap,cur,hv,hg,(hb.block g (Array.getElem?_eq_some_iff.1 hh).1 (fun e=>by have:=hx g e;omega)).trans hh,r⟩
theorem NR {w:World} {b o:Nat} {v:Value} (h:w.cell? ⟨b,o,none⟩=some v):b<w.heap.size:=by
 unfold World.cell? at h;simp only[] at h
 split at h
 · rename_i c t fr hh;exact (Array.getElem?_eq_some_iff.1 hh).1
 · cases h
theorem Per.cell0 {w:World} {g o:Nat} {v:Value} (h:w.cell? ⟨g,o,none⟩=some v):Per No w (fun b=>b.cell? ⟨g,o,none⟩=some v):=fun b hb=>by
 have hlt:g<w.heap.size:=NR h;show b.cell? ⟨g,o,none⟩=some v
 rw[hb.cell (p:=⟨g,o,none⟩) hlt (fun e=>e.elim)];exact h
section
variable (n1 n2:Bool) (A B:Option Addr) (c d:Nat) (xs ys:List Nat) (w:World)
end
section
variable (i j:Int) (A B:Option Addr) (c d:Nat) (w:World) (hi:i.natAbs<au^30) (hj:j.natAbs<au^30) (hx:aC w A (limbs i)) (hy:aC w B (limbs j))
include hi hj hx hy
theorem pow_zero (h0:j=0):Calls prog 93 #[.agg #[.bool (decide (i<0)),.slice A (limbs i).length c],.agg #[.bool (decide (j<0)),.slice B (limbs j).length d]] w (yd w 1 0):=by
 have hd:decide (j<0)=false:=by rw[h0];rfl
 have hlen:(limbs j).length=0:=by rw[h0,vi];rfl
 refine zc func93 rfl ntmps93 rfl ?_;obtain ⟨HF,LW,ak,E⟩:=bg w;replace HF:=HF.and (Per.aH hx);replace HF:=HF.and (Per.aH hy);refine zi ?_;intro aG w2 aA aK aP;obtain ⟨HF,LW,E⟩:=bD HF LW E ak aA aK;refine za rfl (jz rfl ?_);intro aR w4 aF aO aT;obtain ⟨HF,LW,E⟩:=bD HF LW E ak aF aO;refine yq ?_;intro dS w6 bN dW lI;obtain ⟨lI,HF,E,ak⟩:=bJ HF LW E ak dW lI;refine zp ?_;refine za rfl (zb zH rfl ((Qc A c _ hi (HF.on E).here.1.1.1.2).mono ?_));rintro e w7 ⟨rfl,hb⟩;refine ⟨_,rfl,?_⟩;have Ec:=Ext.of_below hb No;replace bN:=bN.ay Ec ah.nil;replace E:=E.trans Ec.no;refine zn ?_;refine bO rfl (zb zH rfl ((Qc B d _ hj (HF.on E).here.1.1.2).mono ?_));rintro e w8 ⟨rfl,hb⟩;refine ⟨_,rfl,?_⟩;have Ec:=Ext.of_below hb No;replace bN:=bN.ay Ec ah.nil;replace E:=E.trans Ec.no;refine BA ?_;rintro e w9 ⟨A1,c1,rfl,o1,hb⟩;refine ⟨_,rfl,?_⟩;have XC:∀q9,(aj [(some dS)]) q9→q9<w8.heap.size:=(aj.grow aj.none_ (ze bN.lt));have SC:=Nat.le_trans LW.size E.size;have Ec:=Ext.of_below hb No;replace bN:=bN.ay Ec ah.nil;replace E:=E.trans Ec.no;have S1:=SC;obtain ⟨HF,LW,E⟩:=cO HF LW E ak (Per.dD o1 XC);refine yq ?_;intro fC dQ dn fJ Hf;have fu:Apart (some fC) (some dS):=Apart.of_lt (ze bN.lt) Hf;have gJ:=fu.symm;replace bN:=bN.ay fJ ah.nil;obtain ⟨Hf,HF,E,ak⟩:=bJ HF LW E ak fJ Hf;refine lN ?_;intro eG Bx fJ;replace dn:=Bx;replace bN:=bN.ay fJ (ah.cons gJ ah.nil);replace E:=E.step1 fJ aj.head;refine yu ?_;refine zd 25 (.bool true) rfl (by rw[hlen];rfl) (zx ?_);refine lM ?_;intro yD Bx dW;replace bN:=Bx;replace dn:=dn.ay dW (ah.cons fu ah.nil);replace E:=E.step1 dW (aj.tail aj.head);refine zl ?_;exact ⟨A1,c1,rfl,((HF.on E).here.2).mono S1,(LW.step E ak).toBelow⟩
end
theorem BD {j:Int} (h0:j≠0):nth (limbs j) 0=((j.natAbs%au:Nat):Int):=by
 unfold nth;rw[qo,kq qj om];rfl
theorem BF {j:Int} (h0:j≠0) (h:j.natAbs<au):(limbs j).length=1:=by
 rw[qo,kq qj om,Nat.div_eq_of_lt h];rfl
theorem qlq {j:Int} (h0:j≠0):0<(limbs j).length:=by rw[qo];exact Y0 qj om
theorem KG (i:Int) (n:Nat):(i^n).natAbs=i.natAbs^n:=Int.natAbs_pow i n
theorem TS {i:Int} (h:1≤i.natAbs) {k n:Nat} (hk:k≤n):(i^k).natAbs≤(i^n).natAbs:=by
 rw[KG,KG];exact Nat.pow_le_pow_right h hk
section
variable (i j:Int) (A B:Option Addr) (c d:Nat) (w:World) (hi:i.natAbs<au^30) (hj:j.natAbs<au^30) (hx:aC w A (limbs i)) (hy:aC w B (limbs j))
include hi hj hx hy
theorem au3 (h0:0<j) (hj2:j≤2000) (h2i:2≤i.natAbs) (h:i.natAbs<au):Calls prog 93 #[.agg #[.bool (decide (i<0)),.slice A (limbs i).length c],.agg #[.bool (decide (j<0)),.slice B (limbs j).length d]] w (yd w (eH true (i^j.toNat)) (dV true (i^j.toNat))):=by
 have hjb:j.natAbs<au:=by unfold au;omega
 have ejm:j.natAbs%au=j.toNat:=by rw[Nat.mod_eq_of_lt hjb];omega
 have hd:decide (j<0)=false:=decide_eq_false om;have hip:=qlq (j:=i) om;have hjp:=qlq (j:=j) om;have hlen:((limbs j).length:Int)≠0:=om;have aHz:((limbs i).length:Int)≠0:=om;obtain ⟨bx,ox,rfl,hbx,hcx⟩:=hx.2 hip;obtain ⟨by_,oy,rfl,hby,hcy⟩:=hy.2 hjp;have hc0:w.cell? ⟨bx,ox+0,none⟩=some (.int .u64 ((i.natAbs%au:Nat):Int)):=by rw[hcx 0 hip,BD om]
 have hd0:w.cell? ⟨by_,oy+0,none⟩=some (.int .u64 ((j.toNat:Int))):=by rw[hcy 0 hjp,BD om];rw[ejm]
 refine zc func93 rfl ntmps93 rfl ?_;obtain ⟨HF,LW,ak,E⟩:=bg w;replace HF:=HF.and (Per.aH hx);replace HF:=HF.and (Per.aH hy);replace HF:=HF.and (Per.cell0 hc0);replace HF:=HF.and (Per.cell0 hd0);refine zi ?_;intro aG w2 aA aK aP;obtain ⟨HF,LW,E⟩:=bD HF LW E ak aA aK;refine za rfl (jz rfl ?_);intro aR w4 aF aO aT;obtain ⟨HF,LW,E⟩:=bD HF LW E ak aF aO;refine yq ?_;intro dS w6 bN dW lI;obtain ⟨lI,HF,E,ak⟩:=bJ HF LW E ak dW lI;refine zp ?_;refine za rfl (zb zH rfl ((Qc _ c _ hi (HF.on E).here.1.1.1.1.1.2).mono ?_));rintro e w7 ⟨rfl,hb⟩;refine ⟨_,rfl,?_⟩;have Ec:=Ext.of_below hb No;replace bN:=bN.ay Ec ah.nil;replace E:=E.trans Ec.no;refine zn ?_;refine bO rfl (zb zH rfl ((Qc _ d _ hj (HF.on E).here.1.1.1.1.2).mono ?_));rintro e w8 ⟨rfl,hb⟩;refine ⟨_,rfl,?_⟩;have Ec:=Ext.of_below hb No;replace bN:=bN.ay Ec ah.nil;replace E:=E.trans Ec.no;refine BA ?_;rintro e w9 ⟨A1,c1,rfl,o1,hb⟩;refine ⟨_,rfl,?_⟩;have XC:∀q9,(aj [(some dS)]) q9→q9<w8.heap.size:=(aj.grow aj.none_ (ze bN.lt));have SC:=Nat.le_trans LW.size E.size;have Ec:=Ext.of_below hb No;replace bN:=bN.ay Ec ah.nil;replace E:=E.trans Ec.no;have S1:=SC;obtain ⟨HF,LW,E⟩:=cO HF LW E ak (Per.dD o1 XC);refine yq ?_;intro fC dQ dn fJ Hf;have fu:Apart (some fC) (some dS):=Apart.of_lt (ze bN.lt) Hf;have gJ:=fu.symm;replace bN:=bN.ay fJ ah.nil;obtain ⟨Hf,HF,E,ak⟩:=bJ HF LW E ak fJ Hf;refine lN ?_;intro eG Bx fJ;replace dn:=Bx;replace bN:=bN.ay fJ (ah.cons gJ ah.nil);replace E:=E.step1 fJ aj.head;refine yu ?_;refine zd 25 (.bool false) rfl (by rw[beq_eq_false_iff_ne.2 hlen]<;>rfl) (yu ?_);refine zf 31 (.bool false) rfl (by rw[beq_eq_false_iff_ne.2 aHz]<;>rfl) (zu ?_);have h1:((limbs i).length:Int)=1:=by rw[BF om h];rfl
 refine zf 36 (.bool true) rfl (by rw[h1];rfl) (zm ?_);refine bO rfl (kd (j:=0) u22 zD rfl rfl rfl hip (zl ?_));refine zd 43 (.bool false) rfl (by rw[Nat.mod_eq_of_lt h,beq_eq_false_iff_ne.2 om]<;>rfl) (yu ?_);have h2:¬(1:Int)<((limbs j).length:Int):=by rw[BF om hjb];decide
 refine zf 61 (.bool false) rfl (by rw[decide_eq_false h2]<;>rfl) (zm ?_);refine bO rfl (kd (j:=0) u22 zD rfl rfl rfl hjp (zu ?_));refine zd 67 (.bool false) rfl (by rw[decide_eq_false om]<;>rfl) (yi ?_);refine za rfl (kd (j:=0) u22 zD rfl rfl rfl hjp (zu ?_));have b1:(i^0).natAbs<au^30:=by rw[Int.pow_zero];exact Nat.one_lt_pow de (by unfold au;omega)
 have e0:i^0=1:=Int.pow_zero i;replace dn:aB eG fC 24 #[.bool (decide (i^0<0)),.slice A1 (limbs (i^0)).length c1]:=by rw[e0];exact dn
 replace HF:=HF.on E;replace LW:=LW.step E ak;replace E:=aD (aj [(some fC),(some dS)]) eG;refine yw (ι:=Nat×Option Addr×Nat) (fun (k,A1,c1)=>[(2,.pointer (some ⟨aG,0,none⟩)),(4,.pointer (some ⟨dS,0,none⟩)),(6,.pointer (some ⟨fC,0,none⟩)),(72,.int .u64 (j.toNat:Int)),(73,.int .u64 ((k:Nat):Int))]) (fun (k,A1,c1) w'=>Ext (aj [(some fC),(some dS)]) eG w'∧aB w' fC 24 (#[.bool (decide (i^k<0)),.slice A1 (limbs (i^k)).length c1])∧aB w' dS 24 (#[.bool false,.slice none 0 0])∧(k≤j.toNat∧(i^k).natAbs<au^30∧Own w' w.heap.size A1 c1 (limbs (i^k)))) (fun (k,A1,c1)=>j.toNat-k) (0,A1,c1) ⟨rfl,rfl,rfl,rfl,rfl,trivial⟩ ⟨Ext.refl _ _,(by exact dn),(by exact bN),⟨Nat.zero_le _,b1,by rw[e0];exact ((HF.on E).here.2).mono S1⟩⟩ ?_;have aHx:=(ze dn.lt);have au1:=(ze bN.lt);rintro ⟨k,A1,c1⟩ dU ⟨gK,dn,bN,⟨hk,hb1,hown⟩⟩;have fD:eD (aj [(some fC),(some dS)]) (aj [(some fC),(some dS)]) eG:=(aj.grow (aj.grow aj.none_ (fun k e=>Or.inl ((aj.tail aj.head) k e))) (fun k e=>Or.inl (aj.head k e)));replace E:=E.trans gK;replace HF:=HF.on E;replace LW:=LW.step E ak;replace E:=aD (aj [(some fC),(some dS)]) dU;clear aHx;clear au1;replace HF:=HF.on E;replace LW:=LW.step E ak;replace gK:=gK.step E fD;replace E:=aD (aj [(some fC),(some dS)]) dU;replace HF:=HF.and (Per.TQ hown (ah.cons (znz hown dn de) (ah.cons (znz hown bN de) ah.nil)));refine zl ?_;refine zg rfl (fun hlt=>?_) (fun hlt=>?_)
 ·
  have hlt:=of_decide_eq_true hlt;refine yi ?_;refine za rfl (zb aAq rfl ((aH4 A1 _ c1 c _ hb1 hi ((HF.on E).here.2).nums (HF.on E).here.1.1.1.1.1.1.1.2).mono ?_));rintro e fG ⟨A3,c3,rfl,o3,hb⟩;refine ⟨_,rfl,?_⟩;have XC:∀q9,(aj [(some fC),(some dS)]) q9→q9<dU.heap.size:=(aj.grow (aj.grow aj.none_ (ze bN.lt)) (ze dn.lt));have SC:=Nat.le_trans LW.size E.size;have Ec:=Ext.of_below hb No;replace dn:=dn.ay Ec ah.nil;replace bN:=bN.ay Ec ah.nil;replace E:=E.trans Ec.no;have S3:=SC;replace HF:=HF.on E;replace LW:=LW.step E ak;replace gK:=gK.step E fD;replace E:=aD (aj [(some fC),(some dS)]) fG;replace HF:=HF.and (Per.dD o3 XC);refine zn ?_;refine yq ?_;intro gH vX dL dY fI;have BG:Apart (some gH) (some fC):=Apart.of_lt (ze dn.lt) fI;have TT:=BG.symm;have KH:Apart (some gH) (some dS):=Apart.of_lt (ze bN.lt) fI;have aa0:=KH.symm;replace dn:=dn.ay dY ah.nil;replace bN:=bN.ay dY ah.nil;obtain ⟨fI,HF,E,ak⟩:=bJ HF LW E ak dY fI;replace fD:=aj.grow fD (fun k e=>Or.inr (Nat.le_trans gK.size ((ym fI) k e)));refine zk (yb kw rfl rfl dL rfl rfl (Nat.le_of_ble_eq_true rfl) ?_);intro yE Bx dY;replace dL:=Bx;replace dn:=dn.ay dY (ah.cons TT ah.nil);replace bN:=bN.ay dY (ah.cons aa0 ah.nil);replace E:=E.step1 dY aj.head;refine zz ?_;refine zg rfl (fun q=>?_) (fun q=>?_)
  ·
   have e1:au^30≤(i^j.toNat).natAbs:=by
    have h7:¬(i^k*i).natAbs<au^30:=fun h9=>by rw[zuz h9] at q;exact absurd q de
    have h8:=TS (i:=i) om (show k+1≤j.toNat from om);rw[Int.pow_succ] at h8;omega
   have e2:dV true (i^k*i)=7:=qkz (by
    rcases Nat.lt_or_ge (i^k*i).natAbs (au^30) with h9 | h9
    · rw[zuz h9] at q;exact absurd q de
    · exact h9)
   refine zm ?_;refine zxq ?_;refine aN ?_;refine lM ?_;intro E8 Bx dW;replace bN:=Bx;replace dL:=dL.ay dW (ah.cons KH ah.nil);replace dn:=dn.ay dW (ah.cons fu ah.nil);replace E:=E.step1 dW (aj.tail (aj.tail aj.head));refine zz ?_;refine zq 5 (.int .i64 7) rfl ((by rw[e2]:(.int .i64 (dV true (i^k*i)):Value)=_)) (aN ?_);exact by rw[kP e1,qkz e1];exact ylk (LW.step E ak).toBelow
  ·
   have h9:(i^k*i).natAbs<au^30:=Ns (by simpa using q);have eV:eH true (i^k*i)=i^(k+1):=by rw[zux h9,Int.pow_succ]
   refine zx ?_;refine lN ?_;intro E9 Bx fJ;replace dn:=Bx;replace dL:=dL.ay fJ (ah.cons BG ah.nil);replace bN:=bN.ay fJ (ah.cons gJ ah.nil);replace E:=E.step1 fJ (aj.tail aj.head);refine zx ?_;refine kl ?_;refine zm ?_;rw[eV] at dn;exact zo (k+1,A3,c3) (by show j.toNat-(k+1)<j.toNat-k;omega) ⟨rfl,rfl,rfl,rfl,rfl,trivial⟩ ⟨gK.step E fD,(by exact dn),(by exact bN),om,by rw[Int.pow_succ];exact h9,by rw[←eV];exact ((HF.on E).here.2).mono S3⟩
 ·
  have hge:=of_decide_eq_false hlt;obtain rfl:k=j.toNat:=om;refine yi ?_;refine lM ?_;intro yF Bx dW;replace bN:=Bx;replace dn:=dn.ay dW (ah.cons fu ah.nil);replace E:=E.step1 dW (aj.tail aj.head);obtain ⟨HF,LW,ak,E⟩:=dx HF LW E ak (Y:=aj [(some fC)]) (aj.keep (aj.skip aj.aU)) (Per.aW bN (ah.cons gJ ah.nil));refine zu ?_;exact ⟨A1,c1,by rw[zux hb1,zuz hb1];rfl,by rw[zux hb1];exact (HF.on E).here.1.2,(LW.step E ak).toBelow⟩
end
end Go.Proofs.YtmnmebdmpigddaaGreatDoor
namespace Go.Proofs.YtmnmebdmpigddaaGreatDoor
open Go.RowKit Proofs.Tryz
theorem lQ {P Q:Prop} (k:Q) (h:(Unit→Q)→P:=by
 intro zK;refine zk (yb kw rfl rfl bS rfl rfl (Nat.le_of_ble_eq_true rfl) ?_);exact zK ()):P:=h fun _=>k
theorem BH {P Q:Prop} (k:Q) (h:(Unit→Q)→P:=by
 intro zK;refine zu ?_;refine za rfl (zb aNz rfl ((aa1 hM hm0 om om A1 A4 c1 c4 _ (HF.on E).here.1.1.1.1.2 (HF.on E).here.1.2).mono ?_));exact zK ()):P:=h fun _=>k
theorem BI {P Q:Prop} (k:Q) (h:(Unit→Q)→P:=by
 intro zK;refine zf 25 (.bool false) rfl (by rw[decide_eq_false om]<;>rfl) (zz ?_);refine za rfl (zb aA8 rfl ((sj _ a hf).mono ?_));exact zK ()):P:=h fun _=>k
theorem BJ {P Q:Prop} (k:Q) (h:(Unit→Q)→P:=by
 intro zK;refine za rfl (uV (z:=m0) underlying3 (by rw[pW];rfl) rfl hfz (za rfl (zb Mk rfl ((quk m0 _ (by rw[hm0];split<;>omega) (by rw[hm0];split<;>omega)).mono ?_))));exact zK ()):P:=h fun _=>k
theorem BK {P Q:Prop} (k:Q) (h:(Unit→Q)→P:=by
 intro zK;refine zl ?_;refine zkq ?_;refine qd ?_;refine xo ?_;refine zn ?_;refine zd 18 (.bool false) rfl (by rw[kp,xv hf]<;>rfl) (zx ?_);refine za rfl (zb ig rfl ((jj _ a ha).mono ?_));exact zK ()):P:=h fun _=>k
theorem zkx {P Q:Prop} (k:Q) (h:(Unit→Q)→P:=by
 intro zK;refine zk (yb kw rfl rfl aA rfl rfl (Nat.le_of_ble_eq_true rfl) ?_);exact zK ()):P:=h fun _=>k
theorem vY {P:Prop} (h:P:=by
 exact ⟨_,_,_,_,_,rfl,zC,rfl⟩):P:=h
theorem TU {P:Prop} (h:P:=by
 obtain ⟨⟨A4,c4⟩,e0,_⟩:=K.dep 6 rfl rfl rfl;exact ⟨vs 6,rfl,by rw[e0];rfl,by rw[e0];rfl⟩):P:=h
theorem TV {P:Prop} (h:P:=by
 intro vs X wq K;obtain ⟨⟨A4,c4⟩,e5,k5⟩:=K.dep 5 rfl rfl rfl;refine gm 59 _ rfl e5 ?_;exact zax rfl rfl ⟨Below.refl _ _,Left.of rfl⟩):P:=h
theorem ak9 {P:Prop} (h:P:=by
 intro vs X wq K;obtain ⟨⟨A4,c4⟩,e4,k4⟩:=K.dep 4 rfl rfl rfl;refine gm 64 _ rfl e4 ?_;exact qjq rfl ⟨Below.refl _ _,⟨⟨A4,c4⟩,rfl,(k4.map (fun _ h=>h))⟩⟩):P:=h
theorem akq {P:Prop} (h:P:=by
 intro vs X wq K;obtain ⟨⟨A4,c4⟩,e5,k5⟩:=K.dep 5 rfl rfl rfl;refine gm 59 _ rfl e5 ?_;exact zax rfl rfl ⟨Below.refl _ _,⟨⟨A4,c4⟩,rfl,(k5.map (fun _ h=>h))⟩⟩):P:=h
theorem akz {P:Prop} (h:P:=by
 replace aA:=Bx;replace bS:=bS.ay aK (ah.cons eP ah.nil);replace E:=E.step1 aK (aj.tail aj.head);obtain ⟨HF,LW,ak,E⟩:=dx HF LW E ak (Y:=aj [(some dO)]) (aj.keep (aj.skip aj.aU)) (Per.aW aA (ah.cons fK ah.nil));refine zu ?_;exact ⟨A5,c5,rfl,((HF.on E).here.1.1.1.2).mono hS,(LW.step E ak).toBelow⟩):P:=h
theorem akx {P:Prop} (h:P:=by
 refine qq ?_;intro vs X wq K;have LE:=K.1;have XN:=K.2.1;obtain ⟨⟨A3,c3⟩,e3,k3⟩:=K.dep 3 rfl rfl rfl;refine gm 63 _ rfl e3 (zb aA9 rfl ((KI k A2 A3 c2 c3 _ om (HF.on (E.drew.trans (LE.mono OY))).here.1.2 k3.here).mono ?_));rintro e w2 ⟨A4,c4,rfl,o4,hb⟩;exact ⟨_,rfl,hb,⟨(A4,c4),rfl,Per.own o4 XN⟩⟩):P:=h
theorem TW {P:Prop} (h:P:=by
 refine qq ?_;intro vs X wq K;have XN:=K.2.1;refine zb Mk rfl ((quk ((k:Nat):Int) _ om om).mono ?_);rintro e w2 ⟨A3,c3,rfl,o3,hb⟩;exact ⟨_,rfl,hb,⟨(A3,c3),rfl,Per.own o3 XN⟩⟩):P:=h
attribute [local irreducible] OW RS CW EW
theorem yqv {z:Int} (h:z.natAbs<9223372036854775809):z.natAbs<au^30:=Nat.lt_of_lt_of_le (Nat.lt_of_lt_of_le h de) (Nat.le_trans (rZ (k:=64) (K:=1024) rfl rfl de) G8)
theorem lS (k:Nat):((2:Int)^k).natAbs=2^k:=by rw[Int.natAbs_pow];rfl
theorem BL (k:Nat):(0:Int)<2^k:=Int.pow_pos de
theorem KJ (k:Nat):decide ((2:Int)^k<0)=false:=decide_eq_false (by have:=BL k;omega)
theorem wh {k:Nat} (h:k≤1023):((2:Int)^k).natAbs<au^30:=by
 rw[lS];exact Nat.lt_of_lt_of_le (Nat.pow_lt_pow_right de (show k<1024 from om)) G8
theorem KI (k:Nat) (A B:Option Addr) (c d:Nat) (w:World) (hk:k≤1023) (hx:aC w A (limbs 2)) (hy:aC w B (limbs ((k:Nat):Int))) :
 Calls prog 93 #[.agg #[.bool (decide ((2:Int)<0)),.slice A (limbs 2).length c],.agg #[.bool (decide (((k:Nat):Int)<0)),.slice B (limbs ((k:Nat):Int)).length d]] w (yd w ((2:Int)^k) 0):=by
 rcases Nat.eq_zero_or_pos k with h0 | h0
 · have h:=pow_zero 2 ((k:Nat):Int) A B c d w (yqv de) (yqv om) hx hy om;rw[h0] at h ⊢;exact h
 · have h:=au3 2 ((k:Nat):Int) A B c d w (yqv de) (yqv om) hx hy om om de de;rw[Int.toNat_natCast,zux (wh hk),zuz (wh hk)] at h;exact h
theorem TY {a M k:Nat} (hM:M=qc a*2^k) {n1:Bool} {m0:Int} (h0:m0=if ng a then -((M:Nat):Int) else ((M:Nat):Int)) (h1:n1=decide (m0<0)):dq n1 false M (2^k)=vw a:=by
 have hp:=jn k;have e1:M/2^k=qc a:=by rw[hM];exact Nat.mul_div_cancel _ hp
 have e2:M%2^k=0:=by rw[hM];exact Nat.mul_mod_left _ _
 unfold dq vw;rw[e1,e2,h1,h0];by_cases hz:qc a=0
 · rw[hz] at hM ⊢;rw[Nat.zero_mul] at hM;subst hM;cases ng a<;>simp
 · have hMp:0<M:=by rw[hM];exact Nat.mul_pos om hp
   cases ng a with
   | true=>simp only[if_true];rw[decide_eq_true om];rfl
   | false=>simp only[Bool.false_eq_true,if_false];rw[decide_eq_false om];rfl
theorem Ua {x P:Nat} (hP:0<P) (h:0=x*P):x=0:=by
 rcases Nat.eq_zero_or_pos x with h' | h'
 · exact h'
 · have:=Nat.mul_pos h' hP;omega
theorem Hg {m e W P n k M:Nat} (hP:P=2^1074) (h:m*2^e=W*P*2^n) (hc:1074+n≤e) (hk:k=e-(1074+n)) (hM:M=m):W=M*2^k:=by
 have h1:P*2^n=2^(1074+n):=by rw[hP,Nat.pow_add]
 rw[Nat.mul_assoc,h1,ysx hc] at h;rw[hM,hk];exact (Nat.eq_of_mul_eq_mul_right (jn _) h).symm
theorem Hl {m e W P n k M:Nat} (hP:P=2^1074) (h:m*2^e=W*P*2^n) (hc:e≤1074+n) (hk:k=1074+n-e) (hM:M=m):M=W*2^k:=by
 have h1:P*2^n=2^(1074+n):=by rw[hP,Nat.pow_add]
 rw[Nat.mul_assoc,h1,ysx hc W] at h;rw[hM,hk];exact Nat.eq_of_mul_eq_mul_right (jn _) h
theorem au4 {m e W n k M:Nat} (h:m*2^e=W*2^1074*2^n) (hc:1074+n≤e) (hk:k=e-(1074+n)) (hM:M=m):W=M*2^k:=Hg rfl h hc hk hM
theorem au5 {m e W n k M:Nat} (h:m*2^e=W*2^1074*2^n) (hc:e≤1074+n) (hk:k=1074+n-e) (hM:M=m):M=W*2^k:=Hl rfl h hc hk hM
theorem aa1 {a M k:Nat} {m0:Int} (hM:M=qc a*2^k) (h0:m0=if ng a then -((M:Nat):Int) else ((M:Nat):Int)) (hMb:M<9223372036854775808) (hk:k≤1023) (A B:Option Addr) (c d:Nat) (w:World) (hx:aC w A (limbs m0)) (hy:aC w B (limbs ((2:Int)^k))) :
 Calls prog 95 #[.agg #[.bool (decide (m0<0)),.slice A (limbs m0).length c],.agg #[.bool (decide ((2:Int)^k<0)),.slice B (limbs ((2:Int)^k)).length d]] w fun e w'=>∃A5 c5 B6 c6 r,e= .returned (.tuple #[.agg #[.bool (decide (vw a<0)),.slice A5 (limbs (vw a)).length c5],.agg #[.bool (decide (r<0)),.slice B6 (limbs r).length c6],.int .i64 0])∧Own w' w.heap.size A5 c5 (limbs (vw a))∧Below w.heap.size w w':=by
 have hma:m0.natAbs=M:=by rw[h0];split<;>omega
 have h:=Nb A B c d (limbs m0) (limbs ((2:Int)^k)) w (decide (m0<0)) (decide ((2:Int)^k<0)) hx hy (vb (yqv om)) (vb (wh hk)) (qlq (by have:=BL k;omega));rw[qo m0,qo ((2:Int)^k),gz qj,gz qj,←qo,←qo,hma,lS,KJ,TY hM h0 rfl] at h;rw[KJ];exact h.mono fun e w' ⟨A5,c5,B6,c6,he,o1,o2,hb,_⟩=>⟨A5,c5,B6,c6,_,he,o1,hb⟩
section
variable (w:World) (a:Nat) (ha:a<18446744073709551616)
theorem sj (hf:rg a<9218868437227405312):Calls prog 91 #[.float .f64 a] w (aI w (.float .f64 (Mc .zero a))):=by
 refine zc func91 rfl ntmps91 rfl ?_;have LW:=aD (No) w;have ak:=aS (No) w;have E:=aD (No) w;refine zz ?_;refine za rfl (QX aE2 rfl ((Q9 a).trans (xv hf)) (zl ?_));exact xj
include ha
theorem NS (hn:bI a=true):Calls prog 43 #[.int .u64 ((a:Nat):Int)] w (aI w (.tuple #[.agg #[.bool false,.slice none 0 0],.int .i64 1])):=by
 have _:=ha;refine zc func43 rfl ntmps43 rfl ?_;have LW:=aD (No) w;have ak:=aS (No) w;have E:=aD (No) w;refine zm ?_;refine yq ?_;intro aG w2 aA aK aP;have aP:_≤aG:=Nat.le_trans E.size aP;have Ho:=Nat.le_trans LW.size aP;replace E:=E.trans aK.no;replace E:=E.cons (some aG);replace ak:=aj.grow ak (fun k e=>Or.inr (Nat.le_trans LW.size ((ym aP) k e)));refine zl ?_;refine zkq ?_;refine qd ?_;refine xo ?_;refine zn ?_;refine zd 18 (.bool true) rfl (by rw[kp,hn]<;>rfl) (zn ?_);refine zxq ?_;refine zkx ?_;intro w3 Bx aK;replace aA:=Bx;replace E:=E.step1 aK aj.head;refine zp ?_;exact xj
theorem NT (hi:rg a=9218868437227405312):Calls prog 43 #[.int .u64 ((a:Nat):Int)] w (aI w (.tuple #[.agg #[.bool false,.slice none 0 0],.int .i64 7])):=by
 have hn:bI a=false:=decide_eq_false om;refine zc func43 rfl ntmps43 rfl ?_;have LW:=aD (No) w;have ak:=aS (No) w;have E:=aD (No) w;refine zm ?_;refine yq ?_;intro aG w2 aA aK aP;have aP:_≤aG:=Nat.le_trans E.size aP;have Ho:=Nat.le_trans LW.size aP;replace E:=E.trans aK.no;replace E:=E.cons (some aG);replace ak:=aj.grow ak (fun k e=>Or.inr (Nat.le_trans LW.size ((ym aP) k e)));refine zl ?_;refine zkq ?_;refine qd ?_;refine xo ?_;refine zn ?_;refine zd 18 (.bool false) rfl (by rw[kp,hn]<;>rfl) (zx ?_);refine za rfl (zb ig rfl ((jj _ a ha).mono ?_));rintro e w3 ⟨rfl,hb⟩;refine ⟨_,rfl,?_⟩;have Ec:=Ext.of_below hb No;replace aA:=aA.ay Ec ah.nil;replace E:=E.trans Ec.no;refine zf 25 (.bool true) rfl (by rw[decide_eq_true hi]<;>rfl) (zl ?_);refine zxq ?_;refine zkx ?_;intro w4 Bx aK;replace aA:=Bx;replace E:=E.step1 aK aj.head;refine zp ?_;exact xj
section
variable (hf:rg a<9218868437227405312)
include hf
theorem Hq (h0:qc a=0):Calls prog 43 #[.int .u64 ((a:Nat):Int)] w (yd w (vw a) 0):=by
 obtain ⟨q,hq1,hq2,hq3⟩:=yoq hf;have hq0:q=0:=qyv.1 (at6 hq1 h0);obtain ⟨r1,r2,r3⟩:=jk (ng a) q om;obtain ⟨M,hMd⟩:∃M,M=0:=⟨_,rfl⟩;obtain ⟨k,hk⟩:∃k,k=53:=⟨_,rfl⟩;obtain ⟨m0,hm0⟩:∃m0:Int,m0=if ng a then -((M:Nat):Int) else ((M:Nat):Int):=⟨_,rfl⟩
 have hM:M=qc a*2^k:=by rw[h0,Nat.zero_mul,hMd]
 have hwz:qc (Ieee.double.word (ng a) q)=0:=(yjz (ng a) om hq1).trans h0;have hfz:floatToIntVal .f64 (Ieee.double.word (ng a) q) .i64=some m0:=by
  rw[Ky (by rw[r1];omega) (by rw[hwz];decide),hwz,r2,hm0,hMd]
 refine zc func43 rfl ntmps43 rfl ?_;obtain ⟨HF,LW,ak,E⟩:=bg w;refine zm ?_;refine yq ?_;intro aG w2 aA aK aP;obtain ⟨aP,HF,E,ak⟩:=bJ HF LW E ak aK aP;refine BK ?_;rintro e w3 ⟨rfl,hb⟩;refine ⟨_,rfl,?_⟩;have Ec:=Ext.of_below hb No;replace aA:=aA.ay Ec ah.nil;replace E:=E.trans Ec.no;refine BI ?_;rintro e w4 ⟨rfl,hb⟩;refine ⟨_,rfl,?_⟩;have Ec:=Ext.of_below hb No;replace aA:=aA.ay Ec ah.nil;replace E:=E.trans Ec.no;refine zf 29 (.float .f64 (Ieee.double.word (ng a) q)) rfl (by rw[hq3]<;>rfl) (za rfl (zb Rn rfl ((lC _ (Ieee.double.word (ng a) q) r3 (by rw[r1];exact hq0)).mono ?_)));rintro e w5 ⟨rfl,hb⟩;refine ⟨_,rfl,?_⟩;have Ec:=Ext.of_below hb No;replace aA:=aA.ay Ec ah.nil;replace E:=E.trans Ec.no;refine zz ?_;refine za rfl (zb Ro rfl ((lD _ (Ieee.double.word (ng a) q) r3 (by rw[r1];exact hq0) 53).mono ?_));rintro e w6 ⟨rfl,hb⟩;refine ⟨_,rfl,?_⟩;have Ec:=Ext.of_below hb No;replace aA:=aA.ay Ec ah.nil;replace E:=E.trans Ec.no;refine BJ ?_;rintro e w7 ⟨A1,c1,rfl,o1,hb⟩;refine ⟨_,rfl,?_⟩;have XC:∀q9,(aj [(some aG)]) q9→q9<w6.heap.size:=(aj.grow aj.none_ (ze aA.lt));have Ec:=Ext.of_below hb No;replace aA:=aA.ay Ec ah.nil;replace E:=E.trans Ec.no;obtain ⟨HF,LW,E⟩:=cO HF LW E ak (Per.own o1 XC);refine yq ?_;intro dO w9 bS iN su;have eP:Apart (some dO) (some aG):=Apart.of_lt (ze aA.lt) su;have fK:=eP.symm;replace aA:=aA.ay iN ah.nil;obtain ⟨su,HF,E,ak⟩:=bJ HF LW E ak iN su;refine lQ ?_;intro dH Bx iN;replace bS:=Bx;replace aA:=aA.ay iN (ah.cons fK ah.nil);replace E:=E.step1 iN aj.head;refine zx ?_;refine za rfl (zb Mk rfl ((quk 2 _ de de).mono ?_));rintro e dQ ⟨A2,c2,rfl,o2,hb⟩;refine ⟨_,rfl,?_⟩;have XC:∀q9,(aj [(some dO),(some aG)]) q9→q9<dH.heap.size:=(aj.grow (aj.grow aj.none_ (ze aA.lt)) (ze bS.lt));have Ec:=Ext.of_below hb No;replace bS:=bS.ay Ec ah.nil;replace aA:=aA.ay Ec ah.nil;replace E:=E.trans Ec.no;obtain ⟨HF,LW,E⟩:=cO HF LW E ak (Per.own o2 XC);refine yq ?_;intro Ub yD Hr fM wm;have gL:Apart (some Ub) (some dO):=Apart.of_lt (ze bS.lt) wm;have wu:=gL.symm;have gM:Apart (some Ub) (some aG):=Apart.of_lt (ze aA.lt) wm;have wF:=gM.symm;replace bS:=bS.ay fM ah.nil;replace aA:=aA.ay fM ah.nil;obtain ⟨wm,HF,E,ak⟩:=bJ HF LW E ak fM wm;refine zk (yb kw rfl rfl Hr rfl rfl (Nat.le_of_ble_eq_true rfl) ?_);intro dU Bx fM;replace Hr:=Bx;replace bS:=bS.ay fM (ah.cons wu ah.nil);replace aA:=aA.ay fM (ah.cons wF ah.nil);replace E:=E.step1 fM aj.head;obtain ⟨HF,LW,ak,E⟩:=dx HF LW E ak (Y:=aj [(some dO),(some aG)]) (aj.skip (aj.keep (aj.keep aj.aU))) (Per.aW Hr (ah.cons gL (ah.cons gM ah.nil)));refine zl ?_;refine za rfl (jg (z:=(-53)) rfl rfl kr (zO ?_));have OY:∀q9,(aj (oa [])) q9→q9<(World.drew dU).heap.size→(aj [(some dO),(some aG)]) q9:=fun k h _=>(aj.none_) k h;refine qm (aj [(some dO),(some aG)]) (aj.grow (aj.grow aj.none_ (ze aA.lt)) (ze bS.lt)) [⟨8,9,24,#[.bool false,.slice none 0 0]⟩] [] (fQ [Fx.of (.agg #[.bool (decide ((2:Int)<0)),.slice A2 (limbs 2).length c2]),
  Fx.of (.int .i64 (-53)),
  Fx.of (.int .i64 ((k:Nat):Int)),
  ⟨(Option Addr×Nat),fun (A3,c3)=>.agg #[.bool (decide (((k:Nat):Int)<0)),.slice A3 (limbs ((k:Nat):Int)).length c3],fun (A3,c3) b=>(aC b A3 (limbs ((k:Nat):Int)))⟩,
  ⟨(Option Addr×Nat),fun (A4,c4)=>.tuple #[.agg #[.bool (decide ((2:Int)^k<0)),.slice A4 (limbs ((2:Int)^k)).length c4],.int .i64 0],fun (A4,c4) b=>(aC b A4 (limbs ((2:Int)^k)))⟩,
  ⟨(Option Addr×Nat),fun (A4,c4)=>.tuple #[.agg #[.bool (decide ((2:Int)^k<0)),.slice A4 (limbs ((2:Int)^k)).length c4],.int .i64 0],fun (A4,c4) b=>(aC b A4 (limbs ((2:Int)^k)))⟩,
  ⟨(Option Addr×Nat),fun (A4,c4)=>.agg #[.bool (decide ((2:Int)^k<0)),.slice A4 (limbs ((2:Int)^k)).length c4],fun (A4,c4) b=>(aC b A4 (limbs ((2:Int)^k)))⟩,
  Fx.of (.int .i64 0),
  Fx.of undef,
  Fx.of undef,
  Fx.of (.int .i64 0)]) mixed rfl trivial (fun _ h=>by cases h) ?_ ?_
 · refine ⟨arm,arm,?_,?_,?_,?_,?_,?_,?_,?_,arm,trivial⟩
   · refine qq ?_;intro vs X wq K;exact uy (z:=53) rfl kr ⟨Below.refl _ _,Left.of (by rw[hk];rfl)⟩
   · exact TW
   · exact akx
   · exact ak9
   · exact akq
   · exact TV
   · exact vY
   · refine ⟨_,_,_,_,_,rfl,rfl,rfl,kw,fun vs X wq K=>?_⟩;exact TU
 intro vs fG LE AO AL AF AA;have BM:=bS;have BN:=aA;replace bS:=bS.drew.ay LE ah.nil;replace aA:=aA.drew.ay LE ah.nil;replace E:=E.drew.trans (LE.mono OY);obtain ⟨⟨A4,c4⟩,e6,k6⟩:=AL.2.2.2.2.2.2.1;obtain ⟨HF,LW,E⟩:=cO HF LW E ak ((k6.map (fun _ h=>h):Per (aj [(some dO),(some aG)]) fG (fun b=>aC b A4 (limbs ((2:Int)^k)))));obtain ⟨gH,v0,y0,au6,fI,dL,ey,Yb⟩:=AF.1;cases ey
 obtain rfl:vs 6=v0:=Option.some.inj Yb;rw[e6] at dL;have gN:Apart (some gH) (some dO):=Apart.of_lt (ze BM.lt) fI;have aa2:=gN.symm;have dI:Apart (some gH) (some aG):=Apart.of_lt (ze BN.lt) fI;have gI:=dI.symm;obtain ⟨HF,LW,E⟩:=cO HF LW E ak ((Per.aW dL (ah.cons gN (ah.cons dI ah.nil)):Per (aj [(some dO),(some aG)]) fG (fun b=>aB b gH 24 #[.bool (decide ((2:Int)^k<0)),.slice A4 (limbs ((2:Int)^k)).length c4])));have e8:=au6;refine ja (τ:=[(2,_),(3,_),(7,_),(11,.pointer (some ⟨gH,0,none⟩))]) ⟨rfl,rfl,rfl,congrArg some e8,trivial⟩ ?_;clear AL AF AA LE AO OY e6 e8 k6 BM BN;refine BH ?_;rintro e vX ⟨A5,c5,B6,c6,r,rfl,o5,hb⟩;refine ⟨_,rfl,?_⟩;have XC:∀q9,(aj [(some dO),(some aG)]) q9→q9<fG.heap.size:=(aj.grow (aj.grow aj.none_ (ze aA.lt)) (ze bS.lt));have SC:=Nat.le_trans LW.size E.size;have Ec:=Ext.of_below hb No;replace bS:=bS.ay Ec ah.nil;replace aA:=aA.ay Ec ah.nil;replace E:=E.trans Ec.no;have hS:=SC;obtain ⟨HF,LW,E⟩:=cO HF LW E ak (Per.dD o5 XC);refine zx ?_;refine yq ?_;intro wG E8 dJ fE Ht;have KL:Apart (some wG) (some dO):=Apart.of_lt (ze bS.lt) Ht;have aa3:=KL.symm;have KM:Apart (some wG) (some aG):=Apart.of_lt (ze aA.lt) Ht;have aa4:=KM.symm;replace bS:=bS.ay fE ah.nil;replace aA:=aA.ay fE ah.nil;obtain ⟨Ht,HF,E,ak⟩:=bJ HF LW E ak fE Ht;refine yq ?_;intro aa5 yF Uc BO Ud;have BP:Apart (some aa5) (some wG):=Apart.of_lt (ze dJ.lt) Ud;have Ue:=BP.symm;have KO:Apart (some aa5) (some dO):=Apart.of_lt (ze bS.lt) Ud;have aa6:=KO.symm;have KP:Apart (some aa5) (some aG):=Apart.of_lt (ze aA.lt) Ud;have aa7:=KP.symm;replace dJ:=dJ.ay BO ah.nil;replace bS:=bS.ay BO ah.nil;replace aA:=aA.ay BO ah.nil;obtain ⟨Ud,HF,E,ak⟩:=bJ HF LW E ak BO Ud;refine zk (yb kw rfl rfl dJ rfl rfl (Nat.le_of_ble_eq_true rfl) ?_);intro w22 Bx fE;replace dJ:=Bx;replace Uc:=Uc.ay fE (ah.cons BP ah.nil);replace bS:=bS.ay fE (ah.cons aa3 ah.nil);replace aA:=aA.ay fE (ah.cons aa4 ah.nil);replace E:=E.step1 fE (aj.tail aj.head);obtain ⟨HF,LW,ak,E⟩:=dx HF LW E ak (Y:=aj [(some aa5),(some dO),(some aG)]) (aj.keep (aj.skip (aj.keep (aj.keep aj.aU)))) (Per.aW dJ (ah.cons Ue (ah.cons KL (ah.cons KM ah.nil))));refine zk (yb kw rfl rfl Uc rfl rfl (Nat.le_of_ble_eq_true rfl) ?_);intro iW Bx BO;replace Uc:=Bx;replace bS:=bS.ay BO (ah.cons aa6 ah.nil);replace aA:=aA.ay BO (ah.cons aa7 ah.nil);replace E:=E.step1 BO aj.head;obtain ⟨HF,LW,ak,E⟩:=dx HF LW E ak (Y:=aj [(some dO),(some aG)]) (aj.skip (aj.keep (aj.keep aj.aU))) (Per.aW Uc (ah.cons KO (ah.cons KP ah.nil)));refine zl ?_;refine zkx ?_;intro Ye Bx aK;exact akz
theorem NU (h0:qc a≠0):Calls prog 43 #[.int .u64 ((a:Nat):Int)] w (yd w (vw a) 0):=by
 obtain ⟨q,hq1,hq2,hq3⟩:=yoq hf;have hqf:q<9218868437227405312:=om;have hq0:q≠0:=fun e=>by
  subst e;rw[Q7] at hq1;exact h0 (Ua (jn 1074) hq1)
 obtain ⟨r1,r2,r3⟩:=jk (ng a) q om;obtain ⟨T,hT⟩:∃T,T=Ieee.double.word (ng a) q:=⟨_,rfl⟩;have hT1:rg T=q:=by rw[hT,r1]
 have hT2:ng T=ng a:=by rw[hT,r2]
 obtain ⟨F,hF⟩:∃F,F=iV T:=⟨_,rfl⟩;have hmn:=lg hq0;have hFp:rg F=4602678819172646912+(mg (nr q)-4503599627370496)∧ng F=ng a∧F<18446744073709551616:=by
  rw[hF,iV,hT1,hT2];exact jk _ _ om
 obtain ⟨fq1,fq2⟩:=ak8 (r:=q) hq0;have hFv:vl (rg F)=mg (nr q)*2^1021:=by
  rw[hFp.1,←KA hqf];exact (r9 hqf hq0).2.2
 have fq3:vl (1074*4503599627370496+mg (nr q))=vl (rg F)*2^53:=by rewrite [fq1,hFv];exact qtv (p:=1074) (q:=1021) (s:=53) de _
 obtain ⟨M,hMd⟩:∃M,M=mg (nr q):=⟨_,rfl⟩;obtain ⟨m0,hm0⟩:∃m0:Int,m0=if ng a then -((M:Nat):Int) else ((M:Nat):Int):=⟨_,rfl⟩
 have fw:=jk (ng F) (1074*4503599627370496+mg (nr q)) om;have hwM:qc (Ieee.double.word (ng F) (1074*4503599627370496+mg (nr q)))=M:=by rw[hMd];exact yjz (ng F) fq2 fq1
 have hfz:floatToIntVal .f64 (Ieee.double.word (ng F) (1074*4503599627370496+mg (nr q))) .i64=some m0:=by
  rw[Ky (by rw[fw.1];exact fq2) (by rw[hwM];omega),hwM,fw.2.1,hFp.2.1,hm0]
 have hE:qD T=((ex (nr q):Nat):Int)-1021-((nd q:Nat):Int):=by
  have:=KC hqf;rw[←this];unfold qD;rw[hT1,(yrk (r:=q) om).1]
 have hval:=kZ hq0;rw[hq1] at hval;have hxn:ex (nr q)≤2045:=by have:=ysv hq0 hqf;unfold ex;split<;>omega
 have hnd:nd q≤52:=by unfold nd;split<;>omega
 refine zc func43 rfl ntmps43 rfl ?_;obtain ⟨HF,LW,ak,E⟩:=bg w;refine zm ?_;refine yq ?_;intro aG w2 aA aK aP;obtain ⟨aP,HF,E,ak⟩:=bJ HF LW E ak aK aP;refine BK ?_;rintro e w3 ⟨rfl,hb⟩;refine ⟨_,rfl,?_⟩;have Ec:=Ext.of_below hb No;replace aA:=aA.ay Ec ah.nil;replace E:=E.trans Ec.no;refine BI ?_;rintro e w4 ⟨rfl,hb⟩;refine ⟨_,rfl,?_⟩;have Ec:=Ext.of_below hb No;replace aA:=aA.ay Ec ah.nil;replace E:=E.trans Ec.no;refine zf 29 (.float .f64 (Ieee.double.word (ng a) q)) rfl (by rw[hq3]<;>rfl) (zf 29 (.float .f64 T) rfl (by rw[hT]<;>rfl) (za rfl (zb Rn rfl ((qyq _ T (by rw[hT];exact r3) (by rw[hT1];exact hq0) (by rw[hT1];exact hqf)).mono ?_))));rintro e w5 ⟨rfl,hb⟩;refine ⟨_,rfl,?_⟩;have Ec:=Ext.of_below hb No;replace aA:=aA.ay Ec ah.nil;replace E:=E.trans Ec.no;refine zf 30 (.tuple #[.float .f64 F,.int .i64 (qD T)]) rfl (by rw[hF]<;>rfl) (zz ?_);refine za rfl (zb Ro rfl ((qyz _ F hFp.2.2 (by rw[hFp.1];omega) (by rw[hFp.1];omega) 53 (1074*4503599627370496+mg (nr q)) de fq2 fq3).mono ?_));rintro e w6 ⟨rfl,hb⟩;refine ⟨_,rfl,?_⟩;have Ec:=Ext.of_below hb No;replace aA:=aA.ay Ec ah.nil;replace E:=E.trans Ec.no;refine BJ ?_;rintro e w7 ⟨A1,c1,rfl,o1,hb⟩;refine ⟨_,rfl,?_⟩;have XC:∀q9,(aj [(some aG)]) q9→q9<w6.heap.size:=(aj.grow aj.none_ (ze aA.lt));have Ec:=Ext.of_below hb No;replace aA:=aA.ay Ec ah.nil;replace E:=E.trans Ec.no;obtain ⟨HF,LW,E⟩:=cO HF LW E ak (Per.own o1 XC);refine yq ?_;intro dO w9 bS iN su;have eP:Apart (some dO) (some aG):=Apart.of_lt (ze aA.lt) su;have fK:=eP.symm;replace aA:=aA.ay iN ah.nil;obtain ⟨su,HF,E,ak⟩:=bJ HF LW E ak iN su;refine lQ ?_;intro dH Bx iN;replace bS:=Bx;replace aA:=aA.ay iN (ah.cons fK ah.nil);replace E:=E.step1 iN aj.head;refine zx ?_;refine za rfl (zb Mk rfl ((quk 2 _ de de).mono ?_));rintro e dQ ⟨A2,c2,rfl,o2,hb⟩;refine ⟨_,rfl,?_⟩;have XC:∀q9,(aj [(some dO),(some aG)]) q9→q9<dH.heap.size:=(aj.grow (aj.grow aj.none_ (ze aA.lt)) (ze bS.lt));have Ec:=Ext.of_below hb No;replace bS:=bS.ay Ec ah.nil;replace aA:=aA.ay Ec ah.nil;replace E:=E.trans Ec.no;obtain ⟨HF,LW,E⟩:=cO HF LW E ak (Per.own o2 XC);refine yq ?_;intro Ub yD Hr fM wm;have gL:Apart (some Ub) (some dO):=Apart.of_lt (ze bS.lt) wm;have wu:=gL.symm;have gM:Apart (some Ub) (some aG):=Apart.of_lt (ze aA.lt) wm;have wF:=gM.symm;replace bS:=bS.ay fM ah.nil;replace aA:=aA.ay fM ah.nil;obtain ⟨wm,HF,E,ak⟩:=bJ HF LW E ak fM wm;refine zk (yb kw rfl rfl Hr rfl rfl (Nat.le_of_ble_eq_true rfl) ?_);intro dU Bx fM;replace Hr:=Bx;replace bS:=bS.ay fM (ah.cons wu ah.nil);replace aA:=aA.ay fM (ah.cons wF ah.nil);replace E:=E.step1 fM aj.head;obtain ⟨HF,LW,ak,E⟩:=dx HF LW E ak (Y:=aj [(some dO),(some aG)]) (aj.skip (aj.keep (aj.keep aj.aU))) (Per.aW Hr (ah.cons gL (ah.cons gM ah.nil)));refine zl ?_;refine yl ?_;refine qd ?_;refine zd 41 (.bool (decide (1074+nd q≤ex (nr q)))) rfl (kb (by rw[hE];omega)) (zg rfl (fun hc=>?_) (fun hc=>?_))
 ·
  have hc:=of_decide_eq_true hc;obtain ⟨k,hk⟩:∃k,k=ex (nr q)-(1074+nd q):=⟨_,rfl⟩;have hW:qc a=M*2^k:=au4 hval hc hk hMd;have hprod:m0*(2:Int)^k=vw a:=by
   rw[vw,hW,hm0];split
   · rw[Int.neg_mul,Int.natCast_mul,Int.natCast_pow];rfl
   · rw[Int.natCast_mul,Int.natCast_pow];rfl
  have hwl:=zmv hf;refine zd 6 (.int .i64 ((k:Nat):Int)) rfl (by rw[hE];congr 1;omega) (aN ?_);have OY:∀q9,(aj (oa [])) q9→q9<(World.drew dU).heap.size→(aj [(some dO),(some aG)]) q9:=fun k h _=>(aj.none_) k h;refine qm (aj [(some dO),(some aG)]) (aj.grow (aj.grow aj.none_ (ze aA.lt)) (ze bS.lt)) [⟨7,8,24,#[.bool false,.slice none 0 0]⟩] [] (fQ [Fx.of (.agg #[.bool (decide ((2:Int)<0)),.slice A2 (limbs 2).length c2]),
   Fx.of (.int .i64 ((k:Nat):Int)),
   ⟨(Option Addr×Nat),fun (A3,c3)=>.agg #[.bool (decide (((k:Nat):Int)<0)),.slice A3 (limbs ((k:Nat):Int)).length c3],fun (A3,c3) b=>(aC b A3 (limbs ((k:Nat):Int)))⟩,
   ⟨(Option Addr×Nat),fun (A4,c4)=>.tuple #[.agg #[.bool (decide ((2:Int)^k<0)),.slice A4 (limbs ((2:Int)^k)).length c4],.int .i64 0],fun (A4,c4) b=>(aC b A4 (limbs ((2:Int)^k)))⟩,
   ⟨(Option Addr×Nat),fun (A4,c4)=>.tuple #[.agg #[.bool (decide ((2:Int)^k<0)),.slice A4 (limbs ((2:Int)^k)).length c4],.int .i64 0],fun (A4,c4) b=>(aC b A4 (limbs ((2:Int)^k)))⟩,
   ⟨(Option Addr×Nat),fun (A4,c4)=>.agg #[.bool (decide ((2:Int)^k<0)),.slice A4 (limbs ((2:Int)^k)).length c4],fun (A4,c4) b=>(aC b A4 (limbs ((2:Int)^k)))⟩,
   Fx.of (.int .i64 0),
   Fx.of undef,
   Fx.of undef,
   Fx.of (.int .i64 0)]) mixed rfl trivial (fun _ h=>by cases h) ?_ ?_
  · refine ⟨arm,arm,?_,?_,?_,?_,?_,?_,?_,arm,trivial⟩
    · exact TW
    · refine qq ?_;intro vs X wq K;have LE:=K.1;have XN:=K.2.1;obtain ⟨⟨A3,c3⟩,e2,k2⟩:=K.dep 2 rfl rfl rfl;refine gm 45 _ rfl e2 (zb aA9 rfl ((KI k A2 A3 c2 c3 _ om (HF.on (E.drew.trans (LE.mono OY))).here.1.2 k2.here).mono ?_));rintro e w2 ⟨A4,c4,rfl,o4,hb⟩;exact ⟨_,rfl,hb,⟨(A4,c4),rfl,Per.own o4 XN⟩⟩
    · intro vs X wq K;obtain ⟨⟨A4,c4⟩,e3,k3⟩:=K.dep 3 rfl rfl rfl;refine gm 46 _ rfl e3 ?_;exact qjq rfl ⟨Below.refl _ _,⟨⟨A4,c4⟩,rfl,(k3.map (fun _ h=>h))⟩⟩
    · intro vs X wq K;obtain ⟨⟨A4,c4⟩,e4,k4⟩:=K.dep 4 rfl rfl rfl;refine gm 42 _ rfl e4 ?_;exact zax rfl rfl ⟨Below.refl _ _,⟨⟨A4,c4⟩,rfl,(k4.map (fun _ h=>h))⟩⟩
    · intro vs X wq K;obtain ⟨⟨A4,c4⟩,e4,k4⟩:=K.dep 4 rfl rfl rfl;refine gm 42 _ rfl e4 ?_;exact zax rfl rfl ⟨Below.refl _ _,Left.of rfl⟩
    · exact vY
    · refine ⟨_,_,_,_,_,rfl,rfl,rfl,kw,fun vs X wq K=>?_⟩;obtain ⟨⟨A4,c4⟩,e0,_⟩:=K.dep 5 rfl rfl rfl;exact ⟨vs 5,rfl,by rw[e0];rfl,by rw[e0];rfl⟩
  intro vs fG LE AO AL AF AA;have BM:=bS;have BN:=aA;replace bS:=bS.drew.ay LE ah.nil;replace aA:=aA.drew.ay LE ah.nil;replace E:=E.drew.trans (LE.mono OY);obtain ⟨⟨A4,c4⟩,e5,k5⟩:=AL.2.2.2.2.2.1;obtain ⟨HF,LW,E⟩:=cO HF LW E ak ((k5.map (fun _ h=>h):Per (aj [(some dO),(some aG)]) fG (fun b=>aC b A4 (limbs ((2:Int)^k)))));obtain ⟨gH,v0,y0,au6,fI,dL,ey,Yb⟩:=AF.1;cases ey
  obtain rfl:vs 5=v0:=Option.some.inj Yb;rw[e5] at dL;have gN:Apart (some gH) (some dO):=Apart.of_lt (ze BM.lt) fI;have aa2:=gN.symm;have dI:Apart (some gH) (some aG):=Apart.of_lt (ze BN.lt) fI;have gI:=dI.symm;obtain ⟨HF,LW,E⟩:=cO HF LW E ak ((Per.aW dL (ah.cons gN (ah.cons dI ah.nil)):Per (aj [(some dO),(some aG)]) fG (fun b=>aB b gH 24 #[.bool (decide ((2:Int)^k<0)),.slice A4 (limbs ((2:Int)^k)).length c4])));have e7:=au6;refine ja (τ:=[(2,_),(3,_),(6,_),(7,_),(8,_),(9,.pointer (some ⟨gH,0,none⟩))]) ⟨rfl,rfl,rfl,rfl,rfl,congrArg some e7,trivial⟩ ?_;clear AL AF AA LE AO OY e5 e7 k5 BM BN;have hmul:∀(A B:Option Addr) (c d:Nat) (w:World),aC w A (limbs m0)→aC w B (limbs ((2:Int)^k))→Calls prog 94 #[.agg #[.bool (decide (m0<0)),.slice A (limbs m0).length c],.agg #[.bool (decide ((2:Int)^k<0)),.slice B (limbs ((2:Int)^k)).length d]] w (yd w (vw a) 0):=by
   intro A B c d w hx hy;have h:=aH4 A B c d w (yqv (by rw[hm0];split<;>omega)) (wh om) hx hy;rw[hprod,zux hwl,zuz hwl] at h;exact h
  refine zu ?_;refine za rfl (zb aAq rfl ((hmul A1 A4 c1 c4 _ (HF.on E).here.1.1.1.1.2 (HF.on E).here.1.2).mono ?_));rintro e vX ⟨A5,c5,rfl,o5,hb⟩;refine ⟨_,rfl,?_⟩;have XC:∀q9,(aj [(some dO),(some aG)]) q9→q9<fG.heap.size:=(aj.grow (aj.grow aj.none_ (ze aA.lt)) (ze bS.lt));have SC:=Nat.le_trans LW.size E.size;have Ec:=Ext.of_below hb No;replace bS:=bS.ay Ec ah.nil;replace aA:=aA.ay Ec ah.nil;replace E:=E.trans Ec.no;have hS:=SC;obtain ⟨HF,LW,E⟩:=cO HF LW E ak (Per.dD o5 XC);refine zn ?_;refine lQ ?_;intro yE Bx iN;replace bS:=Bx;replace aA:=aA.ay iN (ah.cons fK ah.nil);replace E:=E.step1 iN aj.head;obtain ⟨HF,LW,ak,E⟩:=dx HF LW E ak (Y:=aj [(some aG)]) (aj.skip (aj.keep aj.aU)) (Per.aW bS (ah.cons eP ah.nil));refine zu ?_;refine zkx ?_;intro E8 Bx aK;replace aA:=Bx;replace E:=E.step1 aK aj.head;refine zl ?_;exact ⟨A5,c5,rfl,((HF.on E).here.1.2).mono hS,(LW.step E ak).toBelow⟩
 ·
  have hc:=of_decide_eq_false hc;obtain ⟨k,hk⟩:∃k,k=1074+nd q-ex (nr q):=⟨_,rfl⟩;have hM:M=qc a*2^k:=au5 hval om hk hMd;have aV8:k≤52:=by
   rcases Nat.lt_or_ge 52 k with h | h
   · exfalso
     have h1:2^53≤2^k:=Nat.pow_le_pow_right de om;have h2:1*2^k≤qc a*2^k:=Nat.mul_le_mul_right _ om;omega
   · exact h
  refine qd ?_;refine zd 57 (.bool false) rfl (by rw[hE,decide_eq_false om]<;>rfl) (zx ?_);have OY:∀q9,(aj (oa [])) q9→q9<(World.drew dU).heap.size→(aj [(some dO),(some aG)]) q9:=fun k h _=>(aj.none_) k h;refine qm (aj [(some dO),(some aG)]) (aj.grow (aj.grow aj.none_ (ze aA.lt)) (ze bS.lt)) [⟨8,9,24,#[.bool false,.slice none 0 0]⟩] [] (fQ [Fx.of (.agg #[.bool (decide ((2:Int)<0)),.slice A2 (limbs 2).length c2]),
   Fx.of (.int .i64 ((qD T)-53)),
   Fx.of (.int .i64 ((k:Nat):Int)),
   ⟨(Option Addr×Nat),fun (A3,c3)=>.agg #[.bool (decide (((k:Nat):Int)<0)),.slice A3 (limbs ((k:Nat):Int)).length c3],fun (A3,c3) b=>(aC b A3 (limbs ((k:Nat):Int)))⟩,
   ⟨(Option Addr×Nat),fun (A4,c4)=>.tuple #[.agg #[.bool (decide ((2:Int)^k<0)),.slice A4 (limbs ((2:Int)^k)).length c4],.int .i64 0],fun (A4,c4) b=>(aC b A4 (limbs ((2:Int)^k)))⟩,
   ⟨(Option Addr×Nat),fun (A4,c4)=>.tuple #[.agg #[.bool (decide ((2:Int)^k<0)),.slice A4 (limbs ((2:Int)^k)).length c4],.int .i64 0],fun (A4,c4) b=>(aC b A4 (limbs ((2:Int)^k)))⟩,
   ⟨(Option Addr×Nat),fun (A4,c4)=>.agg #[.bool (decide ((2:Int)^k<0)),.slice A4 (limbs ((2:Int)^k)).length c4],fun (A4,c4) b=>(aC b A4 (limbs ((2:Int)^k)))⟩,
   Fx.of (.int .i64 0),
   Fx.of undef,
   Fx.of undef,
   Fx.of (.int .i64 0)]) mixed rfl trivial (fun _ h=>by cases h) ?_ ?_
  · refine ⟨arm,arm,?_,?_,?_,?_,?_,?_,?_,?_,arm,trivial⟩
    · refine qq ?_;intro vs X wq K;exact uy rfl (yx om) ⟨Below.refl _ _,Left.of ((by rw[hE,hk];congr 1;omega:(.int .i64 (0-((qD T)-53)):Value)=_))⟩
    · exact TW
    · exact akx
    · exact ak9
    · exact akq
    · exact TV
    · exact vY
    · refine ⟨_,_,_,_,_,rfl,rfl,rfl,kw,fun vs X wq K=>?_⟩;exact TU
  intro vs E9 LE AO AL AF AA;have BM:=bS;have BN:=aA;replace bS:=bS.drew.ay LE ah.nil;replace aA:=aA.drew.ay LE ah.nil;replace E:=E.drew.trans (LE.mono OY);obtain ⟨⟨A4,c4⟩,e6,k6⟩:=AL.2.2.2.2.2.2.1;obtain ⟨HF,LW,E⟩:=cO HF LW E ak ((k6.map (fun _ h=>h):Per (aj [(some dO),(some aG)]) E9 (fun b=>aC b A4 (limbs ((2:Int)^k)))));obtain ⟨aa8,v0,y0,aQ7,aHj,aI0,ey,Yb⟩:=AF.1;cases ey
  obtain rfl:vs 6=v0:=Option.some.inj Yb;rw[e6] at aI0;have KQ:Apart (some aa8) (some dO):=Apart.of_lt (ze BM.lt) aHj;have aL5:=KQ.symm;have KR:Apart (some aa8) (some aG):=Apart.of_lt (ze BN.lt) aHj;have aL6:=KR.symm;obtain ⟨HF,LW,E⟩:=cO HF LW E ak ((Per.aW aI0 (ah.cons KQ (ah.cons KR ah.nil)):Per (aj [(some dO),(some aG)]) E9 (fun b=>aB b aa8 24 #[.bool (decide ((2:Int)^k<0)),.slice A4 (limbs ((2:Int)^k)).length c4])));have e8:=aQ7;refine ja (τ:=[(2,_),(3,_),(7,_),(11,.pointer (some ⟨aa8,0,none⟩))]) ⟨rfl,rfl,rfl,congrArg some e8,trivial⟩ ?_;clear AL AF AA LE AO OY e6 e8 k6 BM BN;refine BH ?_;rintro e w22 ⟨A5,c5,B6,c6,r,rfl,o5,hb⟩;refine ⟨_,rfl,?_⟩;have XC:∀q9,(aj [(some dO),(some aG)]) q9→q9<E9.heap.size:=(aj.grow (aj.grow aj.none_ (ze aA.lt)) (ze bS.lt));have SC:=Nat.le_trans LW.size E.size;have Ec:=Ext.of_below hb No;replace bS:=bS.ay Ec ah.nil;replace aA:=aA.ay Ec ah.nil;replace E:=E.trans Ec.no;have hS:=SC;obtain ⟨HF,LW,E⟩:=cO HF LW E ak (Per.dD o5 XC);refine zx ?_;refine yq ?_;intro au7 Ye NV BQ aa9;have KS:Apart (some au7) (some dO):=Apart.of_lt (ze bS.lt) aa9;have aaq:=KS.symm;have KT:Apart (some au7) (some aG):=Apart.of_lt (ze aA.lt) aa9;have aaz:=KT.symm;replace bS:=bS.ay BQ ah.nil;replace aA:=aA.ay BQ ah.nil;obtain ⟨aa9,HF,E,ak⟩:=bJ HF LW E ak BQ aa9;refine yq ?_;intro aax w26 Uf BR Ug;have BS:Apart (some aax) (some au7):=Apart.of_lt (ze NV.lt) Ug;have Uh:=BS.symm;have KU:Apart (some aax) (some dO):=Apart.of_lt (ze bS.lt) Ug;have aaj:=KU.symm;have KV:Apart (some aax) (some aG):=Apart.of_lt (ze aA.lt) Ug;have ab0:=KV.symm;replace NV:=NV.ay BR ah.nil;replace bS:=bS.ay BR ah.nil;replace aA:=aA.ay BR ah.nil;obtain ⟨Ug,HF,E,ak⟩:=bJ HF LW E ak BR Ug;refine zk (yb kw rfl rfl NV rfl rfl (Nat.le_of_ble_eq_true rfl) ?_);intro w27 Bx BQ;replace NV:=Bx;replace Uf:=Uf.ay BQ (ah.cons BS ah.nil);replace bS:=bS.ay BQ (ah.cons aaq ah.nil);replace aA:=aA.ay BQ (ah.cons aaz ah.nil);replace E:=E.step1 BQ (aj.tail aj.head);obtain ⟨HF,LW,ak,E⟩:=dx HF LW E ak (Y:=aj [(some aax),(some dO),(some aG)]) (aj.keep (aj.skip (aj.keep (aj.keep aj.aU)))) (Per.aW NV (ah.cons Uh (ah.cons KS (ah.cons KT ah.nil))));refine zk (yb kw rfl rfl Uf rfl rfl (Nat.le_of_ble_eq_true rfl) ?_);intro w28 Bx BR;replace Uf:=Bx;replace bS:=bS.ay BR (ah.cons aaj ah.nil);replace aA:=aA.ay BR (ah.cons ab0 ah.nil);replace E:=E.step1 BR aj.head;obtain ⟨HF,LW,ak,E⟩:=dx HF LW E ak (Y:=aj [(some dO),(some aG)]) (aj.skip (aj.keep (aj.keep aj.aU))) (Per.aW Uf (ah.cons KU (ah.cons KV ah.nil)));refine zl ?_;refine zkx ?_;intro w29 Bx aK;exact akz
theorem sw:Calls prog 43 #[.int .u64 ((a:Nat):Int)] w (yd w (vw a) 0):=by
 by_cases h0:qc a=0
 · exact Hq w a ha hf h0
 · exact NU w a ha hf h0
end
end
end Go.Proofs.YtmnmebdmpigddaaGreatDoor
namespace Go.Proofs.YtmnmebdmpigddaaGreatDoor
open Go.RowKit Proofs.Tryz
theorem lT {P Q:Prop} (k:Q) (h:(Unit→Q)→P:=by
 intro zK;refine zp ?_;refine zkq ?_;refine yi ?_;refine xo ?_;refine aN ?_;refine zf 17 (.bool false) rfl (by rw[kp,hn]<;>rfl) (aN ?_);exact zK ()):P:=h fun _=>k
attribute [local irreducible] OW RS CW EW
noncomputable def Ui (a:Nat) (i:Int):Int:=if zY (vw a) i≠0 then zY (vw a) i else if TN a then (if ng a then -1 else 1) else 0
theorem NY {a q:Nat} (hf:rg a<9218868437227405312) (h1:vl q=qc a*2^1074) (h2:q≤rg a):kQ a (Ieee.double.word (ng a) q)=(if TN a then (if ng a then -1 else 1) else 0)∧ob a (Ieee.double.word (ng a) q)=true:=by
 obtain ⟨w1,w2,w3⟩:=jk (ng a) q om;have hn:bI (Ieee.double.word (ng a) q)=false:=xv (by rw[w1];omega);have ho:ob a (Ieee.double.word (ng a) q)=true:=by rw[ob,xv hf,hn];rfl
 refine ⟨?_,ho⟩;have hl:TN a=decide (q<rg a):=by
  refine (vgk ?_).symm;rw[TA,←h1];constructor
  · intro h e;have:=jS h;omega
  · intro h;rcases Nat.lt_or_ge q (rg a) with h' | h'
    · exact h'
    · exact absurd (congrArg vl (show rg a=q from om)) h
 rw[kQ,if_pos ho,hl];obtain ⟨p1,p2⟩:=yzv a;obtain ⟨p3,p4⟩:=yzv (Ieee.double.word (ng a) q);rw[w1,w2] at p3 p4;unfold Tm;cases hs:ng a with
 | true=>
  rw[hs] at p3;rw[p1 hs,p3 rfl];by_cases h:q<rg a
  · rw[decide_eq_true h,if_pos om];rfl
  · rw[decide_eq_false h,if_neg om,if_neg om];rfl
 | false=>
  rw[hs] at p4;rw[p2 hs,p4 rfl];by_cases h:q<rg a
  · rw[decide_eq_true h,if_neg om,if_pos om];rfl
  · rw[decide_eq_false h,if_neg om,if_neg om];rfl
theorem ab1 (s:Bool):floatToIntVal .f64 (Ieee.double.word s 4607182418800017408) .i64=some (if s then -1 else 1):=by cases s<;>decide +kernel
def ab2 (a:Nat):Int:=if ng a then -1 else 1
section
variable (w:World) (a:Nat) (ha:a<18446744073709551616)
include ha
section
variable (n1:Bool) (A:Option Addr) (c:Nat) (xs:List Nat) (hx:aC w A xs) (hl:xs.length≤9223372036854775807)
include hx hl
theorem Hu (hn:bI a=true):Calls prog 118 #[.int .u64 ((a:Nat):Int),.agg #[.bool n1,.slice A xs.length c]] w (aI w (.tuple #[.int .i64 0,.bool false])):=by
 have _:=And.intro ha (And.intro hx hl);refine zc func118 rfl ntmps118 rfl ?_;have LW:=aD (No) w;have ak:=aS (No) w;have E:=aD (No) w;refine zi ?_;intro aG w2 aA aK aP;have aP:_≤aG:=Nat.le_trans E.size aP;have Ho:=Nat.le_trans LW.size aP;replace E:=E.trans aK.no;replace E:=E.cons (some aG);replace ak:=aj.grow ak (fun k e=>Or.inr (Nat.le_trans LW.size ((ym aP) k e)));replace LW:=LW.step E ak;have SB:∀q9,No q9→aj [(some aG)] q9:=(aj.skip aj.aU);replace ak:=fun k h=>ak k (SB k h);clear SB;replace E:=aD (No) w2;refine zp ?_;refine zkq ?_;refine yi ?_;refine xo ?_;refine aN ?_;refine zf 17 (.bool true) rfl (by rw[kp,hn]<;>rfl) (oh ?_);exact xj
theorem Hw (hn:bI a=false) (hg:zr n1 xs=false):Calls prog 118 #[.int .u64 ((a:Nat):Int),.agg #[.bool n1,.slice A xs.length c]] w (aI w (.tuple #[.int .i64 0,.bool false])):=by
 have _:=ha;refine zc func118 rfl ntmps118 rfl ?_;obtain ⟨HF,LW,ak,E⟩:=bg w;replace HF:=HF.and (Per.aH hx);refine zi ?_;intro aG w2 aA aK aP;obtain ⟨HF,LW,E⟩:=bD HF LW E ak aA aK;refine lT ?_;refine bO rfl (zb zH rfl ((yr n1 c _ A xs hl (HF.on E).here.1.2).mono ?_));rintro e w3 ⟨rfl,hb⟩;refine ⟨_,rfl,?_⟩;replace E:=bT E hb;refine zf 19 (.bool false) rfl (by rw[hg]<;>rfl) (jm ?_);exact xj
end
section
variable (i:Int) (A:Option Addr) (c:Nat) (hi:i.natAbs<au^30) (hx:aC w A (limbs i)) (hn:bI a=false)
include hi hx hn
theorem Hy (kX:rg a=9218868437227405312):Calls prog 118 #[.int .u64 ((a:Nat):Int),.agg #[.bool (decide (i<0)),.slice A (limbs i).length c]] w (aI w (.tuple #[.int .i64 (ab2 a),.bool true])):=by
 refine zc func118 rfl ntmps118 rfl ?_;obtain ⟨HF,LW,ak,E⟩:=bg w;replace HF:=HF.and (Per.aH hx);refine zi ?_;intro aG w2 aA aK aP;obtain ⟨HF,LW,E⟩:=bD HF LW E ak aA aK;refine lT ?_;refine bO rfl (zb zH rfl ((Qc A c _ hi (HF.on E).here.1.2).mono ?_));rintro e w3 ⟨rfl,hb⟩;refine ⟨_,rfl,?_⟩;replace E:=bT E hb;refine yu ?_;refine zh rfl ig rfl (jj _ a ha) E fun w4 E=>(zf 23 (.bool true) rfl (by rw[decide_eq_true kX]<;>rfl) (zl ?_));refine zh rfl ahx rfl (qok _ 4607182418800017408 de a ha) E fun w5 E=>(zf 25 (.float .f64 (Ieee.double.word (ng a) 4607182418800017408)) rfl (by rw[show rg 4607182418800017408=4607182418800017408 from de]<;>rfl) (za rfl (uV (z:=ab2 a) underlying3 (by rw[pW];rfl) rfl (ab1 (ng a)) (zp ?_))));exact xj
theorem Hz (hf:rg a<9218868437227405312):Calls prog 118 #[.int .u64 ((a:Nat):Int),.agg #[.bool (decide (i<0)),.slice A (limbs i).length c]] w (aI w (.tuple #[.int .i64 (Ui a i),.bool true])):=by
 obtain ⟨q,hq1,hq2,hq3⟩:=yoq hf;obtain ⟨t1,t2⟩:=NY hf hq1 hq2;rw[←hq3] at t1 t2;have hbr:yy (Mc .zero a)=Mc .zero a:=NW (xv (by rw[hq3,(jk (ng a) q om).1];omega));refine zc func118 rfl ntmps118 rfl ?_;obtain ⟨HF,LW,ak,E⟩:=bg w;replace HF:=HF.and (Per.aH hx);refine zi ?_;intro aG w2 aA aK aP;obtain ⟨HF,LW,E⟩:=bD HF LW E ak aA aK;refine lT ?_;refine bO rfl (zb zH rfl ((Qc A c _ hi (HF.on E).here.1.2).mono ?_));rintro e w3 ⟨rfl,hb⟩;refine ⟨_,rfl,?_⟩;replace E:=bT E hb;refine yu ?_;refine zh rfl ig rfl (jj _ a ha) E fun w4 E=>(zf 23 (.bool false) rfl (by rw[decide_eq_false om]<;>rfl) (yi ?_));refine za rfl (zb aA5 rfl ((sw _ a ha hf).mono ?_));rintro e w5 ⟨A2,c2,rfl,o2,hb⟩;refine ⟨_,rfl,?_⟩;have XC:∀q9,(No) q9→q9<w4.heap.size:=aj.none_;replace E:=bT E hb;obtain ⟨HF,LW,E⟩:=cO HF LW E ak (Per.own o2 XC);refine zn ?_;refine yq ?_;intro dM w7 dG bZ dF;obtain ⟨dF,HF,E,ak⟩:=bJ HF LW E ak bZ dF;refine zk (yb kw rfl rfl dG rfl rfl (Nat.le_of_ble_eq_true rfl) ?_);intro w8 Bx bZ;replace dG:=Bx;replace E:=E.step1 bZ aj.head;obtain ⟨HF,LW,ak,E⟩:=dx HF LW E ak (Y:=No) (aj.skip aj.aU) (Per.aW dG ah.nil);refine yi ?_;refine zh rfl aA4 rfl (aH5 A2 A c2 c _ (zmv hf) hi (HF.on E).here.1.2 (HF.on E).here.1.1.1.2) E fun w9 E=>(qd ?_);refine zg rfl (fun hc=>?_) (fun hc=>?_)
 ·
  have hc:=bne_iff_ne.1 hc;refine zz ?_;exact ⟨by rw[Ui,if_pos hc];rfl,(LW.step E ak).toBelow⟩
 ·
  have hc:zY (vw a) i=0:=by simpa using hc
  refine zl ?_;refine za rfl (zb aA8 rfl ((sj _ a hf).mono ?_));rintro e dH ⟨rfl,hb⟩;refine ⟨_,rfl,?_⟩;replace E:=bT E hb;refine zh rfl Rm rfl (ypk _ (Mc .zero a)) E fun dQ E=>(zf 42 (.int .u64 ((Mc .zero a:Nat):Int)) rfl (by rw[hbr]<;>rfl) (zh rfl ai2 rfl (rP _ a (Mc .zero a)) E fun eG E=>(oh ?_)));exact ⟨by rw[Ui,if_neg (by rw[hc];decide),←t1];rfl,(LW.step E ak).toBelow⟩
end
end
def wH (a:Nat) (n1:Bool) (xs:List Nat):Bool:=!(bI a)&&zr n1 xs
noncomputable def yG (a:Nat) (n1:Bool) (xs:List Nat):Int:=if wH a n1 xs then (if rg a=9218868437227405312 then ab2 a else Ui a (num n1 xs)) else 0
section
variable (w:World) (a:Nat) (ha:a<18446744073709551616) (n1:Bool) (A:Option Addr) (c:Nat) (xs:List Nat) (hx:aC w A xs) (hl:xs.length≤9223372036854775807)
include ha hx hl
theorem lU:Calls prog 118 #[.int .u64 ((a:Nat):Int),.agg #[.bool n1,.slice A xs.length c]] w (aI w (.tuple #[.int .i64 (yG a n1 xs),.bool (wH a n1 xs)])):=by
 cases hn:bI a with
 | true=>
  have h:wH a n1 xs=false:=by rw[wH,hn];rfl
  rw[yG,h,if_neg de];exact Hu w a ha n1 A c xs hx hl hn
 | false=>
  cases hg:zr n1 xs with
  | false=>
   have h:wH a n1 xs=false:=by rw[wH,hg,Bool.and_false]
   rw[yG,h,if_neg de];exact Hw w a ha n1 A c xs hx hl hn hg
  | true=>
   have h:wH a n1 xs=true:=by rw[wH,hn,hg];rfl
   rw[yG,h,if_pos rfl];obtain ⟨i,rfl,rfl,hi⟩:=qlv hg;rw[ji];by_cases kX:rg a=9218868437227405312
   · rw[if_pos kX];exact Hy w a ha i A c hi hx hn kX
   · rw[if_neg kX];have h1:=of_decide_eq_false hn;exact Hz w a ha i A c hi hx hn om
end
end Go.Proofs.YtmnmebdmpigddaaGreatDoor
namespace Go.Proofs.YtmnmebdmpigddaaGreatDoor
open Go.RowKit Proofs.Tryz
theorem lW {P Q:Prop} (k:Q) (h:(Unit→Q)→P:=by
 intro zK;refine zm ?_;refine bO rfl (qjv u9 rfl ?_);exact zK ()):P:=h fun _=>k
theorem lX {P Q:Prop} (k:Q) (h:(Unit→Q)→P:=by
 intro zK;refine za rfl (jF u24 rfl kw rfl (HF.on E).here.2 rfl rfl ?_);exact zK ()):P:=h fun _=>k
theorem qxz {P:Prop} (h:P:=by
 refine jY ?_;exact fU):P:=h
theorem yfq {P:Prop} (h:P:=by
 refine yi ?_;exact fU):P:=h
theorem Uk {P:Prop} (h:P:=by
 refine yu ?_;exact fU):P:=h
theorem akj {P:Prop} (h:P:=by
 refine bO rfl (ydx rfl rfl (zx ?_));refine vr rfl (fun h3=>?_) (fun h3=>?_)
 ·
  refine yi ?_;exact fU
 ·
  refine Qa ?_;exact al0):P:=h
theorem al0 {P:Prop} (h:P:=by
 refine zj 51 rfl (fun h4=>?_) (fun h4=>?_)
 ·
  refine zp ?_;refine zj 58 rfl (fun h5=>?_) (fun h5=>?_)
  ·
   replace h5:=eq_of_beq h5;refine zm ?_;refine bO rfl (qjv u9 rfl (yi ?_));exact fU
  ·
   replace h5:=beq_eq_false_iff_ne.1 h5;refine yu ?_;exact fU
 ·
  refine Qa ?_;exact fU):P:=h
theorem fU {P:Prop} (h:P:=by
 exact ⟨by refine congrArg (fun z=>Ending.returned (.bool z)) ?_;first | (simp_all[PV.good,gr0];done) | (simp_all[PV.good,gr0];omega),(LW.step E ak).toBelow⟩):P:=h
attribute [local irreducible] OW RS CW EW
theorem gr0 {n:Nat} (h:0<n):n≠0:=om
theorem zjx {s:ByteArray} (h:s.toList= []):s.size=0:=by
 have h1:=congrArg List.length h;rw[ByteArray.toList_eq] at h1;exact h1
section
variable (w:World) (k:Int) (yes neg:Bool) (A B:Option Addr) (xs:List Nat) (c bits ni d:Nat) (s:ByteArray) (hx:aC w A xs) (hl:xs.length≤9223372036854775807)
include hx hl
theorem N7:Calls prog 28 #[.agg #[.int .i64 k,.bool yes,.bool neg,.slice A xs.length c,.int .u64 ((bits:Nat):Int),.string s,.slice B ni d]] w (aI w (.bool (PV.good ⟨k,yes,neg,xs,bits,s,ni⟩))):=by
 refine zc func28 rfl ntmps28 rfl ?_;obtain ⟨HF,LW,ak,E⟩:=bg w;replace HF:=HF.and (Per.aH hx);refine zi ?_;intro aG w2 aA aK aP;obtain ⟨HF,LW,E⟩:=bD HF LW E ak aA aK;refine vp ?_;refine vr rfl (fun h1=>?_) (fun h1=>?_)
 ·
  replace h1:=of_decide_eq_true h1;exact yfq
 ·
  replace h1:=of_decide_eq_false h1;refine qd ?_;refine zj 12 rfl (fun h2=>?_) (fun h2=>?_)
  ·
   refine zO ?_;refine vr rfl (fun h3=>?_) (fun h3=>?_)
   ·
    replace h3:=eq_of_beq h3;subst h3;refine zl ?_;refine zj 26 rfl (fun h4=>?_) (fun h4=>?_)
    ·
     refine zn ?_;refine zj 29 rfl (fun h5=>?_) (fun h5=>?_)
     ·
      replace h5:=eq_of_beq h5;refine zu ?_;refine zj 34 rfl (fun h6=>?_) (fun h6=>?_)
      ·
       replace h6:=eq_of_beq h6;exact Uk
      ·
       replace h6:=beq_eq_false_iff_ne.1 h6;exact Uk
     ·
      replace h5:=beq_eq_false_iff_ne.1 h5;refine oh ?_;exact fU
    ·
     refine rA ?_;exact fU
   ·
    replace h3:=beq_eq_false_iff_ne.1 h3;refine zl ?_;refine vr rfl (fun h7=>?_) (fun h7=>?_)
    ·
     replace h7:=eq_of_beq h7;subst h7;refine zx ?_;refine zj 42 rfl (fun h8=>?_) (fun h8=>?_)
     ·
      replace h8:=eq_of_beq h8;refine zu ?_;refine zj 47 rfl (fun h9=>?_) (fun h9=>?_)
      ·
       replace h9:=eq_of_beq h9;exact Uk
      ·
       replace h9:=beq_eq_false_iff_ne.1 h9;exact Uk
     ·
      replace h8:=beq_eq_false_iff_ne.1 h8;refine oh ?_;exact fU
    ·
     replace h7:=beq_eq_false_iff_ne.1 h7;refine zl ?_;refine vr rfl (fun h10=>?_) (fun h10=>?_)
     ·
      replace h10:=eq_of_beq h10;subst h10;refine zn ?_;refine lX ?_;refine zh rfl zH rfl (yr neg c _ A xs hl (HF.on E).here.1.2) E fun w3 E=>(aN ?_);refine zj 57 rfl (fun h11=>?_) (fun h11=>?_)
      ·
       refine zu ?_;refine zj 62 rfl (fun h12=>?_) (fun h12=>?_)
       ·
        refine zu ?_;refine zj 67 rfl (fun h13=>?_) (fun h13=>?_)
        ·
         replace h13:=eq_of_beq h13;exact Uk
        ·
         replace h13:=beq_eq_false_iff_ne.1 h13;exact Uk
       ·
        refine oh ?_;exact fU
      ·
       refine Ka ?_;exact fU
     ·
      replace h10:=beq_eq_false_iff_ne.1 h10;refine zl ?_;refine vr rfl (fun h14=>?_) (fun h14=>?_)
      ·
       replace h14:=eq_of_beq h14;subst h14;refine zx ?_;refine zj 75 rfl (fun h15=>?_) (fun h15=>?_)
       ·
        replace h15:=eq_of_beq h15;refine zu ?_;refine zj 80 rfl (fun h16=>?_) (fun h16=>?_)
        ·
         exact Uk
        ·
         exact Uk
       ·
        replace h15:=beq_eq_false_iff_ne.1 h15;refine oh ?_;exact fU
      ·
       replace h14:=beq_eq_false_iff_ne.1 h14;refine zl ?_;refine vr rfl (fun h17=>?_) (fun h17=>?_)
       ·
        replace h17:=eq_of_beq h17;subst h17;refine zx ?_;refine zj 88 rfl (fun h18=>?_) (fun h18=>?_)
        ·
         replace h18:=eq_of_beq h18;refine zu ?_;refine zj 93 rfl (fun h19=>?_) (fun h19=>?_)
         ·
          refine zu ?_;refine zj 98 rfl (fun h20=>?_) (fun h20=>?_)
          ·
           replace h20:=eq_of_beq h20;refine lW ?_;refine qd ?_;exact fU
          ·
           replace h20:=beq_eq_false_iff_ne.1 h20;refine vp ?_;exact fU
         ·
          refine Mq ?_;exact fU
        ·
         replace h18:=beq_eq_false_iff_ne.1 h18;refine Mr ?_;exact fU
       ·
        replace h17:=beq_eq_false_iff_ne.1 h17;refine zz ?_;exact fU
  ·
   refine zO ?_;refine vr rfl (fun h21=>?_) (fun h21=>?_)
   ·
    replace h21:=eq_of_beq h21;subst h21;refine zl ?_;refine zj 26 rfl (fun h22=>?_) (fun h22=>?_)
    ·
     refine rA ?_;exact fU
    ·
     refine rA ?_;exact fU
   ·
    replace h21:=beq_eq_false_iff_ne.1 h21;refine zl ?_;refine vr rfl (fun h23=>?_) (fun h23=>?_)
    ·
     replace h23:=eq_of_beq h23;subst h23;exact qxz
    ·
     replace h23:=beq_eq_false_iff_ne.1 h23;refine zl ?_;refine vr rfl (fun h24=>?_) (fun h24=>?_)
     ·
      replace h24:=eq_of_beq h24;subst h24;refine zn ?_;refine lX ?_;refine zh rfl zH rfl (yr neg c _ A xs hl (HF.on E).here.1.2) E fun w4 E=>(aN ?_);refine zj 57 rfl (fun h25=>?_) (fun h25=>?_)
      ·
       refine zu ?_;refine zj 62 rfl (fun h26=>?_) (fun h26=>?_)
       ·
        refine zu ?_;refine zj 67 rfl (fun h27=>?_) (fun h27=>?_)
        ·
         replace h27:=eq_of_beq h27;exact Uk
        ·
         replace h27:=beq_eq_false_iff_ne.1 h27;exact Uk
       ·
        refine oh ?_;exact fU
      ·
       refine Ka ?_;exact fU
     ·
      replace h24:=beq_eq_false_iff_ne.1 h24;refine zl ?_;refine vr rfl (fun h28=>?_) (fun h28=>?_)
      ·
       replace h28:=eq_of_beq h28;subst h28;exact qxz
      ·
       replace h28:=beq_eq_false_iff_ne.1 h28;refine zl ?_;refine vr rfl (fun h29=>?_) (fun h29=>?_)
       ·
        replace h29:=eq_of_beq h29;subst h29;refine Kc ?_;exact fU
       ·
        replace h29:=beq_eq_false_iff_ne.1 h29;refine zz ?_;exact fU
theorem rg0:Calls prog 12 #[.agg #[.int .i64 0,.bool yes,.bool neg,.slice A xs.length c,.int .u64 ((bits:Nat):Int),.string s,.slice B ni d]] w (aI w (.bool (PV.good ⟨0,yes,neg,xs,bits,s,ni⟩))):=by
 have _:=hx;have _:=hl;have hs0:s.toList= []→s.size=0:=zjx;refine zc func12 rfl ntmps12 rfl ?_;obtain ⟨HF,LW,ak,E⟩:=bg w;replace HF:=HF.and (Per.aH hx);refine zi ?_;intro aG w2 aA aK aP;obtain ⟨HF,LW,E⟩:=bD HF LW E ak aA aK;refine Mr ?_;refine vr rfl (fun h1=>?_) (fun h1=>?_)
 ·
  exact yfq
 ·
  refine jt ?_;refine zj 24 rfl (fun h2=>?_) (fun h2=>?_)
  ·
   refine zP ?_;exact fU
  ·
   refine zz ?_;refine zj 34 rfl (fun h3=>?_) (fun h3=>?_)
   ·
    exact qxz
   ·
    refine zl ?_;refine bO rfl (ydx rfl rfl (zx ?_));refine vr rfl (fun h4=>?_) (fun h4=>?_)
    ·
     exact yfq
    ·
     refine Qa ?_;refine zj 51 rfl (fun h5=>?_) (fun h5=>?_)
     ·
      refine zp ?_;refine zj 58 rfl (fun h6=>?_) (fun h6=>?_)
      ·
       replace h6:=eq_of_beq h6;refine lW ?_;exact yfq
      ·
       replace h6:=beq_eq_false_iff_ne.1 h6;exact Uk
     ·
      refine Qa ?_;exact fU
theorem rg1:Calls prog 12 #[.agg #[.int .i64 1,.bool yes,.bool neg,.slice A xs.length c,.int .u64 ((bits:Nat):Int),.string s,.slice B ni d]] w (aI w (.bool (PV.good ⟨1,yes,neg,xs,bits,s,ni⟩))):=by
 have _:=hx;have _:=hl;have hs0:s.toList= []→s.size=0:=zjx;refine zc func12 rfl ntmps12 rfl ?_;obtain ⟨HF,LW,ak,E⟩:=bg w;replace HF:=HF.and (Per.aH hx);refine zi ?_;intro aG w2 aA aK aP;obtain ⟨HF,LW,E⟩:=bD HF LW E ak aA aK;refine Mr ?_;refine vr rfl (fun h1=>?_) (fun h1=>?_)
 ·
  exact yfq
 ·
  refine zO ?_;refine zj 34 rfl (fun h2=>?_) (fun h2=>?_)
  ·
   exact qxz
  ·
   refine zl ?_;exact akj
theorem rg2:Calls prog 12 #[.agg #[.int .i64 2,.bool yes,.bool neg,.slice A xs.length c,.int .u64 ((bits:Nat):Int),.string s,.slice B ni d]] w (aI w (.bool (PV.good ⟨2,yes,neg,xs,bits,s,ni⟩))):=by
 have _:=hx;have _:=hl;have hs0:s.toList= []→s.size=0:=zjx;refine zc func12 rfl ntmps12 rfl ?_;obtain ⟨HF,LW,ak,E⟩:=bg w;replace HF:=HF.and (Per.aH hx);refine zi ?_;intro aG w2 aA aK aP;obtain ⟨HF,LW,E⟩:=bD HF LW E ak aA aK;refine Mr ?_;refine vr rfl (fun h1=>?_) (fun h1=>?_)
 ·
  exact yfq
 ·
  refine jt ?_;refine zj 24 rfl (fun h2=>?_) (fun h2=>?_)
  ·
   refine zP ?_;exact fU
  ·
   refine zz ?_;refine zj 34 rfl (fun h3=>?_) (fun h3=>?_)
   ·
    exact qxz
   ·
    refine zl ?_;refine bO rfl (ydx rfl rfl (zx ?_));refine vr rfl (fun h4=>?_) (fun h4=>?_)
    ·
     exact yfq
    ·
     refine oh ?_;refine lX ?_;refine zh rfl aqz rfl (qtx neg c _ A xs hl (HF.on E).here.1.2) E fun w3 E=>(zu ?_);exact fU
theorem rg3:Calls prog 12 #[.agg #[.int .i64 3,.bool yes,.bool neg,.slice A xs.length c,.int .u64 ((bits:Nat):Int),.string s,.slice B ni d]] w (aI w (.bool (PV.good ⟨3,yes,neg,xs,bits,s,ni⟩))):=by
 have _:=hx;have _:=hl;have hs0:s.toList= []→s.size=0:=zjx;refine zc func12 rfl ntmps12 rfl ?_;obtain ⟨HF,LW,ak,E⟩:=bg w;replace HF:=HF.and (Per.aH hx);refine zi ?_;intro aG w2 aA aK aP;obtain ⟨HF,LW,E⟩:=bD HF LW E ak aA aK;refine Mr ?_;refine vr rfl (fun h1=>?_) (fun h1=>?_)
 ·
  exact yfq
 ·
  refine jt ?_;refine zj 24 rfl (fun h2=>?_) (fun h2=>?_)
  ·
   refine zP ?_;exact fU
  ·
   refine oh ?_;exact akj
theorem rg4:Calls prog 12 #[.agg #[.int .i64 4,.bool yes,.bool neg,.slice A xs.length c,.int .u64 ((bits:Nat):Int),.string s,.slice B ni d]] w (aI w (.bool (PV.good ⟨4,yes,neg,xs,bits,s,ni⟩))):=by
 have _:=hx;have _:=hl;have hs0:s.toList= []→s.size=0:=zjx;refine zc func12 rfl ntmps12 rfl ?_;obtain ⟨HF,LW,ak,E⟩:=bg w;replace HF:=HF.and (Per.aH hx);refine zi ?_;intro aG w2 aA aK aP;obtain ⟨HF,LW,E⟩:=bD HF LW E ak aA aK;refine Mr ?_;refine vr rfl (fun h1=>?_) (fun h1=>?_)
 ·
  exact yfq
 ·
  refine jt ?_;refine zj 24 rfl (fun h2=>?_) (fun h2=>?_)
  ·
   refine zP ?_;exact fU
  ·
   refine zz ?_;refine zj 34 rfl (fun h3=>?_) (fun h3=>?_)
   ·
    exact qxz
   ·
    refine zP ?_;exact al0
theorem rgx (hk:k<0∨4<k):Calls prog 12 #[.agg #[.int .i64 k,.bool yes,.bool neg,.slice A xs.length c,.int .u64 ((bits:Nat):Int),.string s,.slice B ni d]] w (aI w (.bool (PV.good ⟨k,yes,neg,xs,bits,s,ni⟩))):=by
 have _:=hx;have _:=hl;have e:PV.good ⟨k,yes,neg,xs,bits,s,ni⟩=false:=by unfold PV.good;simp only[];rw[if_neg om,if_neg om,if_neg om,if_neg om,if_neg om,Bool.and_false]
 rw[e];refine zc func12 rfl ntmps12 rfl ?_;obtain ⟨HF,LW,ak,E⟩:=bg w;refine zi ?_;intro aG w2 aA aK aP;obtain ⟨HF,LW,E⟩:=bD HF LW E ak aA aK;refine zz ?_;by_cases q0:k<0
 ·
  refine zf 6 (.bool true) rfl (by rw[decide_eq_true q0]<;>rfl) (Ka ?_);exact xj
 ·
  refine zf 6 (.bool false) rfl (by rw[decide_eq_false q0]<;>rfl) (zu ?_);refine zf 11 (.bool true) rfl (by rw[decide_eq_true om]<;>rfl) (oh ?_);exact xj
theorem H7:Calls prog 12 #[.agg #[.int .i64 k,.bool yes,.bool neg,.slice A xs.length c,.int .u64 ((bits:Nat):Int),.string s,.slice B ni d]] w (aI w (.bool (PV.good ⟨k,yes,neg,xs,bits,s,ni⟩))):=by
 by_cases hk:k<0∨4<k
 · exact rgx w k yes neg A B xs c bits ni d s hx hl hk
 · obtain rfl | rfl | rfl | rfl | rfl:k=0∨k=1∨k=2∨k=3∨k=4:=om
   · exact rg0 w yes neg A B xs c bits ni d s hx hl
   · exact rg1 w yes neg A B xs c bits ni d s hx hl
   · exact rg2 w yes neg A B xs c bits ni d s hx hl
   · exact rg3 w yes neg A B xs c bits ni d s hx hl
   · exact rg4 w yes neg A B xs c bits ni d s hx hl
end
end Go.Proofs.YtmnmebdmpigddaaGreatDoor
namespace Go.Proofs.YtmnmebdmpigddaaGreatDoor
open Go.RowKit Proofs.Tryz
theorem Ce {P Q:Prop} (k:Q) (h:(Unit→Q)→P:=by
 intro zK;refine zn ?_;refine gr (rs:=[.cell 2 28]) (vs:=[_]) rfl ⟨⟨_,rfl,ycv u28 rfl ku B2e rfl⟩,trivial⟩ ?_;exact zK ()):P:=h fun _=>k
theorem zv {P Q:Prop} (k:Q) (h:(Unit→Q)→P:=by
 intro zK;refine za rfl (zbx EU ?_);exact zK ()):P:=h fun _=>k
attribute [local irreducible] OW RS CW EW
theorem Oa {b:Nat} (hb:b<18446744073709551616):yy (qf (yy (qf b)))=yy b:=by
 have e1:bI (qf b)=bI b:=zqq hb;have hb2:=(zfq hb).2.2;by_cases h:bI b=true
 · have e2:bI (qf 9221120237041090560)=true:=by rw[zqq de];decide
   unfold yy;rw[if_pos (e1.trans h),if_pos e2,if_pos h]
 · have h2:¬bI (qf b)=true:=by rw[e1];exact h
   have h3:¬bI (qf (qf b))=true:=by rw[zqq hb2];exact h2
   unfold yy;rw[if_neg h2,if_neg h3,if_neg h];unfold qf;rw[Nat.xor_assoc,Nat.xor_self,Nat.xor_zero]
theorem zpz (w:World) (b:Nat) (hb:b<18446744073709551616):Calls prog 27 #[.int .u64 ((b:Nat):Int)] w (aI w (.agg #[.int .i64 3,.bool false,.bool false,.slice none 0 0,.int .u64 ((yy b:Nat):Int),.string ⟨#[]⟩,.slice none 0 0])):=by
 refine zc func27 rfl ntmps27 rfl (zm ?_);refine zv ?_;rintro g2 wB B2 E2 G2;refine zl ?_;refine za rfl (zb ar1 rfl ((qvv _ b hb).mono ?_));rintro e w1 ⟨rfl,hb⟩;refine ⟨_,rfl,?_⟩;have E3:=E2.trans (Ext.of_below hb No);have B3:=B2.ext (Ext.of_below hb No) (fun h=>h.elim);by_cases hn:bI b=true
 ·
  refine zf 4 (.bool true) rfl (by rw[hn]<;>rfl) (zz ?_);refine za rfl (qn (cs:=#[.int .i64 3,.bool false,.bool false,.slice none 0 0,.int .u64 9221120237041090560,.string ⟨#[]⟩,.slice none 0 0]) EX EU rfl rfl (zk (zw ku rfl rfl B3 rfl rfl rfl ?_)));rintro wC B2e E4;refine Ce ?_;exact ⟨by unfold yy;rw[if_pos hn];rfl,((E3.noL w.heap.size).step E4 (fun q hq=>Or.inl (show w.heap.size≤q by have:=pV hq;omega))).below (fun _ h=>h)⟩
 ·
  have hn':bI b=false:=by cases h9:bI b<;>simp_all
  refine zf 4 (.bool false) rfl (by rw[hn']<;>rfl) (yi ?_);refine za rfl (qn (cs:=#[.int .i64 3,.bool false,.bool false,.slice none 0 0,.int .u64 ((b:Nat):Int),.string ⟨#[]⟩,.slice none 0 0]) EX EU rfl rfl (zk (zw ku rfl rfl B3 rfl rfl rfl ?_)));rintro wC B2e E4;refine Ce ?_;exact ⟨by unfold yy;rw[if_neg hn];rfl,((E3.noL w.heap.size).step E4 (fun q hq=>Or.inl (show w.heap.size≤q by have:=pV hq;omega))).below (fun _ h=>h)⟩
end Go.Proofs.YtmnmebdmpigddaaGreatDoor
namespace Go.Proofs.YtmnmebdmpigddaaGreatDoor
open Go.RowKit Proofs.Tryz
theorem qcv {P Q:Prop} (k:Q) (h:(Unit→Q)→P:=by
 intro zK;refine za rfl (vo (z:=0) rfl rfl kr ?_);exact zK ()):P:=h fun _=>k
theorem Ch {P Q:Prop} (k:Q) (h:(Unit→Q)→P:=by
 intro zK;refine za rfl (uV (z:=((mg (nr (rg a)):Nat):Int)) u25 (by rw[pW];rfl) rfl fz (zl ?_));refine yl ?_;refine Ux ?_;exact zK ()):P:=h fun _=>k
theorem l6 {P Q:Prop} (k:Q) (h:(Unit→Q)→P:=by
 intro zK;refine xo ?_;refine zn ?_;refine zd 14 (.bool false) rfl (by rw[kp,xv hf]<;>rfl) (zx ?_);exact zK ()):P:=h fun _=>k
theorem zxz {P Q:Prop} (k:Q) (h:(Unit→Q)→P:=by
 intro zK;refine za rfl (xr (z:=0) rfl rfl kr ?_);exact zK ()):P:=h fun _=>k
theorem ykz {P Q:Prop} (k:Q) (h:(Unit→Q)→P:=by
 intro zK;refine za rfl (jh (z:=0) rfl rfl de kr ?_);exact zK ()):P:=h fun _=>k
theorem qev {P Q:Prop} (k:Q) (h:(Unit→Q)→P:=by
 intro zK;refine yi ?_;refine zkq ?_;refine vp ?_;refine za rfl (vfx rfl rfl (zm ?_));exact zK ()):P:=h fun _=>k
theorem l7 {P Q:Prop} (k:Q) (h:(Unit→Q)→P:=by
 intro zK;refine zf 20 (.bool false) rfl (by rw[decide_eq_false om]<;>rfl) (zz ?_);refine za rfl (zb Rq rfl ((vP _ a ha).mono ?_));exact zK ()):P:=h fun _=>k
theorem Ux {P Q:Prop} (k:Q) (h:(Unit→Q)→P:=by
 intro zK;refine za rfl (LU (z:=(qD (rg a)-53).tmod 31) rfl rfl de rfl (yo ?_));refine za rfl (LU (z:=((k:Nat):Int)) rfl rfl de (by rw[t1,hk]) (zl ?_));refine za rfl (LU (z:=((mg (nr (rg a))%2147483647:Nat):Int)) rfl rfl de (qcx _ 2147483647) (aN ?_));refine za rfl (gq rfl rfl om (ZQ 1 k om) (zf 41 (.int .u64 ((2^k:Nat):Int)) rfl (by rw[Nat.one_mul,Nat.mod_eq_of_lt om]<;>rfl) ?_));exact zK ()):P:=h fun _=>k
theorem Uy {P:Prop} (h:P:=by
 refine zp ?_;exact ⟨by rw[Uz,if_neg (by rw[hn];decide),h,if_pos hi];rfl,(LW.step E ak).toBelow⟩):P:=h
theorem al3 {P:Prop} (h:P:=by
 refine zf 48 (.int .u64 ((vbv (rg a):Nat):Int)) rfl (by rw[xx rfl rfl,←hpr]<;>rfl) (za rfl (jp underlying3 u25 rfl (yx om) (za rfl (xr rfl rfl (yx om) (zu ?_)))));exact ⟨by rw[Uz,if_neg (by rw[xv hf];decide),h,if_neg hni];rfl,(LW.step E ak).toBelow⟩):P:=h
attribute [local irreducible] OW RS CW EW
theorem Ib {w w':World} (h:w=w'):Below w.heap.size w w':=by subst h;exact Below.refl _ _
theorem qlx (x y:Nat) (hx:x<18446744073709551616) (hy:y<18446744073709551616) (w:World) :
 Calls prog 114 #[.int .u64 x,.int .u64 y] w fun e w'=>e= .returned (.tuple #[.int .u64 ((x*y/18446744073709551616:Nat):Int),.int .u64 ((x*y%18446744073709551616:Nat):Int)])∧Below w.heap.size w w':=
 (rM x y hx hy w).mono fun _ _ ⟨h1,h2⟩=>⟨h1,Ib h2⟩
theorem av1 (x:Int):(x.tmod 31+31).tmod 31=x%31∧ -31<x.tmod 31∧x.tmod 31<31:=by
 rcases Int.lt_or_le x 0 with h | h
 · obtain ⟨y,rfl⟩:∃y:Int,x= -y:=⟨-x,om⟩;have e:(-y).tmod 31= -(y%31):=by rw[Int.neg_tmod,Int.tmod_eq_emod_of_nonneg om]
   rw[e,Int.tmod_eq_emod_of_nonneg om];omega
 · rw[Int.tmod_eq_emod_of_nonneg h,Int.tmod_eq_emod_of_nonneg om];omega
def Uz (a:Nat):Int:=if bI a then 0 else (if ng a then -1 else 1)*(if rg a=9218868437227405312 then 314159 else ((vbv (rg a):Nat):Int))
theorem Ic:vbv 0=0:=de
theorem UA (r:Nat):vbv r<2147483647:=Nat.mod_lt _ de
theorem Oc {r:Nat} (hr:r<9223372036854775808) (h0:r≠0):mg (nr r)%2147483647*2^((qD r-53)%31).toNat%2147483647=vbv r:=by
 obtain ⟨h1,_⟩:=yrk hr;have:=Nt (a:=r) (by rw[h1];exact h0);rw[h1] at this;rw[←this,fm,h1,Nat.mul_mod,Nat.mod_mod,←Nat.mul_mod]
theorem ab5:Gives 114 #[.int .u64 0,.int .u64 512] (.tuple #[.int .u64 0,.int .u64 0]):=by
 intro w;refine zc func114 rfl ntmps114 rfl ?_;have LW:=aD (No) w;have ak:=aS (No) w;have E:=aD (No) w;refine qd ?_;refine qdx ?_;refine zl ?_;refine ykz ?_;refine zl ?_;refine za rfl (gf (z:=512) rfl rfl kr (zl ?_));refine ykz ?_;refine zp ?_;refine zxz ?_;refine zp ?_;refine zxz ?_;refine aN ?_;refine ykz ?_;refine qcv ?_;refine zl ?_;refine qdx ?_;refine zl ?_;refine ykz ?_;refine yi ?_;refine zxz ?_;refine qcv ?_;refine zp ?_;refine zxz ?_;refine aN ?_;refine qcv ?_;refine aN ?_;refine ykz ?_;refine qcv ?_;refine zp ?_;refine zxz ?_;refine zx ?_;refine gr (rs:=[.tmp 4,.tmp 5]) (vs:=[.int .u64 0,.int .u64 0]) rfl ⟨rfl,rfl,trivial⟩ ?_;exact xj
theorem ab6:Gives 146 #[.int .u64 0,.int .u64 0,.int .u64 2147483647] (.tuple #[.int .u64 0,.int .u64 0]):=by
 intro w;refine zc func146 rfl ntmps146 rfl ?_;have LW:=aD (No) w;have ak:=aS (No) w;have E:=aD (No) w;refine aDx ?_;have OY:∀q9,(aj (oa [])) q9→q9<(World.drew w).heap.size→(No) q9:=fun k h _=>(aj.none_) k h;refine qm (No) aj.none_ [] [] (fQ [Fx.of (.int .u64 0),
  Fx.of (.int .u64 2147483647),
  Fx.of (.int .u64 0),
  Fx.of (.int .u64 0),
  Fx.of (.int .u64 2147483647),
  Fx.of (.int .u64 0),
  Fx.of (.int .u64 0),
  Fx.of (.int .u64 0)]) mixed rfl trivial (fun _ h=>by cases h) ?_ ?_
 · refine ⟨arm,arm,?_,arm,arm,?_,arm,arm,trivial⟩
   · refine qq ?_;intro vs X wq K;exact qaq (z:=0) rfl rfl de kr ⟨Below.refl _ _,Left.of rfl⟩
   · refine qq ?_;intro vs X wq K;exact LU (z:=0) rfl rfl de kr ⟨Below.refl _ _,Left.of rfl⟩
 intro vs w1 LE AO AL AF AA;replace E:=E.drew.trans (LE.mono OY);obtain ⟨_,e6,k6⟩:=AL.2.2.2.2.2.2.1;obtain ⟨_,e7,k7⟩:=AL.2.2.2.2.2.2.2.1;refine ja (τ:=[(0,_),(1,_),(2,_),(6,.int .u64 0),(7,.int .u64 0)]) ⟨rfl,rfl,rfl,congrArg some e6,congrArg some e7,trivial⟩ ?_;clear AL AF AA LE AO OY e6 e7 k6 k7;refine zn ?_;refine gr (rs:=[.tmp 6,.tmp 7]) (vs:=[.int .u64 0,.int .u64 0]) rfl ⟨rfl,rfl,trivial⟩ ?_;exact xj
theorem ab7:Gives 115 #[.int .u64 0,.int .u64 0,.int .u64 2147483647] (.int .u64 0):=by
 intro w;refine zc func115 rfl ntmps115 rfl ?_;have LW:=aD (No) w;have ak:=aS (No) w;have E:=aD (No) w;refine qd ?_;refine za rfl (LU (z:=0) rfl rfl de kr (zm ?_));refine zh rfl ai7 rfl (ab6 _) E fun w1 E=>(jm ?_);refine gr (rs:=[.tmp 6]) (vs:=[.int .u64 0]) rfl ⟨rfl,trivial⟩ ?_;exact xj
theorem Oe (w:World) (a:Nat) (ha:a<18446744073709551616) (hf:rg a<9218868437227405312) (h0:rg a=0):Calls prog 62 #[.int .u64 ((a:Nat):Int)] w (aI w (.int .i64 (Uz a))):=by
 have hp:pc a=0:=by unfold pc;split<;>omega
 have hlt:(xg a 0==some .lt)=false:=by rw[zzv (xv hf) de,hp];decide
 have hF:Uz a=0:=by
  have e:(if rg a=9218868437227405312 then 314159 else ((vbv (rg a):Nat):Int))=0:=by rw[if_neg om,h0,Ic];rfl
  rw[Uz,if_neg (by rw[xv hf];decide),e,Int.mul_zero]
 have hr:rg a<18446744073709551616:=om;refine zc func62 rfl ntmps62 rfl ?_;have LW:=aD (No) w;have ak:=aS (No) w;have E:=aD (No) w;refine qev ?_;refine zd 13 (.bool false) rfl (by rw[hlt]<;>rfl) (qd ?_);refine l6 ?_;refine zh rfl ig rfl (jj _ a ha) E fun w1 E=>(l7 ?_);rintro e w2 ⟨rfl,hb⟩;refine ⟨_,rfl,?_⟩;replace E:=bT E hb;refine zh rfl Rn rfl (lC _ (rg a) hr (by rw[kV];exact h0)) E fun w3 E=>(zz ?_);refine zh rfl Ro rfl (lD _ (rg a) hr (by rw[kV];exact h0) 53) E fun w4 E=>(za rfl (uV (z:=0) u25 (by rw[pW];rfl) rfl (by rw[h0];decide +kernel) (zl ?_)));refine za rfl (jg (z:=(-53)) rfl rfl kr (za rfl (LU (z:=(-22)) rfl rfl de kr (za rfl (vo (z:=9) rfl rfl kr (za rfl (LU (z:=9) rfl rfl de kr (zl ?_))))))));refine za rfl (LU (z:=0) rfl rfl de kr (aN ?_));refine za rfl (gq (z:=512) rfl rfl de kr (zh rfl rz rfl (ab5 _) E fun w5 E=>(vp ?_)));refine zh rfl J7 rfl (ab7 _) E fun w6 E=>(za rfl (jp (z:=0) underlying3 u25 rfl kr (zxz ?_)));refine zu ?_;exact ⟨by rw[hF];rfl,(LW.step E ak).toBelow⟩
section
variable (w:World) (a:Nat) (ha:a<18446744073709551616)
include ha
theorem UC (hn:bI a=true):Calls prog 62 #[.int .u64 ((a:Nat):Int)] w (aI w (.int .i64 (Uz a))):=by
 have _:=ha;refine zc func62 rfl ntmps62 rfl ?_;have LW:=aD (No) w;have ak:=aS (No) w;have E:=aD (No) w;refine qev ?_;refine zd 13 (.bool false) rfl (by rw[Bl hn]<;>rfl) (qd ?_);refine xo ?_;refine zn ?_;refine zd 14 (.bool true) rfl (by rw[kp,hn]<;>rfl) (zz ?_);exact ⟨by rw[Uz,if_pos hn];rfl,(LW.step E ak).toBelow⟩
theorem UD (hi:rg a=9218868437227405312):Calls prog 62 #[.int .u64 ((a:Nat):Int)] w (aI w (.int .i64 (Uz a))):=by
 have hn:bI a=false:=decide_eq_false om;refine zc func62 rfl ntmps62 rfl ?_;have LW:=aD (No) w;have ak:=aS (No) w;have E:=aD (No) w;refine qev ?_;refine zd 13 (.bool (ng a)) rfl (by rw[Bj hn om]<;>rfl) (zg rfl (fun h=>?_) (fun h=>?_))
 ·
  refine zz ?_;refine xo ?_;refine zn ?_;refine zd 14 (.bool false) rfl (by rw[kp,hn]<;>rfl) (zx ?_);refine zh rfl ig rfl (jj _ a ha) E fun w1 E=>(zf 20 (.bool true) rfl (by rw[decide_eq_true hi]<;>rfl) (zp ?_));refine za rfl (xr (z:=(-314159)) rfl rfl kr ?_);exact Uy
 ·
  refine yi ?_;refine xo ?_;refine zn ?_;refine zd 14 (.bool false) rfl (by rw[kp,hn]<;>rfl) (zx ?_);refine zh rfl ig rfl (jj _ a ha) E fun w2 E=>(zf 20 (.bool true) rfl (by rw[decide_eq_true hi]<;>rfl) (zp ?_));refine za rfl (xr (z:=314159) rfl rfl kr ?_);exact Uy
section
variable (hf:rg a<9218868437227405312)
include hf
section
variable (h0:rg a≠0)
include h0
theorem UE:Calls prog 62 #[.int .u64 ((a:Nat):Int)] w (aI w (.int .i64 (Uz a))):=by
 have hr:rg a<18446744073709551616:=om;obtain ⟨f1,f2,f3⟩:=r9 hf h0;have f0:=(yrk (r:=iV (rg a)) om).1;have f00:=(yrk (r:=iV (rg a)) om).2;obtain ⟨fq1,fq2⟩:=ak8 (r:=rg a) h0;have fq3:vl (1074*4503599627370496+mg (nr (rg a)))=vl (iV (rg a))*2^53:=by rewrite [fq1,f3];exact qtv (p:=1074) (q:=1021) (s:=53) de _
 have hmg:=(lg h0).2;have fw:=jk (ng (iV (rg a))) (1074*4503599627370496+mg (nr (rg a))) om;have fz:floatToIntVal .f64 (Ieee.double.word (ng (iV (rg a))) (1074*4503599627370496+mg (nr (rg a)))) .u64=some ((mg (nr (rg a)):Nat):Int):=by
  have h1:=yjz (ng (iV (rg a))) fq2 fq1;have h2:=ZN (a:=Ieee.double.word (ng (iV (rg a))) (1074*4503599627370496+mg (nr (rg a)))) (by rw[fw.1];exact fq2) (by rw[fw.2.1];exact f00) (by rw[h1];omega);rw[h1] at h2;exact h2
 obtain ⟨b1,b2⟩:=NG hf;obtain ⟨t1,t2,t3⟩:=av1 (qD (rg a)-53);obtain ⟨k,hk⟩:∃k:Nat,(qD (rg a)-53)%31=(k:Int):=⟨((qD (rg a)-53)%31).toNat,om⟩;have hk31:k<31:=om;have hpr:=Oc (r:=rg a) (y5 a) h0;have hkt:((qD (rg a)-53)%31).toNat=k:=om;rw[hkt] at hpr;have hp2:2^k≤1073741824:=(Nat.pow_le_pow_right de (show k≤30 from om):2^k≤2^30);have hprod:mg (nr (rg a))%2147483647*2^k≤2147483647*1073741824:=Nat.mul_le_mul (Nat.le_of_lt (Nat.mod_lt _ de)) hp2;have hml:=UA (rg a);have hni:¬rg a=9218868437227405312:=om;refine zc func62 rfl ntmps62 rfl ?_;have LW:=aD (No) w;have ak:=aS (No) w;have E:=aD (No) w;refine qev ?_;refine zd 13 (.bool (ng a)) rfl (by rw[Bj (xv hf) h0]<;>rfl) (zg rfl (fun h=>?_) (fun h=>?_))
 ·
  refine zz ?_;refine l6 ?_;refine zh rfl ig rfl (jj _ a ha) E fun w1 E=>(l7 ?_);rintro e w2 ⟨rfl,hb⟩;refine ⟨_,rfl,?_⟩;replace E:=bT E hb;refine zh rfl Rn rfl (qyq _ (rg a) hr (by rw[kV];exact h0) (by rw[kV];exact hf)) E fun w3 E=>(zz ?_);refine zh rfl Ro rfl (qyz _ (iV (rg a)) om (by rw[f0];exact f2) (by rw[f0];exact f1) 53 (1074*4503599627370496+mg (nr (rg a))) de fq2 (by rw[f0];exact fq3)) E fun w4 E=>(Ch ?_);refine zh rfl rz rfl (qlx (mg (nr (rg a))%2147483647) (2^k) om om _) E fun w5 E=>(vp ?_);refine zh rfl J7 rfl (qtz _ (mg (nr (rg a))%2147483647*2^k/18446744073709551616) (mg (nr (rg a))%2147483647*2^k%18446744073709551616) om (Nat.mod_lt _ de)) E fun w6 E=>?_;exact al3
 ·
  refine yi ?_;refine l6 ?_;refine zh rfl ig rfl (jj _ a ha) E fun w7 E=>(l7 ?_);rintro e w8 ⟨rfl,hb⟩;refine ⟨_,rfl,?_⟩;replace E:=bT E hb;refine zh rfl Rn rfl (qyq _ (rg a) hr (by rw[kV];exact h0) (by rw[kV];exact hf)) E fun w9 E=>(zz ?_);refine zh rfl Ro rfl (qyz _ (iV (rg a)) om (by rw[f0];exact f2) (by rw[f0];exact f1) 53 (1074*4503599627370496+mg (nr (rg a))) de fq2 (by rw[f0];exact fq3)) E fun dH E=>(Ch ?_);refine zh rfl rz rfl (qlx (mg (nr (rg a))%2147483647) (2^k) om om _) E fun dQ E=>(vp ?_);refine zh rfl J7 rfl (qtz _ (mg (nr (rg a))%2147483647*2^k/18446744073709551616) (mg (nr (rg a))%2147483647*2^k%18446744073709551616) om (Nat.mod_lt _ de)) E fun eG E=>?_;exact al3
end
end
theorem UF:Calls prog 62 #[.int .u64 ((a:Nat):Int)] w (aI w (.int .i64 (Uz a))):=by
 cases hn:bI a with
 | true=>exact UC w a ha hn
 | false=>
  have h1:=of_decide_eq_false hn;by_cases hi:rg a=9218868437227405312
  · exact UD w a ha hi
  · by_cases h0:rg a=0
    · exact Oe w a ha om h0
    · exact UE w a ha om h0
end
end Go.Proofs.YtmnmebdmpigddaaGreatDoor
namespace Go.Proofs.YtmnmebdmpigddaaGreatDoor
open Go.RowKit Proofs.Tryz
theorem zjk {P Q:Prop} (k:Q) (h:(Unit→Q)→P:=by
 intro zK;refine za rfl (uy rfl (yx om) ?_);exact zK ()):P:=h fun _=>k
attribute [local irreducible] OW RS CW EW
theorem Ci {j:Int} (h0:j≠0):0<(limbs j).length:=by rw[qo];exact Y0 qj om
theorem Og {b:Nat} (L:List Nat) (j:Nat) (h:j<L.length):val b (L.drop j)=L.getD j 0+b*val b (L.drop (j+1)):=by
 rw[List.drop_eq_getElem_cons h,val,List.getD_eq_getElem?_getD,List.getElem?_eq_getElem h,Option.getD_some]
def Oh (b:Nat) (L:List Nat) (k:Nat):Nat:=val b (L.drop (L.length-k))%2147483647
theorem UG (b:Nat) (L:List Nat):Oh b L 0=0:=by rw[Oh,Nat.sub_zero,List.drop_length];rfl
theorem av2 (b:Nat) (L:List Nat) (k:Nat):Oh b L k<2147483647:=Nat.mod_lt _ de
theorem UH {b:Nat} {L:List Nat} {k:Nat} (h:k<L.length):Oh b L (k+1)=(Oh b L k*b+L.getD (L.length-1-k) 0)%2147483647:=by
 have key:∀V l:Nat,(V%2147483647*b+l)%2147483647=(V*b+l)%2147483647:=fun V l=>by rw[←Nat.mod_add_mod,Nat.mod_mul_mod,Nat.mod_add_mod]
 unfold Oh;rw[Og L (L.length-(k+1)) om,show L.length-(k+1)+1=L.length-k from om,show L.length-(k+1)=L.length-1-k from om,Nat.add_comm,Nat.mul_comm b];exact (key _ _).symm
theorem Oi (i:Int):Oh au (limbs i) (limbs i).length=i.natAbs%2147483647:=by rw[Oh,Nat.sub_self,List.drop_zero,qo,gz qj]
def sG (i:Int):Int:=if i<0 then 0-((i.natAbs%2147483647:Nat):Int) else ((i.natAbs%2147483647:Nat):Int)
theorem UJ:pK prog 116 add64Entry:=⟨_,func116,kr,kr,kr,kr⟩
theorem Ie (x y:Nat) (w:World):(add64Entry #[.int .u64 ((x:Nat):Int),.int .u64 ((y:Nat):Int),.int .u64 0]).run prog w =
 .ok (.tuple #[.int .u64 (((x+y)%18446744073709551616:Nat):Int),.int .u64 (((x+y)/18446744073709551616:Nat):Int)]) w:=by
 rw[run_add64 _ _ 0 om om om om,Int.add_zero,←Int.natCast_add];rfl
theorem Ig {h l hi lo c s:Nat} (h1:hi*18446744073709551616+lo=h*au) (h2:c*18446744073709551616+s=lo+l):((hi+c)*18446744073709551616+s)%2147483647=(h*au+l)%2147483647:=by
 have e:(hi+c)*18446744073709551616+s=h*au+l:=by rw[Nat.add_mul,Nat.add_assoc,h2,←Nat.add_assoc,h1]
 rw[e]
section
variable (i:Int) (A:Option Addr) (c:Nat) (w:World) (hi:i.natAbs<au^30) (hx:aC w A (limbs i))
include hi hx
theorem wM (h0:i=0):Calls prog 63 #[.agg #[.bool (decide (i<0)),.slice A (limbs i).length c]] w (aI w (.int .i64 (sG i))):=by
 have hl:((limbs i).length:Int)=0:=by rw[h0,vi];rfl
 refine zc func63 rfl ntmps63 rfl ?_;obtain ⟨HF,LW,ak,E⟩:=bg w;replace HF:=HF.and (Per.aH hx);refine zi ?_;intro aG w2 aA aK aP;obtain ⟨HF,LW,E⟩:=bD HF LW E ak aA aK;refine zp ?_;refine zh rfl zH rfl (Qc A c _ hi (HF.on E).here.1.2) E fun w3 E=>(Mq ?_);refine yl ?_;refine zx ?_;refine zcx (zp ?_);refine zd 16 (.bool false) rfl (by rw[hl];rfl) (jt ?_);refine zd 40 (.bool false) rfl (by rw[h0];rfl) (zl ?_);refine za rfl (jp (z:=0) underlying3 u25 rfl kr (zu ?_));exact ⟨by rw[h0];rfl,(LW.step E ak).toBelow⟩
theorem Cj (h0:i≠0):Calls prog 63 #[.agg #[.bool (decide (i<0)),.slice A (limbs i).length c]] w (aI w (.int .i64 (sG i))):=by
 have hl2:=ve hi;obtain ⟨bx,ox,rfl,hbx,hcx⟩:=hx.2 (Ci h0);have hsm:=yox i;refine zc func63 rfl ntmps63 rfl ?_;obtain ⟨HF,LW,ak,E⟩:=bg w;replace HF:=HF.and (Per.aH hx);refine zi ?_;intro aG w2 aA aK aP;obtain ⟨HF,LW,E⟩:=bD HF LW E ak aA aK;refine zp ?_;refine zh rfl zH rfl (Qc (some ⟨bx,ox,none⟩) c _ hi (HF.on E).here.1.2) E fun w3 E=>(Mq ?_);refine yl ?_;refine zx ?_;replace HF:=HF.on E;replace LW:=LW.step E ak;replace E:=aD (No) w3;refine yw (ι:=Nat) (fun k=>[(1,.pointer (some ⟨aG,0,none⟩)),(3,.int .u64 ((Oh au (limbs i) k:Nat):Int)),(4,.int .i64 (((limbs i).length:Int)-1-((k:Nat):Int)))]) (fun k w'=>Ext (No) w3 w'∧(k≤(limbs i).length)) (fun k=>(limbs i).length-k) 0 ⟨rfl,congrArg (fun z:Nat=>some (Value.int .u64 (z:Int))) (UG _ _).symm,congrArg (fun z:Int=>some (Value.int .i64 z)) om,trivial⟩ ⟨Ext.refl _ _,Nat.zero_le _⟩ ?_;rintro k w5 ⟨M4,hk⟩;have He:=aS (No) w3;replace E:=E.trans M4;replace HF:=HF.on E;replace LW:=LW.step E ak;replace E:=aD (No) w5;refine zp ?_;refine zd 16 (.bool (decide (k<(limbs i).length))) rfl (kb om) ?_;have hup:=av2 au (limbs i) k;refine zg rfl (fun hl=>?_) (fun hl=>?_)
 ·
  have hl:=of_decide_eq_true hl;obtain ⟨h,hh⟩:∃h,h=Oh au (limbs i) k:=⟨_,rfl⟩;obtain ⟨l,hll⟩:∃l,l=(limbs i).getD ((limbs i).length-1-k) 0:=⟨_,rfl⟩;have hlb:l<1000000000000000000:=by rw[hll];exact yzq de hsm _
  have hnx:Oh au (limbs i) (k+1)=(h*au+l)%2147483647:=by rw[UH hl,←hh,←hll]
  rw[←hh] at hup;refine zd 3 (.int .u64 ((h:Nat):Int)) rfl (by rw[hh]<;>rfl) ?_;obtain ⟨p,hp⟩:∃p,p=h*1000000000000000000/18446744073709551616:=⟨_,rfl⟩;obtain ⟨q,hq⟩:∃q,q=h*1000000000000000000%18446744073709551616:=⟨_,rfl⟩;have hpq:p*18446744073709551616+q=h*au:=xx hp hq;have hpb:p<2147483647:=by rw[hp];exact Nat.div_lt_of_lt_mul (Nat.lt_of_lt_of_le (Nat.mul_lt_mul_of_pos_right hup de) de)
  have hqb:q<18446744073709551616:=zbk de hq;obtain ⟨t,ht⟩:∃t,t=(q+l)/18446744073709551616:=⟨_,rfl⟩;obtain ⟨s,hs⟩:∃s,s=(q+l)%18446744073709551616:=⟨_,rfl⟩;have hts:t*18446744073709551616+s=q+l:=xx ht hs;have hsb:s<18446744073709551616:=zbk de hs;have htb:t<2:=by rw[ht];exact Nat.div_lt_of_lt_mul om
  refine zp ?_;refine zh rfl rz rfl (qlx h 1000000000000000000 om de _) E fun w6 E=>(zf 21 (.tuple #[.int .u64 ((p:Nat):Int),.int .u64 ((q:Nat):Int)]) rfl (by rw[hp,hq]<;>rfl) (jt ?_));refine za rfl (kd (j:=(limbs i).length-1-k) u22 zD rfl rfl om om ?_);obtain ⟨b9,o9,hA9,_,hc9⟩:=((HF.on E).here.1.2).2 (Ci h0);obtain ⟨rfl,rfl⟩:b9=bx∧o9=ox:=by simpa using hA9.symm
  refine za rfl (vq u25 rfl rfl (hc9 ((limbs i).length-1-k) om) (zf 30 (.int .u64 ((l:Nat):Int)) rfl (by rw[ZY,hll]<;>rfl) (za rfl (jQ (args:=[.int .u64 ((q:Nat):Int),.int .u64 ((l:Nat):Int),.int .u64 0]) UJ rfl (Ie q l _) (zf 31 (.tuple #[.int .u64 ((s:Nat):Int),.int .u64 ((t:Nat):Int)]) rfl (by rw[hs,ht]<;>rfl) (zz ?_))))));refine kl ?_;refine aN ?_;refine zf 36 (.int .u64 ((p+t:Nat):Int)) rfl (by rw[Int.natCast_add]<;>rfl) (zh rfl J7 rfl (qtz _ (p+t) s om hsb) E fun w7 E=>(zf 38 (.int .u64 ((Oh au (limbs i) (k+1):Nat):Int)) rfl (by rw[Ig hpq hts,←hnx]<;>rfl) (zl ?_)));refine yl ?_;refine zm ?_;exact zo (k+1) om ⟨rfl,rfl,congrArg (fun z:Int=>some (Value.int .i64 z)) om,trivial⟩ ⟨M4.step E He,om⟩
 ·
  have hl:=of_decide_eq_false hl;have hke:k=(limbs i).length:=om;have hend:Oh au (limbs i) k=i.natAbs%2147483647:=by rw[hke,Oi]
  refine zd 3 (.int .u64 ((i.natAbs%2147483647:Nat):Int)) rfl (by rw[hend]<;>rfl) (vp ?_);refine zg rfl (fun hn=>?_) (fun hn=>?_)
  ·
   refine zn ?_;refine ZF ?_;refine zjk ?_;refine zl ?_;exact ⟨by rw[sG,if_pos (of_decide_eq_true hn)];rfl,(LW.step E ak).toBelow⟩
  ·
   refine zu ?_;refine ZF ?_;refine zu ?_;exact ⟨by rw[sG,if_neg (of_decide_eq_false hn)];rfl,(LW.step E ak).toBelow⟩
theorem UK:Calls prog 63 #[.agg #[.bool (decide (i<0)),.slice A (limbs i).length c]] w (aI w (.int .i64 (sG i))):=by
 by_cases h0:i=0
 · exact wM i A c w hi hx h0
 · exact Cj i A c w hi hx h0
end
section
variable (n1:Bool) (A:Option Addr) (c:Nat) (xs:List Nat) (w:World) (hx:aC w A xs) (hl:xs.length≤9223372036854775807) (hg:zr n1 xs=false)
include hx hl hg
theorem Ck:Calls prog 63 #[.agg #[.bool n1,.slice A xs.length c]] w (aI w (.int .i64 0)):=by
 refine zc func63 rfl ntmps63 rfl ?_;obtain ⟨HF,LW,ak,E⟩:=bg w;replace HF:=HF.and (Per.aH hx);refine zi ?_;intro aG w2 aA aK aP;obtain ⟨HF,LW,E⟩:=bD HF LW E ak aA aK;refine zp ?_;refine zh rfl zH rfl (yr n1 c _ A xs hl (HF.on E).here.1.2) E fun w3 E=>(zf 9 (.bool false) rfl (by rw[hg]<;>rfl) (vp ?_));exact xj
end
noncomputable def KZ (n1:Bool) (xs:List Nat):Int:=if zr n1 xs then sG (num n1 xs) else 0
section
variable (n1:Bool) (A:Option Addr) (c:Nat) (xs:List Nat) (w:World) (hx:aC w A xs) (hl:xs.length≤9223372036854775807)
include hx hl
theorem Cm:Calls prog 63 #[.agg #[.bool n1,.slice A xs.length c]] w (aI w (.int .i64 (KZ n1 xs))):=by
 cases hg:zr n1 xs with
 | false=>
  rw[KZ,if_neg (by rw[hg];decide)];exact Ck n1 A c xs w hx hl hg
 | true=>
  rw[KZ,if_pos hg];obtain ⟨i,rfl,rfl,hi⟩:=qlv hg;rw[ji];exact UK i A c w hi hx
end
end Go.Proofs.YtmnmebdmpigddaaGreatDoor
namespace Go.Proofs.YtmnmebdmpigddaaGreatDoor
open Go.RowKit Proofs.Tryz
theorem al6 {P:Prop} (h:P:=by
 have LW:=aD (No) w;have ak:=aS (No) w;have E:=aD (No) w;refine yu ?_;refine zg rfl (fun h=>?_) (fun h=>?_)
 ·
  refine yi ?_;exact ⟨by rw[h];rfl,(LW.step E ak).toBelow⟩
 ·
  refine qd ?_;exact ⟨by rw[h];rfl,(LW.step E ak).toBelow⟩):P:=h
theorem Qg {P:Prop} (h:P:=by
 rintro e w2 ⟨rfl,hb⟩;exact ⟨_,rfl,hb,Left.of rfl⟩):P:=h
attribute [local irreducible] OW RS CW EW
def Yg (j:Nat):Nat:=(Go.Pinned.pow10Rows.getD j (0,0)).1
def Yh (j:Nat):Nat:=(Go.Pinned.pow10Rows.getD j (0,0)).2
theorem ac0:Go.Pinned.pow10Rows.all (fun x=>Nat.blt x.1 18446744073709551616&&Nat.blt x.2 18446744073709551616)=true:=kr
theorem Ii:Go.Pinned.pow10Rows.length=696:=kr
theorem wO {j:Nat} (hj:j<696):Go.Pinned.pow10Rows[j]? =some (Yg j,Yh j)∧Yg j<18446744073709551616∧Yh j<18446744073709551616:=by
 have hl:j<Go.Pinned.pow10Rows.length:=by rw[Ii];exact hj
 have h:=List.all_eq_true.1 ac0 _ (List.getElem_mem hl);rw[Bool.and_eq_true] at h;have e:Go.Pinned.pow10Rows[j]? =some Go.Pinned.pow10Rows[j]:=List.getElem?_eq_getElem hl;have e1:Go.Pinned.pow10Rows.getD j (0,0)=Go.Pinned.pow10Rows[j]:=by rw[List.getD_eq_getElem?_getD,e];rfl
 unfold Yg Yh;rw[e1,e];exact ⟨rfl,Nat.le_of_ble_eq_true h.1,Nat.le_of_ble_eq_true h.2⟩
def wP (w:World):Prop:=∀j,j<696→w.cell? ⟨13,j*2,none⟩=some (.int .u64 ((Yg j:Nat):Int))∧w.cell? ⟨13,j*2+1,none⟩=some (.int .u64 ((Yh j:Nat):Int))
theorem wP.lt {w:World} (h:wP w):13<w.heap.size:=World.block_lt_of_cell? w _ (h 0 de).1
theorem Per.av5 {X:Nat→Prop} {w:World} (h:wP w) (hx:¬X 13):Per X w wP:=fun b hb j hj=>
 ⟨(hb.cell (p:=⟨13,j*2,none⟩) h.lt hx).trans (h j hj).1,(hb.cell (p:=⟨13,j*2+1,none⟩) h.lt hx).trans (h j hj).2⟩
section
variable (w:World)
theorem wQ (fF:Nat) (c0 c1 c2:Value) (e lp:Int) (j:Nat) (hj:j<696) (hB:aB w fF 257 #[c0,c1,c2]) (hT:wP w) (hne:fF≠13) (he:-10000≤e∧e≤10000) (hlp:-10000≤lp∧lp≤10000) :
 Calls prog 253 #[.pointer (some ⟨fF,0,none⟩),.int .i64 e,.int .i64 (((j:Nat):Int)-348),.int .i64 lp] w fun en w'=>en= .returned (.tuple #[])∧aB w' fF 257 #[.int .u64 ((Yg j:Nat):Int),.int .u64 ((Yh j:Nat):Int),.int .i64 (0-(e+lp+3))]∧Ext (aj [some fF]) w w':=by
 refine zc func253 rfl ntmps253 rfl ?_;have wR:=hB;have HF:Per (aj [(some fF)]) w (fun _=>True):=Per.yN;have LW:=aD (aj [(some fF)]) w;have ak:=aS (aj [(some fF)]) w;have E:=aD (aj [(some fF)]) w;obtain ⟨HF,LW,E⟩:=cO HF LW E ak (Per.av5 hT (fun h=>h.elim (fun e=>hne (Option.some.inj e).symm) (fun e=>e.elim)));refine zx ?_;refine yl ?_;refine za rfl (ziv (j:=j) underlying277 ah5 rfl rfl om hj (aN ?_));refine za rfl (vq u25 rfl rfl (by rw[Nat.zero_add];exact ((HF.on E).here.2 j hj).1) (zm ?_));refine zk (yb zD rfl rfl wR rfl rfl (Nat.le_of_ble_eq_true rfl) ?_);intro w1 Bx Cr;replace wR:=Bx;replace E:=E.step1 Cr aj.head;clear Cr;refine zl ?_;refine yl ?_;refine za rfl (ziv (j:=j) underlying277 ah5 rfl rfl om hj (aN ?_));refine za rfl (vq u25 rfl rfl (by rw[Nat.zero_add];exact ((HF.on E).here.2 j hj).2) (zm ?_));refine zk (yb zD rfl rfl wR rfl rfl (Nat.le_of_ble_eq_true rfl) ?_);intro w2 Bx Cr;replace wR:=Bx;replace E:=E.step1 Cr aj.head;clear Cr;refine zl ?_;refine yo ?_;refine yo ?_;refine zjk ?_;refine zm ?_;refine zk (yb J6 rfl rfl wR rfl rfl (Nat.le_of_ble_eq_true rfl) ?_);intro w3 Bx Cr;replace wR:=Bx;replace E:=E.step1 Cr aj.head;clear Cr;obtain ⟨HF,LW,ak,E⟩:=dx HF LW E ak (Y:=No) (aj.skip aj.aU) (Per.aW wR ah.nil);clear wR;refine aN ?_;refine Yy rfl ?_;exact ⟨rfl,by first | exact (HF.on E).here.2 | exact wR,(LW.step E ak)⟩
end
theorem UY {M x y:Nat} (hM:0<M) (hy:y≤M):((x:Int)-(y:Int))%(M:Int)=(((x+M-y)%M:Nat):Int):=by
 refine qzv (Nat.mod_lt _ hM) ?_;rw[Nat.mod_add_mod,Nat.sub_add_cancel om,Nat.add_mod_right]
theorem Ct {x y:Nat} (hy:y≤18446744073709551616):IntKind.u64.wrap (((x:Nat):Int)-((y:Nat):Int))=(((x+18446744073709551616-y)%18446744073709551616:Nat):Int):=by
 rw[IntKind.wrap_u64];exact UY de hy
theorem av6 {s:Nat} (h:s<64):IntKind.i64.wrap (BitVec.ofInt IntKind.i64.bits ((s:Nat):Int) &&& BitVec.ofInt IntKind.i64.bits 63).toNat=((s:Nat):Int):=by
 have key:∀s:Fin 64,IntKind.i64.wrap (BitVec.ofInt IntKind.i64.bits (s.val:Int) &&& BitVec.ofInt IntKind.i64.bits 63).toNat=(s.val:Int):=by decide +kernel
 exact key ⟨s,h⟩
theorem ac1 (m n:Nat):(((m:Nat):Int) !=((n:Nat):Int))=decide (m≠n):=by
 by_cases h:m=n
 · subst h;simp
 · rw[decide_eq_true h];exact bne_iff_ne.2 om
def Qh (b:Bool):Nat:=if b then 1 else 0
theorem wS (b:Bool):Qh b≤1:=by cases b<;>decide
section
variable (w:World)
theorem Ij (b:Bool):Calls prog 224 #[.bool b] w (aI w (.int .u64 ((Qh b:Nat):Int))):=by
 refine zc func224 rfl ntmps224 rfl ?_;exact al6
theorem av7 (b:Bool):Calls prog 229 #[.bool b] w (aI w (.int .i64 ((Qh b:Nat):Int))):=by
 refine zc func229 rfl ntmps229 rfl ?_;exact al6
def Fb (x hi:Nat):Nat:=x*hi/18446744073709551616
def Cu (x hi:Nat):Nat:=x*hi%18446744073709551616
def qE (x hi lo:Nat):Nat:=(Fb x hi+18446744073709551616-Qh (decide (Cu x hi<Fb x lo)))%18446744073709551616
def Cv (x hi lo:Nat):Nat:=(Cu x hi+18446744073709551616-Fb x lo)%18446744073709551616
def Ot (x hi lo s:Nat):Nat:=
 if Fb x hi/2^s*2^s%18446744073709551616≠Fb x hi then Fb x hi/2^s ||| 1
 else qE x hi lo/2^s ||| Qh (decide (1<Cv x hi lo))
theorem Ik {x hi:Nat} (hx:x<18446744073709551616) (hh:hi<18446744073709551616):Fb x hi<18446744073709551616:=
 Nat.div_lt_of_lt_mul (Nat.lt_of_le_of_lt (Nat.mul_le_mul_left x (Nat.le_of_lt hh)) (Nat.mul_lt_mul_of_pos_right hx de))
theorem Il (gp x hi lo s:Nat) (hx:x<18446744073709551616) (hh:hi<18446744073709551616) (hl:lo<18446744073709551616) (hs:s<64) (hB:aB w gp 257 #[.int .u64 ((hi:Nat):Int),.int .u64 ((lo:Nat):Int),.int .i64 ((s:Nat):Int)]) :
 Calls prog 254 #[.int .u64 ((x:Nat):Int),.pointer (some ⟨gp,0,none⟩)] w (aI w (.int .u64 ((Ot x hi lo s:Nat):Int))):=by
 have h1:=Ik hx hh;have h2:=Ik hx hl;have h3:Cu x hi<18446744073709551616:=Nat.mod_lt _ de;have h4:qE x hi lo<18446744073709551616:=Nat.mod_lt _ de;have hd:∀m,m/2^s≤m:=fun m=>Nat.div_le_self _ _;refine zc func254 rfl ntmps254 rfl ?_;obtain ⟨HF,LW,ak,E⟩:=bg w;replace HF:=HF.and (Per.blk hB (fun h=>h.elim));refine vp ?_;refine zh rfl rz rfl (qlx x hi hx hh _) E fun w1 E=>(zf 16 (.tuple #[.int .u64 ((Fb x hi:Nat):Int),.int .u64 ((Cu x hi:Nat):Int)]) rfl (by rw[Fb,Cu]<;>rfl) (jt ?_));refine za rfl (gf rfl rfl (av6 hs) (yi ?_));refine za rfl (jh rfl rfl om (xk _ s hs) (aN ?_));refine za rfl (gq rfl rfl om (ZQ _ s hs) (zx ?_));refine zd 30 (.bool (decide (Fb x hi/2^s*2^s%18446744073709551616≠Fb x hi))) rfl (by rw[ac1]<;>rfl) (zg rfl (fun hc=>?_) (fun hc=>?_))
 ·
  have hc:=of_decide_eq_true hc;refine zx ?_;refine za rfl (jh rfl rfl om (xk _ s hs) (za rfl (qO rfl rfl (kg (n:=1) (Nat.lt_of_le_of_lt (hd _) h1) de) (zl ?_))));exact ⟨by rw[Ot,if_pos hc];rfl,(LW.step E ak).toBelow⟩
 ·
  have hc:=of_decide_eq_false hc;refine qd ?_;refine zh rfl rz rfl (qlx x lo hx hl _) E fun w2 E=>(zf 41 (.tuple #[.int .u64 ((Fb x lo:Nat):Int),.int .u64 ((x*lo%18446744073709551616:Nat):Int)]) rfl (by rw[Fb]<;>rfl) (jt ?_));refine zf 47 (.bool (decide (Cu x hi<Fb x lo))) rfl (kb om) (zh rfl Rw rfl (Ij _ (decide (Cu x hi<Fb x lo))) E fun w3 E=>(za rfl (jg rfl rfl (Ct (Nat.le_trans (wS _) de)) (zf 49 (.int .u64 ((qE x hi lo:Nat):Int)) rfl (by rw[qE]<;>rfl) (zx ?_)))));have OY:∀q9,(aj (oa [])) q9→q9<(World.drew w3).heap.size→(No) q9:=fun k h _=>(aj.none_) k h;refine qm (No) aj.none_ [] [] (fQ [Fx.of (.int .u64 ((qE x hi lo:Nat):Int)),
   Fx.of (.int .i64 ((s:Nat):Int)),
   Fx.of (.int .u64 ((qE x hi lo/2^s:Nat):Int)),
   Fx.of (.int .u64 ((Cu x hi:Nat):Int)),
   Fx.of (.int .u64 ((Fb x lo:Nat):Int)),
   Fx.of (.int .u64 ((Cv x hi lo:Nat):Int)),
   Fx.of (.bool (decide (1<Cv x hi lo))),
   Fx.of (.int .u64 ((Qh (decide (1<Cv x hi lo)):Nat):Int)),
   Fx.of (.int .u64 ((qE x hi lo/2^s ||| Qh (decide (1<Cv x hi lo)):Nat):Int)),
   Fx.of (.int .u64 ((qE x hi lo/2^s ||| Qh (decide (1<Cv x hi lo)):Nat):Int))]) mixed rfl trivial (fun _ h=>by cases h) ?_ ?_
  · refine ⟨arm,arm,?_,arm,arm,?_,?_,?_,?_,arm,trivial⟩
    · refine qq ?_;intro vs X wq K;exact jh rfl rfl om (xk _ s hs) ⟨Below.refl _ _,Left.of rfl⟩
    · refine qq ?_;intro vs X wq K;exact jg rfl rfl (Ct (Nat.le_of_lt h2)) ⟨Below.refl _ _,Left.of rfl⟩
    · refine qq ?_;intro vs X wq K;exact uD rfl rfl ⟨Below.refl _ _,Left.of (kb om)⟩
    · refine qq ?_;intro vs X wq K;refine zb Rw rfl ((Ij _ (decide (1<Cv x hi lo))).mono ?_);exact Qg
    · refine qq ?_;intro vs X wq K;exact qO rfl rfl (kg (Nat.lt_of_le_of_lt (hd _) h4) (Nat.lt_of_le_of_lt (wS _) de)) ⟨Below.refl _ _,Left.of rfl⟩
  intro vs w4 LE AO AL AF AA;replace E:=E.drew.trans (LE.mono OY);obtain ⟨_,e9,k9⟩:=AL.2.2.2.2.2.2.2.2.2.1;refine ja (τ:=[(4,.int .u64 ((qE x hi lo/2^s ||| Qh (decide (1<Cv x hi lo)):Nat):Int))]) ⟨congrArg some e9,trivial⟩ ?_;clear AL AF AA LE AO OY e9 k9;refine zn ?_;exact ⟨by rw[Ot,if_neg hc];rfl,(LW.step E ak).toBelow⟩
end
end Go.Proofs.YtmnmebdmpigddaaGreatDoor
namespace Go.Proofs.YtmnmebdmpigddaaGreatDoor
open Go.RowKit Proofs.Tryz
theorem qfz {P Q:Prop} (k:Q) (h:(Unit→Q)→P:=by
 intro zK;refine za rfl (jp underlying3 u5 rfl (yx om) (yo ?_));exact zK ()):P:=h fun _=>k
theorem je {P Q:Prop} (k:Q) (h:(Unit→Q)→P:=by
 intro zK;refine zu ?_;refine yo ?_;refine zm ?_;exact zK ()):P:=h fun _=>k
attribute [local irreducible] OW RS CW EW
def iB (x:Nat):Nat:=if x=0 then 0 else x.log2+1
theorem wT {x k:Nat} (h:x<2^k):iB x≤k:=by
 unfold iB;split
 · omega
 · rename_i h0
   have:=(Nat.log2_lt h0).2 h;omega
theorem mh {x k:Nat} (h:2^k≤x):iB x=iB (x/2^k)+k:=by
 have hp:=jn k;have h1:x≠0:=om;have h2:x/2^k≠0:=by have:=Nat.div_pos h hp;omega
 unfold iB;rw[if_neg h1,if_neg h2];have e:x.log2=(x/2^k).log2+k:=by
  refine (Nat.log2_eq_iff h1).2 ⟨?_,?_⟩
  · have:=Nat.log2_self_le h2;rw[Nat.pow_add];exact Nat.le_trans (Nat.mul_le_mul_right _ this) (Nat.div_mul_le_self _ _)
  · have:=@Nat.lt_log2_self (x/2^k);have h3:x<(x/2^k+1)*2^k:=by
     have:=Nat.div_add_mod x (2^k);have h4:=Nat.mod_lt x hp;rw[Nat.add_mul,Nat.one_mul,Nat.mul_comm];omega
    rw[show (x/2^k).log2+k+1=(x/2^k).log2+1+k from om,Nat.pow_add];exact Nat.lt_of_lt_of_le h3 (Nat.mul_le_mul_right _ this)
 omega
def UZ:ByteArray:=⟨#[0,1,2,2,3,3,3,3,4,4,4,4,4,4,4,4,5,5,5,5,5,5,5,5,5,5,5,5,5,5,5,5,6,6,6,6,6,6,6,6,6,6,6,6,6,6,6,6,6,6,6,6,6,6,6,6,6,6,6,6,6,6,6,6,7,7,7,7,7,7,7,7,7,7,7,7,7,7,7,7,7,7,7,7,7,7,7,7,7,7,7,7,7,7,7,7,7,7,7,7,7,7,7,7,7,7,7,7,7,7,7,7,7,7,7,7,7,7,7,7,7,7,7,7,7,7,7,7,8,8,8,8,8,8,8,8,8,8,8,8,8,8,8,8,8,8,8,8,8,8,8,8,8,8,8,8,8,8,8,8,8,8,8,8,8,8,8,8,8,8,8,8,8,8,8,8,8,8,8,8,8,8,8,8,8,8,8,8,8,8,8,8,8,8,8,8,8,8,8,8,8,8,8,8,8,8,8,8,8,8,8,8,8,8,8,8,8,8,8,8,8,8,8,8,8,8,8,8,8,8,8,8,8,8,8,8,8,8,8,8,8,8,8,8,8,8,8,8,8,8,8,8,8,8,8,8]⟩
theorem Ou {u:Nat} (h:u<256):(UZ.data[u]?).map (·.toNat)=some (iB u):=by
 have key:∀v:Fin 256,(UZ.data[v.val]?).map (·.toNat)=some (iB v.val):=by decide +kernel
 exact key ⟨u,h⟩
section
variable (w:World)
theorem Ov (x:Nat) (hx:x<18446744073709551616):Calls prog 196 #[.int .u64 ((x:Nat):Int)] w (aI w (.int .i64 ((iB x:Nat):Int))):=by
 refine zc func196 rfl ntmps196 rfl ?_;have LW:=aD (No) w;have ak:=aS (No) w;have E:=aD (No) w;refine vp ?_;replace LW:=LW.step E ak;replace E:=aD (No) w;refine yh (ι:=Nat×Nat) (fun (y,n)=>[(0,.int .u64 ((y:Nat):Int)),(2,.int .i64 ((n:Nat):Int))]) (fun (y,n) w'=>Ext (No) w w'∧(iB x=iB y+n∧y<4294967296∧n≤32)) ?_ ?_
 ·
  have M1:=aD (No) w;have dz:=aS (No) w;refine zg rfl (fun h=>?_) (fun h=>?_)
  ·
   have h:=of_decide_eq_true h;refine zn ?_;refine za rfl (jh rfl rfl de (xk x 32 de) (zl ?_));exact zt (x/2^32,32) ⟨rfl,rfl,trivial⟩ ⟨M1.step E dz,mh (by show 4294967296≤x;omega),(Nat.div_lt_iff_lt_mul (jn 32)).2 (by show x<18446744073709551616;omega),Nat.le_refl _⟩
  ·
   have h:=of_decide_eq_false h;refine aN ?_;exact zt (x,0) ⟨rfl,rfl,trivial⟩ ⟨M1.step E dz,rfl,by show x<4294967296;omega,de⟩
 ·
  rintro ⟨y,n⟩ w2 ⟨M1,⟨hy1,hy2,hy3⟩⟩;replace E:=E.trans M1;replace LW:=LW.step E ak;replace E:=aD (No) w2;refine zp ?_;replace LW:=LW.step E ak;replace E:=aD (No) w2;refine yh (ι:=Nat×Nat) (fun (z,m)=>[(0,.int .u64 ((z:Nat):Int)),(2,.int .i64 ((m:Nat):Int))]) (fun (z,m) w'=>Ext (No) w2 w'∧(iB x=iB z+m∧z<65536∧m≤48)) ?_ ?_
  ·
   have M3:=aD (No) w2;have aV:=aS (No) w2;refine zg rfl (fun h=>?_) (fun h=>?_)
   ·
    have h:=of_decide_eq_true h;have hs:=mh (x:=y) (k:=16) (by show 65536≤y;omega);refine zn ?_;refine za rfl (jh rfl rfl de (xk y 16 de) (je ?_));exact zt (y/2^16,n+16) ⟨rfl,congrArg (fun z:Int=>some (Value.int .i64 z)) om,trivial⟩ ⟨M3.step E aV,by show iB x=iB (y/2^16)+(n+16);omega,(Nat.div_lt_iff_lt_mul (jn 16)).2 hy2,by show n+16≤48;omega⟩
   ·
    have h:=of_decide_eq_false h;refine aN ?_;exact zt (y,n) ⟨rfl,rfl,trivial⟩ ⟨M3.step E aV,hy1,by show y<65536;omega,by show n≤48;omega⟩
  ·
   rintro ⟨z,m⟩ w4 ⟨M3,⟨hz1,hz2,hz3⟩⟩;replace E:=E.trans M3;replace LW:=LW.step E ak;replace E:=aD (No) w4;refine zp ?_;replace LW:=LW.step E ak;replace E:=aD (No) w4;refine yh (ι:=Nat×Nat) (fun (u,k)=>[(0,.int .u64 ((u:Nat):Int)),(2,.int .i64 ((k:Nat):Int))]) (fun (u,k) w'=>Ext (No) w4 w'∧(iB x=iB u+k∧u<256∧k≤56)) ?_ ?_
   ·
    have M5:=aD (No) w4;have Qi:=aS (No) w4;refine zg rfl (fun h=>?_) (fun h=>?_)
    ·
     have h:=of_decide_eq_true h;have hs:=mh (x:=z) (k:=8) (by show 256≤z;omega);refine zn ?_;refine za rfl (jh rfl rfl de (xk z 8 de) (je ?_));exact zt (z/2^8,m+8) ⟨rfl,congrArg (fun z:Int=>some (Value.int .i64 z)) om,trivial⟩ ⟨M5.step E Qi,by show iB x=iB (z/2^8)+(m+8);omega,(Nat.div_lt_iff_lt_mul (jn 8)).2 hz2,by show m+8≤56;omega⟩
    ·
     have h:=of_decide_eq_false h;refine aN ?_;exact zt (z,m) ⟨rfl,rfl,trivial⟩ ⟨M5.step E Qi,hz1,by show z<256;omega,by show m≤56;omega⟩
   ·
    rintro ⟨u,k⟩ w6 ⟨M5,⟨hu1,hu2,hu3⟩⟩;replace E:=E.trans M5;replace LW:=LW.step E ak;replace E:=aD (No) w6;have hul:=wT (x:=u) (k:=8) hu2;refine zx ?_;refine za rfl (jp u5 u25 rfl (ybz om) (za rfl (yn (j:=u) (b:=iB u) u9 rfl rfl rfl (Ou hu2) (qfz ?_))));refine zu ?_;exact ⟨by rw[hu1,Int.natCast_add,Int.add_comm];rfl,(LW.step E ak).toBelow⟩
end
end Go.Proofs.YtmnmebdmpigddaaGreatDoor
namespace Go.Proofs.YtmnmebdmpigddaaGreatDoor
open Go.RowKit Proofs.Tryz
theorem qck {P Q:Prop} (k:Q) (h:(Unit→Q)→P:=by
 intro zK;refine za rfl (xr rfl rfl (yx om) ?_);exact zK ()):P:=h fun _=>k
theorem U0 {P:Prop} (h:P:=by
 by_cases h:m=0
 · subst h;rfl
 · rw[decide_eq_false h];exact beq_eq_false_iff_ne.2 om):P:=h
theorem ac2 (m:Int) (k:Nat) (hk:k<64):m.fdiv (2^(min ((k:Nat):Int).toNat IntKind.i64.bits))=m/((2^k:Nat):Int):=by
 rw[Int.toNat_natCast,show min k IntKind.i64.bits=k from Nat.min_eq_left (by show k≤64;omega),Int.fdiv_eq_ediv_of_nonneg _ (Int.le_of_lt (Int.pow_pos de))];rw[show (2:Int)^k=((2^k:Nat):Int) by simp]
def l2p (p:Int):Int:=p*108853/32768
def mo (u:Nat):Nat:=(u+1+(u/2^2 &&& 1))/2^2
theorem zix (u:Nat):u &&& 1≤1:=Nat.and_le_right
def mq (m:Nat):Nat:=m &&& 9223372036854775808
def Yi (m:Nat):Nat:=m &&& 18442240474082181119
def Cw (m:Nat):Nat:=mq m ||| 9218868437227405312
def Cx (m k:Nat):Nat:=Yi m ||| (k*2^52%18446744073709551616)
def Yj (m k:Nat):Nat:=
 if m &&& 4503599627370496=0 then m
 else if 2047≤k then Cw m
 else Cx m k
def vbz (m k:Nat):Value:=
 if m &&& 4503599627370496=0 then .nilIface
 else if 2047≤k then .iface 183 (.int .i64 1)
 else .nilIface
theorem Ow {m:Nat} (hm:m<18446744073709551616):IntKind.u64.wrap (BitVec.ofInt IntKind.u64.bits (m:Int) &&& ~~~BitVec.ofInt IntKind.u64.bits 4503599627370496).toNat=((m &&& 18442240474082181119:Nat):Int):=by
 have e: ~~~BitVec.ofInt IntKind.u64.bits 4503599627370496=BitVec.ofInt IntKind.u64.bits ((18442240474082181119:Nat):Int):=by decide +kernel
 rw[e];exact kt hm de
theorem av8 {m:Nat} (hm:m<18446744073709551616):IntKind.u64.wrap (BitVec.ofInt IntKind.u64.bits ((mq m:Nat):Int) ||| BitVec.ofInt IntKind.u64.bits 9218868437227405312).toNat=((Cw m:Nat):Int):=
 kg (m:=mq m) (n:=9218868437227405312) (Nat.lt_of_le_of_lt Nat.and_le_left hm) de
theorem av9 {m k:Nat} (hm:m<18446744073709551616):IntKind.u64.wrap (BitVec.ofInt IntKind.u64.bits ((Yi m:Nat):Int) ||| BitVec.ofInt IntKind.u64.bits ((k*2^52%18446744073709551616:Nat):Int)).toNat=((Cx m k:Nat):Int):=
 kg (m:=Yi m) (n:=k*2^52%18446744073709551616) (Nat.lt_of_le_of_lt Nat.and_le_left hm) (Nat.mod_lt _ de)
theorem ac3 (m:Nat):(((m:Nat):Int)==0)=decide (m=0):=by
 exact U0
attribute [local irreducible] OW RS CW EW
section
variable (w:World)
theorem ac4 (p:Int) (hp:-10000≤p∧p≤10000):Calls prog 252 #[.int .i64 p] w (aI w (.int .i64 (l2p p))):=by
 refine zc func252 rfl ntmps252 rfl ?_;have LW:=aD (No) w;have ak:=aS (No) w;have E:=aD (No) w;refine yi ?_;refine qck ?_;refine za rfl (jh rfl rfl de (ac2 _ 15 de) ?_);exact ZB
theorem Oy (u:Nat) (hu:u<144115188075855872):Calls prog 257 #[.int .u64 ((u:Nat):Int)] w (aI w (.int .u64 ((mo u:Nat):Int))):=by
 have h1:=zix (u/2^2);have h2:u/2^2≤u:=Nat.div_le_self _ _;refine zc func257 rfl ntmps257 rfl ?_;have LW:=aD (No) w;have ak:=aS (No) w;have E:=aD (No) w;refine yi ?_;refine kl ?_;refine aN ?_;refine za rfl (jh rfl rfl de (xk _ 2 de) (za rfl (gf rfl rfl (kt (n:=1) om de) (kl ?_))));refine za rfl (jh rfl rfl de (xk _ 2 de) ?_);exact ZB
theorem U1 (m k:Nat) (hm:m<18446744073709551616) (hk:1≤k∧k≤10000):Calls prog 259 #[.int .u64 ((m:Nat):Int),.int .i64 (((k:Nat):Int)-1075)] w (aI w (.tuple #[.float .f64 (Yj m k),vbz m k])):=by
 refine zc func259 rfl ntmps259 rfl ?_;have LW:=aD (No) w;have ak:=aS (No) w;have E:=aD (No) w;refine zz ?_;refine za rfl (gf rfl rfl (kt (n:=4503599627370496) hm de) (zn ?_));refine zd 8 (.bool (decide (m &&& 4503599627370496=0))) rfl (by rw[ac3]<;>rfl) (zg rfl (fun h=>?_) (fun h=>?_))
 ·
  have h:=of_decide_eq_true h;refine zn ?_;refine za rfl (va (b:=m) jZ rfl (zp ?_));exact ⟨by rw[Yj,vbz,if_pos h,if_pos h];rfl,(LW.step E ak).toBelow⟩
 ·
  have h:=of_decide_eq_false h;refine qd ?_;refine zd 12 (.bool (decide (2047≤k))) rfl (kb om) (zg rfl (fun h'=>?_) (fun h'=>?_))
  ·
   have h':=of_decide_eq_true h';refine zn ?_;refine za rfl (gf rfl rfl (kt (n:=9223372036854775808) hm de) (zf 14 (.int .u64 ((mq m:Nat):Int)) rfl (by rw[mq]<;>rfl) (za rfl (qO rfl rfl (av8 hm) (za rfl (va (b:=Cw m) jZ rfl (za rfl (FL kr rfl (zp ?_)))))))));exact ⟨by rw[Yj,vbz,if_neg h,if_neg h,if_pos h',if_pos h'];rfl,(LW.step E ak).toBelow⟩
  ·
   have h':=of_decide_eq_false h';refine zu ?_;refine za rfl (zyv rfl rfl (Ow hm) (aN ?_));refine yo ?_;refine za rfl (jp u25 underlying3 rfl (wrap_u64 om) (zf 22 (.int .u64 ((k:Nat):Int)) rfl (by congr 1;omega) (zf 19 (.int .u64 ((Yi m:Nat):Int)) rfl (by rw[Yi]<;>rfl) (za rfl (gq rfl rfl de (ZQ k 52 de) (za rfl (qO rfl rfl (av9 hm) (za rfl (va (b:=Cx m k) jZ rfl (zl ?_))))))))));exact ⟨by rw[Yj,vbz,if_neg h,if_neg h,if_neg h',if_neg h'];rfl,(LW.step E ak).toBelow⟩
end
def eF (d j:Nat):Int:=min 1074 (53-((iB d:Nat):Int)-l2p (((j:Nat):Int)-348))
def sF (d j:Nat):Nat:=(61-((iB d:Nat):Int)-l2p (((j:Nat):Int)-348)-eF d j).toNat
def xF (d:Nat):Nat:=d*2^(64-iB d)%18446744073709551616
def uF (d j:Nat):Nat:=Ot (xF d) (Yg j) (Yh j) (sF d j)
def kF (d j:Nat):Nat:=Qh (decide (36028797018963966≤uF d j))
def vF (d j:Nat):Nat:=uF d j/2^kF d j ||| (uF d j &&& 1)
def mF (d j sign:Nat):Nat:=sign ||| mo (vF d j)
def qmv (d j sign:Nat):Nat:=if 64≤sF d j then sign ||| 0 else Yj (mF d j sign) ((1075-eF d j).toNat+kF d j)
def qnx (d j sign:Nat):Value:=if 64≤sF d j then .nilIface else vbz (mF d j sign) ((1075-eF d j).toNat+kF d j)
theorem Cy {d:Nat} (h:0<d):1≤iB d:=by unfold iB;rw[if_neg om];omega
theorem sH {a b k:Nat} (ha:a<2^k) (hb:b<2^k):a ||| b<2^k:=Nat.or_lt_two_pow ha hb
theorem sI {a s:Nat} (h:a<18446744073709551616) (hs:8≤s):a/2^s<72057594037927936:=by
 refine Nat.lt_of_le_of_lt (Nat.div_le_div_left (Nat.pow_le_pow_right de hs) de) ((Nat.div_lt_iff_lt_mul (jn 8)).2 h)
theorem K4 {x hi lo s:Nat} (hx:x<18446744073709551616) (hh:hi<18446744073709551616) (hs:8≤s):Ot x hi lo s<72057594037927936:=by
 have h1:=sI (Ik hx hh) hs;have h2:=sI (a:=qE x hi lo) (Nat.mod_lt _ de) hs;unfold Ot;split
 · exact sH (k:=56) h1 de
 · exact sH (k:=56) h2 (Nat.lt_of_le_of_lt (wS _) de)
theorem aI9 {d j:Nat} (h:uF d j<72057594037927936):vF d j<72057594037927936:=
 sH (k:=56) (Nat.lt_of_le_of_lt (Nat.div_le_self _ _) h) (Nat.lt_of_le_of_lt (zix _) de)
theorem Oz {u:Nat} (h:u<72057594037927936):mo u<18446744073709551616:=by
 have h1:=zix (u/2^2);refine Nat.lt_of_le_of_lt (Nat.div_le_self _ _) om
theorem ac5:Gives 255 #[.int .u64 9007199254740992] (.int .u64 36028797018963966):=by
 intro w;refine zc func255 rfl ntmps255 rfl ?_;have LW:=aD (No) w;have ak:=aS (No) w;have E:=aD (No) w;refine yi ?_;refine za rfl (gq (z:=36028797018963968) rfl rfl de kr (za rfl (jg (z:=36028797018963966) rfl rfl kr (zx ?_))));refine gr (rs:=[.tmp 2]) (vs:=[.int .u64 36028797018963966]) rfl ⟨rfl,trivial⟩ ?_;exact xj
section
variable (w:World)
theorem wU (fF:Nat) (c0 c1 c2:Value) (e lp:Int) (j S:Nat) (hj:j<696) (hB:aB w fF 257 #[c0,c1,c2]) (hT:wP w) (hne:fF≠13) (he:-10000≤e∧e≤10000) (hlp:-10000≤lp∧lp≤10000) (hS:((S:Nat):Int)=0-(e+lp+3)) :
 Calls prog 253 #[.pointer (some ⟨fF,0,none⟩),.int .i64 e,.int .i64 (((j:Nat):Int)-348),.int .i64 lp] w fun en w'=>en= .returned (.tuple #[])∧aB w' fF 257 #[.int .u64 ((Yg j:Nat):Int),.int .u64 ((Yh j:Nat):Int),.int .i64 ((S:Nat):Int)]∧Ext (aj [some fF]) w w':=by
 rw[hS];exact wQ w fF c0 c1 c2 e lp j hj hB hT hne he hlp
theorem Cz (d j sign:Nat) (hd:0<d∧d<18446744073709551616) (hj:3≤j∧j≤658) (hs:sign<18446744073709551616) (hT:wP w) :
 Calls prog 227 #[.int .u64 ((d:Nat):Int),.int .i64 (((j:Nat):Int)-348),.int .u64 ((sign:Nat):Int)] w (aI w (.tuple #[.float .f64 (qmv d j sign),qnx d j sign])):=by
 have hB1:=Cy hd.1;have hB2:iB d≤64:=wT (k:=64) hd.2;obtain ⟨B,hB⟩:∃B,B=iB d:=⟨_,rfl⟩;obtain ⟨L,hL⟩:∃L,L=l2p (((j:Nat):Int)-348):=⟨_,rfl⟩;have hL':-2000≤L∧L≤2000:=by rw[hL,l2p];omega
 obtain ⟨E0,hE0⟩:∃E0,E0=eF d j:=⟨_,rfl⟩;have hE1:E0=min 1074 (53-((B:Nat):Int)-L):=by rw[hE0,eF,hB,hL]
 obtain ⟨S,hS⟩:∃S,S=sF d j:=⟨_,rfl⟩;have hS1:((S:Nat):Int)=61-((B:Nat):Int)-L-E0:=by rw[hS,sF,←hB,←hL,←hE0];omega
 rw[←hB] at hB1 hB2;have hx:xF d<18446744073709551616:=Nat.mod_lt _ de;obtain ⟨_,ht1,ht2⟩:=wO (j:=j) om;have hu:uF d j<72057594037927936:=K4 hx ht1 (by rw[←hS];omega);have hk:kF d j≤1:=wS _;have hv:=aI9 hu;have hr:=Oz hv;refine zc func227 rfl ntmps227 rfl ?_;obtain ⟨HF,LW,ak,E⟩:=bg w;replace HF:=HF.and (Per.av5 hT (fun h=>h.elim));refine qd ?_;refine za rfl (zb aiq rfl ((Ov _ d hd.2).mono ?_));rintro e w1 ⟨rfl,hb⟩;refine ⟨_,rfl,?_⟩;replace E:=bT E hb;clear hb;refine zf 15 (.int .i64 ((B:Nat):Int)) rfl (by rw[hB]<;>rfl) (zl ?_);refine za rfl (zb aCx rfl ((ac4 _ (((j:Nat):Int)-348) om).mono ?_));rintro e w2 ⟨rfl,hb⟩;refine ⟨_,rfl,?_⟩;replace E:=bT E hb;clear hb;refine zf 17 (.int .i64 L) rfl (by rw[hL]<;>rfl) (zl ?_);refine yl ?_;refine aN ?_;refine yl ?_;refine za rfl (QY rfl rfl (zf 22 (.int .i64 E0) rfl (by congr 1;rw[hE1];split<;>omega) (zu ?_)));refine za rfl (zbx azq ?_);intro aR w4 aF aO aT;obtain ⟨aT,HF,E,ak⟩:=bJ HF LW E ak aO aT;refine zl ?_;refine yl ?_;refine yl ?_;refine zm ?_;refine za rfl (zb aCj rfl ((wU _ aR _ _ _ _ _ j S om aF (HF.on E).here.2 (by have:=hT.lt;omega) om om om).mono ?_));rintro e w5 ⟨rfl,hB,hE⟩;refine ⟨_,rfl,?_⟩;replace aF:=hB;clear hB;replace E:=E.step1 hE aj.head;clear hE;refine zz ?_;refine zd 32 (.bool (decide (64≤S))) rfl (kb om) (zg rfl (fun h=>?_) (fun h=>?_))
 ·
  have h:=of_decide_eq_true h;have h':64≤sF d j:=hS▸h;refine zn ?_;refine za rfl (qO rfl rfl (kg (n:=0) hs de) (za rfl (va (b:=sign ||| 0) jZ rfl (zp ?_))));exact ⟨by rw[qmv,qnx,if_pos h',if_pos h'];rfl,(LW.step E ak).toBelow⟩
 ·
  have h:=of_decide_eq_false h;have h':¬64≤sF d j:=hS▸h;obtain ⟨HF,LW,ak,E⟩:=dx HF LW E ak (Y:=No) (aj.skip aj.aU) (Per.aW aF ah.nil);refine zl ?_;refine yl ?_;refine zf 38 (.int .i64 ((64-B:Nat):Int)) rfl (by congr 1;omega) (za rfl (gq rfl rfl om (ZQ d (64-B) om) (zf 39 (.int .u64 ((xF d:Nat):Int)) rfl (by rw[xF,hB]<;>rfl) (za rfl (zb aD0 rfl ((Il _ aR (xF d) (Yg j) (Yh j) S hx ht1 ht2 om (HF.on E).here.2).mono ?_))))));rintro e w6 ⟨rfl,hb⟩;refine ⟨_,rfl,?_⟩;replace E:=bT E hb;clear hb;refine zf 40 (.int .u64 ((uF d j:Nat):Int)) rfl (by rw[uF,hS]<;>rfl) (zl ?_);refine za rfl (zb aD1 rfl ((ac5 _).mono ?_));rintro e w7 ⟨rfl,hb⟩;refine ⟨_,rfl,?_⟩;replace E:=bT E hb;clear hb;refine aN ?_;refine zf 43 (.bool (decide (36028797018963966≤uF d j))) rfl (kb om) (za rfl (zb aCq rfl ((av7 _ (decide (36028797018963966≤uF d j))).mono ?_)));rintro e w8 ⟨rfl,hb⟩;refine ⟨_,rfl,?_⟩;replace E:=bT E hb;clear hb;refine zf 44 (.int .i64 ((kF d j:Nat):Int)) rfl (by rw[kF]<;>rfl) (zp ?_);refine za rfl (jh rfl rfl om (xk _ (kF d j) om) (aN ?_));refine za rfl (gf rfl rfl (kt (n:=1) om de) (za rfl (qO rfl rfl (kg (Nat.lt_of_le_of_lt (Nat.div_le_self _ _) om) (Nat.lt_of_le_of_lt (zix _) de)) (zf 50 (.int .u64 ((vF d j:Nat):Int)) rfl (by rw[vF]<;>rfl) (zp ?_)))));refine yl ?_;refine zp ?_;refine za rfl (zb aD2 rfl ((Oy _ (vF d j) om).mono ?_));rintro e w9 ⟨rfl,hb⟩;refine ⟨_,rfl,?_⟩;replace E:=bT E hb;clear hb;refine za rfl (qO rfl rfl (kg hs hr) (zf 57 (.int .u64 ((mF d j sign:Nat):Int)) rfl (by rw[mF]<;>rfl) (aN ?_)));refine zjk ?_;refine zf 59 (.int .i64 ((((1075-E0).toNat+kF d j:Nat):Int)-1075)) rfl (by congr 1;omega) (za rfl (zb aD4 rfl ((U1 _ (mF d j sign) ((1075-E0).toNat+kF d j) (sH (k:=64) hs hr) om).mono ?_)));rintro e dH ⟨rfl,hb⟩;refine ⟨_,rfl,?_⟩;replace E:=bT E hb;clear hb;refine yi ?_;exact ⟨by rw[qmv,qnx,if_neg h',if_neg h',←hE0];rfl,(LW.step E ak).toBelow⟩
end
end Go.Proofs.YtmnmebdmpigddaaGreatDoor
namespace Go.Proofs.YtmnmebdmpigddaaGreatDoor
open Go.RowKit
def aIq (b:Nat):Prop:=b≤9218868437227405312
theorem Im {m i:Nat} (h:m<2^i):m &&& 2^i=0:=by
 apply Nat.eq_of_testBit_eq
 intro j;rw[Nat.testBit_and,Nat.testBit_two_pow,Nat.zero_testBit];by_cases hj:i=j
 · subst hj;rw[Nat.testBit_lt_two_pow h];rfl
 · rw[decide_eq_false hj,Bool.and_false]
theorem U2 {m:Nat} (h:m<9007199254740992):Yi m<4503599627370496:=by
 have e:m=m &&& (2^53-1):=by rw[Nat.and_two_pow_sub_one_eq_mod,Nat.mod_eq_of_lt h]
 have e2:Yi m=m%2^52:=by
  unfold Yi;rw[←Nat.and_two_pow_sub_one_eq_mod];conv=>lhs;rw[e]
  rw[Nat.and_assoc];have:(2^53-1) &&& 18442240474082181119=2^52-1:=by decide +kernel
  rw[this]
 rw[e2];exact Nat.mod_lt _ de
theorem Io {m k:Nat} (hm:m≤9007199254740992):aIq (Yj m k):=by
 unfold Yj;split
 · unfold aIq;omega
 · rename_i h
   have hlt:m<9007199254740992:=by
    rcases Nat.lt_or_eq_of_le hm with h' | h'
    · exact h'
    · subst h';exact absurd (by decide +kernel) h
   split
   · have e:mq m=0:=Im (i:=63) (by show m<9223372036854775808;omega);unfold Cw;rw[e];exact Nat.le_refl _
   · rename_i hk
     have hc:=U2 hlt;have hk':k*2^52%18446744073709551616=2^52*k:=by
      rw[Nat.mul_comm];exact Nat.mod_eq_of_lt (by show 4503599627370496*k<18446744073709551616;omega)
     unfold Cx;rw[hk',Nat.or_comm,←Nat.two_pow_add_eq_or_of_lt hc];show 4503599627370496*k+Yi m≤9218868437227405312
     omega
theorem zero_or (a:Nat):0 ||| a=a:=Nat.zero_or a
theorem OA {u:Nat} (h:u<36028797018963968):mo u≤9007199254740992:=by
 have h1:=zix (u/2^2);unfold mo;show (u+1+(u/4 &&& 1))/4≤9007199254740992
 have h2:u/4 &&& 1≤1:=h1;omega
theorem avq {d j:Nat} (h:uF d j<72057594037927936):vF d j<36028797018963968:=by
 unfold vF;refine sH (k:=55) ?_ (Nat.lt_of_le_of_lt (zix _) de);unfold kF Qh;by_cases hc:36028797018963966≤uF d j
 · rw[decide_eq_true hc,if_pos rfl];show uF d j/2<36028797018963968
   omega
 · rw[decide_eq_false hc,if_neg de];show uF d j/1<36028797018963968
   omega
theorem aIz {d j:Nat} (hd:0<d∧d<18446744073709551616) (hj:3≤j∧j≤658):uF d j<72057594037927936:=by
 obtain ⟨_,ht1,_⟩:=wO (j:=j) om;have hB1:=Cy hd.1;have hB2:iB d≤64:=wT (k:=64) hd.2;refine K4 (Nat.mod_lt _ de) ht1 ?_;unfold sF eF;have:-2000≤l2p (((j:Nat):Int)-348)∧l2p (((j:Nat):Int)-348)≤2000:=by rw[l2p];omega
 omega
structure wY (g b o n c:Nat) (vs:List Value) (w:World):Prop where
 head:w.cell? ⟨g,0,none⟩=some (.slice (some ⟨b,o,none⟩) n c)
 cells:∀i v,vs[i]? =some v→w.cell? ⟨b,o+i,none⟩=some v
theorem Per.dA {X:Nat→Prop} {w:World} {p:Addr} {v:Value} (h:w.cell? p=some v) (hX:∀k,X k→w.heap.size≤k):Per X w (fun z=>z.cell? p=some v):=fun _ hb=>
 (hb.cell (World.block_lt_of_cell? w _ h) (fun hx=>Nat.lt_irrefl _ (Nat.lt_of_lt_of_le (World.block_lt_of_cell? w _ h) (hX _ hx)))).trans h
def iC:List Nat:=[4607182418800017408,4621819117588971520,4636737291354636288,4652007308841189376,4666723172467343360,4681608360884174848,4696837146684686336,4711630319722168320,4726483295884279808,4741671816366391296,4756540486875873280,4771362005757984768,4786511204640096256,4801453603149578240,4816244402031689728,4831355200913801216,4846369599423283200,4861130398305394688,4876203697187506176,4891288408196988160,4906019910204099648,4921056587992461136,4936209963552724370]
def pF (j:Nat):Nat:=iC.getD j 0
theorem tF {j:Nat} (h:j<23):(iC.map (fun f=>Value.float .f64 f))[j]? =some (.float .f64 (pF j)):=by
 have key:∀i:Fin 23,(iC[i.val]?)=some (pF i.val):=by decide +kernel
 rw[List.getElem?_map,key ⟨j,h⟩];rfl
theorem CX {j:Nat} (h:j<23):rg (pF j)<9218868437227405312∧rg (pF j)≠0∧ng (pF j)=false:=by
 have key:∀i:Fin 23,rg (pF i.val)<9218868437227405312∧rg (pF i.val)≠0∧ng (pF i.val)=false:=by decide +kernel
 exact key ⟨j,h⟩
def Vg:List Int:=[1,3,6,9,13,16,19,23,26]
def lcB (k:Nat):ByteArray:=⟨(Go.Pinned.cheatRows.getD k (0,[])).2.toArray⟩
theorem wZ {k:Nat} (h:yH k):(Go.Pinned.cheatRows.getD k (0,[])).1=pz k∧(Go.Pinned.cheatRows.getD k (0,[])).2.map (·.toNat)=sV k∧k<61:=by
 rcases h with rfl | rfl | rfl | rfl | rfl | rfl | rfl | rfl | rfl | rfl | rfl<;>exact ⟨by decide +kernel,by decide +kernel,de⟩
structure Vh (b o c:Nat) (w:World):Prop where
 head:w.cell? ⟨16,0,none⟩=some (.slice (some ⟨b,o,none⟩) 61 c)
 delta:∀k,yH k→w.cell? ⟨b,o+k*2,none⟩=some (.int .i64 ((pz k:Nat):Int))
 cut:∀k,yH k→w.cell? ⟨b,o+k*2+1,none⟩=some (.string (lcB k))
structure dB (bp op cp bf of cf bl ol cl:Nat) (w:World):Prop where
 pow:wP w
 man:w.cell? ⟨8,0,none⟩=some (.int .u64 52)
 exp:w.cell? ⟨8,1,none⟩=some (.int .u64 11)
 bias:w.cell? ⟨8,2,none⟩=some (.int .i64 (-1023))
 opt:w.cell? ⟨7,0,none⟩=some (.bool true)
 powtab:wY 11 bp op 9 cp (Vg.map (fun z=>Value.int .i64 z)) w
 ten:wY 12 bf of 23 cf (iC.map (fun f=>Value.float .f64 f)) w
 gQ:Vh bl ol cl w
structure iI (bp bf bl n:Nat):Prop where
 pow:13<n
 info:8<n
 opt:7<n
 pt:11<n
 tn:12<n
 ch:16<n
 bp:bp<n
 bf:bf<n
 bl:bl<n
theorem dB.below {w:World} {bp op cp bf of cf bl ol cl:Nat} (h:dB bp op cp bf of cf bl ol cl w):iI bp bf bl w.heap.size:=
 have lt {p:Addr} {v:Value} (e:w.cell? p=some v):p.block<w.heap.size:=World.block_lt_of_cell? w _ e;⟨h.pow.lt,lt h.man,lt h.opt,lt h.powtab.head,lt h.ten.head,lt h.gQ.head,lt (h.powtab.cells 0 _ rfl),lt (h.ten.cells 0 _ rfl),lt (h.gQ.delta 1 (.inl rfl))⟩
theorem iI.le {bp bf bl n m:Nat} (h:iI bp bf bl n) (hm:n≤m):iI bp bf bl m:=
 ⟨Nat.lt_of_lt_of_le h.pow hm,Nat.lt_of_lt_of_le h.info hm,Nat.lt_of_lt_of_le h.opt hm,Nat.lt_of_lt_of_le h.pt hm,Nat.lt_of_lt_of_le h.tn hm,Nat.lt_of_lt_of_le h.ch hm,Nat.lt_of_lt_of_le h.bp hm,Nat.lt_of_lt_of_le h.bf hm,Nat.lt_of_lt_of_le h.bl hm⟩
theorem Per.dP {X:Nat→Prop} {w:World} {p:Addr} {v:Value} {n:Nat} (h:w.cell? p=some v) (hp:p.block<n) (hX:∀k,X k→n≤k):Per X w (fun z=>z.cell? p=some v):=fun _ hb=>
 (hb.cell (World.block_lt_of_cell? w _ h) (fun hx=>Nat.lt_irrefl _ (Nat.lt_of_lt_of_le hp (hX _ hx)))).trans h
theorem Per.K9 {X:Nat→Prop} {w:World} {bp op cp bf of cf bl ol cl n:Nat} (h:dB bp op cp bf of cf bl ol cl w) (hn:iI bp bf bl n) (hX:∀k,X k→n≤k):Per X w (dB bp op cp bf of cf bl ol cl):=fun z hz=>
 ⟨Per.av5 h.pow (fun hx=>Nat.lt_irrefl _ (Nat.lt_of_lt_of_le hn.pow (hX _ hx))) z hz,Per.dP h.man hn.info hX z hz,Per.dP h.exp hn.info hX z hz,Per.dP h.bias hn.info hX z hz,Per.dP h.opt hn.opt hX z hz,
  ⟨Per.dP h.powtab.head hn.pt hX z hz,fun i v hv=>Per.dP (h.powtab.cells i v hv) hn.bp hX z hz⟩,⟨Per.dP h.ten.head hn.tn hX z hz,fun i v hv=>Per.dP (h.ten.cells i v hv) hn.bf hX z hz⟩,
  ⟨Per.dP h.gQ.head hn.ch hX z hz,fun k hk=>Per.dP (h.gQ.delta k hk) hn.bl hX z hz,fun k hk=>Per.dP (h.gQ.cut k hk) hn.bl hX z hz⟩⟩
theorem Per.tabs {X:Nat→Prop} {w:World} {bp op cp bf of cf bl ol cl:Nat} (h:dB bp op cp bf of cf bl ol cl w) (hX:∀k,X k→w.heap.size≤k):Per X w (dB bp op cp bf of cf bl ol cl):=Per.K9 h h.below hX
theorem CY (m:Nat):fV false (FloatKind.f64.nearest ((m:Nat):Int)):=by
 have e:FloatKind.f64.nearest ((m:Nat):Int)=Ieee.double.write (.number false m 0):=by
  show Ieee.double.write (.number (decide (((m:Nat):Int)<0)) ((m:Nat):Int).natAbs 0)=_
  rw[decide_eq_false om];rfl
 rw[e];have h:=yqx (d:=.number false m 0) rfl;exact ⟨h.1,ydk _ _ _,h.2⟩
theorem acj {b:Nat} {n:Bool} (h:fV n b):fV (!n) (b ^^^ 9223372036854775808):=by
 obtain ⟨h1,h2,h3⟩:=zfq h.lt;have e:b ^^^ 9223372036854775808=qf b:=rfl;rw[e];exact ⟨by rw[bI,h1];exact h.num,by rw[h2,h.sg],h3⟩
end Go.Proofs.YtmnmebdmpigddaaGreatDoor
namespace Go.Proofs.YtmnmebdmpigddaaGreatDoor
open Go.RowKit Proofs.Tryz
theorem CZ {P Q:Prop} (k:Q) (h:(Unit→Q)→P:=by
 intro zK;refine za rfl (vq pW rfl rfl (by rw[Nat.mul_one];exact (HF.on E).here.2.ten.cells _ _ (tF om)) ?_);exact zK ()):P:=h fun _=>k
theorem mM {P Q:Prop} (k:Q) (h:(Unit→Q)→P:=by
 intro zK;refine za rfl (vq FQ rfl rfl (HF.on E).here.2.ten.head (aN ?_));exact zK ()):P:=h fun _=>k
theorem Vi {P:Prop} (h:P:=by
 exact ⟨by rw[C8 h h1 om om,hf];rfl,(LW.step E ak).toBelow⟩):P:=h
theorem Iu {P:Prop} (h:P:=by
 exact ⟨by rw[hx];rfl,(LW.step E ak).toBelow⟩):P:=h
attribute [local irreducible] OW RS CW EW
def f0 (m:Nat) (neg:Bool):Nat:=if neg then FloatKind.f64.nearest ((m:Nat):Int) ^^^ 9223372036854775808 else FloatKind.f64.nearest ((m:Nat):Int)
theorem Vj (m:Nat) (neg:Bool):fV neg (f0 m neg):=by
 cases neg
 · rw[f0,if_neg de];exact CY m
 · rw[f0,if_pos rfl];exact acj (CY m)
def Iw (f:Nat) (p:Int):Nat:=if 22<p then oZ (dK .mul f (pF (p-22).toNat)) else f
def exQ (p:Int):Nat:=if 22<p then 22 else p.toNat
def xA (m:Nat) (p:Int) (neg:Bool):Nat×Bool:=
 if m/2^52≠0 then (0,false)
 else if p=0 then (f0 m neg,true)
 else if 0<p∧p≤37 then
  if (xg (Iw (f0 m neg) p) 4831355200913801216==some .gt)=true∨(xg (Iw (f0 m neg) p) 14054727237768577024==some .lt)=true then (Iw (f0 m neg) p,false)
  else (oZ (dK .mul (Iw (f0 m neg) p) (pF (exQ p))),true)
 else if p<0∧ -22≤p then (oZ (dK .quo (f0 m neg) (pF (-p).toNat)),true)
 else (f0 m neg,false)
theorem La {m:Nat} {p:Int} {neg:Bool} (h:m/2^52≠0):xA m p neg=(0,false):=by rw[xA,if_pos h]
theorem Lb {m:Nat} {p:Int} {neg:Bool} (h:¬m/2^52≠0) (h1:p=0):xA m p neg=(f0 m neg,true):=by rw[xA,if_neg h,if_pos h1]
theorem Vk {m:Nat} {p:Int} {neg:Bool} (h:¬m/2^52≠0) (h1:¬p=0) (h2:0<p∧p≤37) {b:Bool} (hb:b=(xg (Iw (f0 m neg) p) 4831355200913801216==some .gt || xg (Iw (f0 m neg) p) 14054727237768577024==some .lt)):xA m p neg=if b then (Iw (f0 m neg) p,false) else (oZ (dK .mul (Iw (f0 m neg) p) (pF (exQ p))),true):=by
 rw[xA,if_neg h,if_neg h1,if_pos h2,hb];simp only[Bool.or_eq_true]
theorem C9 {m:Nat} {p:Int} {neg:Bool} (h:¬m/2^52≠0) (h1:¬p=0) (h2:¬(0<p∧p≤37)) (h3:p<0∧ -22≤p):xA m p neg=(oZ (dK .quo (f0 m neg) (pF (-p).toNat)),true):=by rw[xA,if_neg h,if_neg h1,if_neg h2,if_pos h3]
theorem C8 {m:Nat} {p:Int} {neg:Bool} (h:¬m/2^52≠0) (h1:¬p=0) (h2:¬(0<p∧p≤37)) (h3:¬(p<0∧ -22≤p)):xA m p neg=(f0 m neg,false):=by rw[xA,if_neg h,if_neg h1,if_neg h2,if_neg h3]
theorem Vl {f:Nat} {p:Int} (h:22<p):Iw f p=oZ (dK .mul f (pF (p-22).toNat)):=by rw[Iw,if_pos h]
theorem Vm {f:Nat} {p:Int} (h:¬22<p):Iw f p=f:=by rw[Iw,if_neg h]
theorem Vn {p:Int} (h:22<p):exQ p=22:=by rw[exQ,if_pos h]
theorem Vo {p:Int} (h:¬22<p):exQ p=p.toNat:=by rw[exQ,if_neg h]
attribute [local irreducible] f0 Iw pF oZ xg
theorem ad1 (p q:Int):(p==q)=decide (p=q):=by by_cases h:p=q<;>simp[h]
theorem OM (m:Nat):(((m:Nat):Int) !=0)=decide (m≠0):=by
 by_cases h:m=0
 · subst h;rfl
 · rw[decide_eq_true h];exact bne_iff_ne.2 om
theorem vfv {f j:Nat} {n:Bool} (hf:fV n f) (hj:j<23):dK .mul f (pF j)=some (oZ (dK .mul f (pF j)))∧fV n (oZ (dK .mul f (pF j))):=by
 obtain ⟨h1,h2,h3⟩:=CX hj;obtain ⟨z,hz,hs⟩:=ac6 hf h1 h2 h3;rw[rU hz];exact ⟨hz,hs⟩
theorem Lc {f j:Nat} {n:Bool} (hf:fV n f) (hj:j<23):dK .quo f (pF j)=some (oZ (dK .quo f (pF j)))∧fV n (oZ (dK .quo f (pF j))):=by
 obtain ⟨h1,h2,h3⟩:=CX hj;obtain ⟨z,hz,hs⟩:=ac7 hf h1 h2 h3;rw[rU hz];exact ⟨hz,hs⟩
theorem ad2 {f:Nat} {p:Int} {n:Bool} (h:fV n f) (hp:p≤37):fV n (Iw f p):=by
 by_cases h2:22<p
 · rw[Vl h2];exact (vfv h om).2
 · rw[Vm h2];exact h
theorem aw3 (p:Int):exQ p<23:=by
 by_cases h2:22<p
 · rw[Vn h2];decide
 · rw[Vo h2];omega
theorem ad3 {m:Nat} {p:Int} {neg:Bool} (h:(xA m p neg).2=true):fV neg (xA m p neg).1:=by
 have h0:=Vj m neg;by_cases a1:m/2^52≠0
 · rw[La a1] at h;cases h
 · by_cases a2:p=0
   · rw[Lb a1 a2];exact h0
   · by_cases a3:0<p∧p≤37
     · have hx:=Vk (neg:=neg) a1 a2 a3 rfl;rw[hx] at h ⊢;split at h
       · cases h
       · rename_i hb
         rw[if_neg hb];exact (vfv (ad2 h0 a3.2) (aw3 p)).2
     · by_cases a4:p<0∧ -22≤p
       · rw[C9 a1 a2 a3 a4];exact (Lc h0 om).2
       · rw[C8 a1 a2 a3 a4] at h;cases h
section
variable (w:World) {bp op cp bf of cf bl ol cl:Nat}
theorem OO (m:Nat) (p:Int) (neg:Bool) (hp:-10000≤p∧p≤10000) (hT:dB bp op cp bf of cf bl ol cl w) :
 Calls prog 226 #[.int .u64 ((m:Nat):Int),.int .i64 p,.bool neg] w (aI w (.tuple #[.float .f64 (xA m p neg).1,.bool (xA m p neg).2])):=by
 refine zc func226 rfl ntmps226 rfl ?_;obtain ⟨HF,LW,ak,E⟩:=bg w;replace HF:=HF.and (Per.tabs hT (fun _ h=>h.elim));refine yu ?_;refine za rfl (vq Rh rfl rfl (HF.on E).here.2.man (za rfl (jh rfl rfl de (xk m 52 de) (zn ?_))));refine zd 12 (.bool (decide (m/2^52≠0))) rfl (by rw[OM]<;>rfl) (zg rfl (fun h=>?_) (fun h=>?_))
 ·
  have h:=of_decide_eq_true h;refine zn ?_;exact ⟨by rw[La h];rfl,(LW.step E ak).toBelow⟩
 ·
  have h:=of_decide_eq_false h;refine zu ?_;refine za rfl (aq5 pW (by rw[u25];rfl) rfl (qd ?_));replace HF:=HF.on E;replace LW:=LW.step E ak;replace E:=aD (No) w;refine yh (ι:=Nat) (fun f=>[(1,.int .i64 p),(7,.bool false),(6,.float .f64 f)]) (fun f w'=>Ext (No) w w'∧(f=f0 m neg)) ?_ ?_
  ·
   have M1:=aD (No) w;have dz:=aS (No) w;refine zg rfl (fun hn=>?_) (fun hn=>?_)
   ·
    refine zm ?_;refine za rfl (J3 rfl (zm ?_));exact zt (FloatKind.f64.nearest ((m:Nat):Int) ^^^ 9223372036854775808) ⟨rfl,rfl,rfl,trivial⟩ ⟨M1.step E dz,by rw[hn,f0,if_pos rfl]⟩
   ·
    refine aN ?_;exact zt (FloatKind.f64.nearest ((m:Nat):Int)) ⟨rfl,rfl,rfl,trivial⟩ ⟨M1.step E dz,by rw[hn,f0,if_neg de]⟩
  ·
   rintro f w2 ⟨M1,hf⟩;replace E:=E.trans M1;replace HF:=HF.on E;replace LW:=LW.step E ak;replace E:=aD (No) w2;have hs:=Vj m neg;rw[←hf] at hs;refine qd ?_;refine zd 18 (.bool (decide (p=0))) rfl (by rw[ad1]<;>rfl) (zg rfl (fun h1=>?_) (fun h1=>?_))
   ·
    have h1:=of_decide_eq_true h1;refine yu ?_;exact ⟨by rw[Lb h h1,hf];rfl,(LW.step E ak).toBelow⟩
   ·
    have h1:=of_decide_eq_false h1;refine zu ?_;refine zj 25 rfl (fun h2=>?_) (fun h2=>?_)
    ·
     have h2:=of_decide_eq_true h2;refine zl ?_;refine zg rfl (fun h3=>?_) (fun h3=>?_)
     ·
      have h3:=of_decide_eq_true h3;refine zp ?_;replace HF:=HF.on E;replace LW:=LW.step E ak;replace E:=aD (No) w2;refine yh (ι:=Nat×Nat) (fun (g,q)=>[(1,.int .i64 ((q:Nat):Int)),(7,.bool false),(6,.float .f64 g)]) (fun (g,q) w'=>Ext (No) w2 w'∧(g=Iw f p∧q=exQ p∧q<23∧fV neg g)) ?_ ?_
      ·
       have M3:=aD (No) w2;have aV:=aS (No) w2;refine zg rfl (fun h4=>?_) (fun h4=>?_)
       ·
        have h4:=of_decide_eq_true h4;have hmt:=vfv hs (j:=(p-22).toNat) om;refine zn ?_;refine mM ?_;refine yl ?_;refine za rfl (jy (j:=(p-22).toNat) FQ Rj rfl rfl om om (CZ ?_));refine za rfl (QW (.inr (.inr (.inl rfl))) rfl rfl hmt.1 (zl ?_));exact zt (oZ (dK .mul f (pF (p-22).toNat)),22) ⟨rfl,rfl,rfl,trivial⟩ ⟨M3.step E aV,(Vl h4).symm,(Vn h4).symm,de,hmt.2⟩
       ·
        have h4:=of_decide_eq_false h4;refine aN ?_;exact zt (f,p.toNat) ⟨congrArg (fun z:Int=>some (Value.int .i64 z)) om,rfl,rfl,trivial⟩ ⟨M3.step E aV,(Vm h4).symm,(Vo h4).symm,om,hs⟩
      ·
       rintro ⟨g,q⟩ w4 ⟨M3,⟨hg,hq,aw4,hgs⟩⟩;replace E:=E.trans M3;replace HF:=HF.on E;replace LW:=LW.step E ak;replace E:=aD (No) w4;have hx:=Vk (neg:=neg) h h1 ⟨h2,h3⟩ rfl;rw[←hf,←hg,←hq] at hx;refine zx ?_;refine za rfl (uP rfl rfl (aN ?_));refine zj 40 rfl (fun h5=>?_) (fun h5=>?_)
       ·
        rw[h5,Bool.true_or,if_pos rfl] at hx;refine yu ?_;exact Iu
       ·
        rw[h5,Bool.false_or] at hx;refine aN ?_;refine bO rfl (vfx rfl rfl (zn ?_));refine zg rfl (fun h6=>?_) (fun h6=>?_)
        ·
         rw[h6,if_pos rfl] at hx;refine zu ?_;exact Iu
        ·
         rw[h6,if_neg de] at hx;have hmt:=vfv hgs aw4;refine zu ?_;refine mM ?_;refine za rfl (jy (j:=q) FQ Rj rfl rfl rfl aw4 (za rfl (vq pW rfl rfl (by rw[Nat.mul_one];exact (HF.on E).here.2.ten.cells _ _ (tF aw4)) (za rfl (QW (.inr (.inr (.inl rfl))) rfl rfl hmt.1 (yi ?_))))));exact Iu
     ·
      have h3:=of_decide_eq_false h3;refine zu ?_;refine zf 53 (.bool false) rfl (by rw[decide_eq_false om]<;>rfl) (vp ?_);exact Vi
    ·
     have h2:=of_decide_eq_false h2;refine vp ?_;refine zf 53 (.bool true) rfl (by rw[decide_eq_true om]<;>rfl) (zl ?_);refine zg rfl (fun h3=>?_) (fun h3=>?_)
     ·
      have h3:=of_decide_eq_true h3;have hmt:=Lc hs (j:=(-p).toNat) om;refine zn ?_;refine mM ?_;refine zjk ?_;refine za rfl (jy (j:=(-p).toNat) FQ Rj rfl rfl om om (CZ ?_));refine za rfl (QW (.inr (.inr (.inr rfl))) rfl rfl hmt.1 (yi ?_));exact ⟨by rw[C9 h h1 om ⟨om,h3⟩,hf];rfl,(LW.step E ak).toBelow⟩
     ·
      have h3:=of_decide_eq_false h3;refine zu ?_;exact Vi
end
end Go.Proofs.YtmnmebdmpigddaaGreatDoor
namespace Go.Proofs.YtmnmebdmpigddaaGreatDoor
open Go.RowKit Proofs.Tryz
theorem zy {P Q:Prop} (k:Q) (h:(Unit→Q)→P:=by
 intro zK;refine za rfl (qjv u9 rfl ?_);exact zK ()):P:=h fun _=>k
theorem Vp {P:Prop} (h:P:=by
 refine qa rfl (yu ?_);refine gr (rs:=[.tmp 2,.tmp 3,.tmp 4]) (vs:=[_,_,_]) rfl ⟨rfl,rfl,rfl,trivial⟩ ?_;exact xj):P:=h
attribute [local irreducible] OW RS CW EW
theorem ad4 {s:ByteArray} {j u:Nat} (h:(s.data[j]?).map (·.toNat)=some u):j<s.size∧u<256:=by
 obtain ⟨c,h1,rfl⟩:=Option.map_eq_some_iff.1 h;have h2:j<s.data.size:=by
  rcases Nat.lt_or_ge j s.data.size with h3 | h3
  · exact h3
  · rw[Array.getElem?_eq_none h3] at h1;cases h1
 exact ⟨h2,c.toNat_lt⟩
theorem vm {p q:Int} (h:p≠q):(p==q)=false:=beq_eq_false_iff_ne.2 h
theorem aJ0 {u:Nat} (h:u<256):IntKind.u8.wrap (BitVec.ofInt IntKind.u8.bits ((u:Nat):Int) ||| BitVec.ofInt IntKind.u8.bits 32).toNat=((u ||| 32:Nat):Int):=by
 have key:∀v:Fin 256,IntKind.u8.wrap (BitVec.ofInt IntKind.u8.bits (v.val:Int) ||| BitVec.ofInt IntKind.u8.bits 32).toNat=((v.val ||| 32:Nat):Int):=by decide +kernel
 exact key ⟨u,h⟩
section
variable (w:World)
theorem OP (u:Nat) (hu:u<256):Calls prog 180 #[.int .u8 ((u:Nat):Int)] w (aI w (.int .u8 ((u ||| 32:Nat):Int))):=by
 refine zc func180 rfl ntmps180 rfl ?_;have LW:=aD (No) w;have ak:=aS (No) w;have E:=aD (No) w;refine yi ?_;refine za rfl (qO rfl rfl (aJ0 hu) ?_);exact ZB
theorem qG (s:ByteArray) (u:Nat) (hu:(s.data[0]?).map (·.toNat)=some u) (hd:48≤u∧u≤57):Calls prog 215 #[.string s] w (aI w (.tuple #[.float .f64 0,.int .i64 0,.bool false])):=by
 have hs:=(ad4 hu).1;refine zc func215 rfl ntmps215 rfl ?_;have LW:=aD (No) w;have ak:=aS (No) w;have E:=aD (No) w;refine yu ?_;refine zy ?_;refine zn ?_;refine zd 10 (.bool false) rfl (by rw[vm om]) (Mq ?_);refine za rfl (yn (j:=0) (b:=u) u9 rfl rfl rfl hu (Qa ?_));refine zd 13 (.bool false) rfl (by rw[vm om]<;>rfl) (zl ?_);refine zd 13 (.bool false) rfl (by rw[vm om]<;>rfl) (yu ?_);refine zd 16 (.bool false) rfl (by rw[vm om]<;>rfl) (zl ?_);refine zd 16 (.bool false) rfl (by rw[vm om]<;>rfl) (zz ?_);refine zd 19 (.bool false) rfl (by rw[vm om]<;>rfl) (zl ?_);refine zd 19 (.bool false) rfl (by rw[vm om]<;>rfl) (zx ?_);refine qa rfl (aN ?_);refine qa rfl (aN ?_);exact Vp
end
end Go.Proofs.YtmnmebdmpigddaaGreatDoor
namespace Go.Proofs.YtmnmebdmpigddaaGreatDoor
open Go.RowKit
def dw (neg:Bool):Nat:=if neg then 9223372036854775808 else 0
theorem xI (neg:Bool):dw neg<18446744073709551616:=by cases neg<;>decide
theorem ylq {x:Nat} (h:x≤9218868437227405312) (neg:Bool):fV neg (dw neg ||| x):=by
 cases neg with
 | false=>
  rw[show dw false=0 from rfl,Nat.zero_or];refine ⟨?_,?_,om⟩
  · unfold bI rg;exact decide_eq_false om
  · unfold ng;exact beq_eq_false_iff_ne.2 om
 | true=>
  have e:dw true ||| x=9223372036854775808+x:=by
   have h1:x<2^63:=by show x<9223372036854775808;omega
   have h2:=Nat.two_pow_add_eq_or_of_lt h1 1;have h3:(2^63*1:Nat)=9223372036854775808:=de;rw[h3] at h2;exact h2.symm
  rw[e];refine ⟨?_,?_,om⟩
  · unfold bI rg;exact decide_eq_false om
  · unfold ng;exact beq_iff_eq.2 om
theorem Vy (m k:Nat) (neg:Bool):Yj (dw neg ||| m) k=dw neg ||| Yj m k:=by
 have e1:dw neg &&& 4503599627370496=0:=by cases neg<;>decide +kernel
 have e2:dw neg &&& 9223372036854775808=dw neg:=by cases neg<;>decide +kernel
 have e3:dw neg &&& 18442240474082181119=dw neg:=by cases neg<;>decide +kernel
 unfold Yj Cw Cx mq Yi;rw[Nat.and_or_distrib_right,Nat.and_or_distrib_right,Nat.and_or_distrib_right,e1,e2,e3,Nat.zero_or];split
 · rfl
 · split
   · rw[Nat.or_assoc]
   · rw[Nat.or_assoc]
theorem Vz {d j:Nat} (neg:Bool) (hd:0<d∧d<18446744073709551616) (hj:3≤j∧j≤658):fV neg (qmv d j (dw neg)):=by
 unfold qmv;split
 · exact ylq (Nat.zero_le _) neg
 · unfold mF;rw[Vy];exact ylq (Io (OA (avq (aIz hd hj)))) neg
theorem VA (m e:Nat) (neg:Bool):tH m e neg=dw neg ||| ((m &&& 4503599627370495) ||| e*4503599627370496):=by
 unfold tH;cases neg with
 | false=>rw[if_neg de,show dw false=0 from rfl,Nat.zero_or]
 | true=>rw[if_pos rfl,Nat.or_comm];rfl
theorem VB {m e:Nat} {neg:Bool} (h:e≤2046∨(m=0∧e=2047)):fV neg (tH m e neg):=by
 rw[VA];refine ylq ?_ neg;rcases h with h | ⟨rfl,rfl⟩
 · have h1:m &&& 4503599627370495<2^52:=by
    have:m &&& 4503599627370495≤4503599627370495:=Nat.and_le_right;show m &&& 4503599627370495<4503599627370496;omega
   have h2:=Nat.two_pow_add_eq_or_of_lt h1 e;have h3:(2^52:Nat)=4503599627370496:=de;rw[h3] at h1 h2;rw[Nat.or_comm,Nat.mul_comm e,←h2];omega
 · decide +kernel
def aw7 (r:Nat×Nat×Bool):Prop:=r.2.1≤2046∨(r.1=0∧r.2.1=2047)
theorem Dm {t:Dec} {e:Int} (h:e≤1023):aw7 (vcz t e):=by
 unfold vcz;split
 · split
   · exact .inr ⟨rfl,rfl⟩
   · exact .inl (by show (e+1+1023).toNat≤2046;omega)
 · refine .inl ?_;show (if Lf t &&& 4503599627370496=0 then 0 else (e+1023).toNat)≤2046
   split<;>omega
theorem VD (t:Dec) (e:Int):aw7 (tJ t e):=by
 unfold tJ;split
 · exact Dm de
 · split
   · exact .inr ⟨rfl,rfl⟩
   · exact Dm om
theorem VE (t:Dec):aw7 (xC t):=by
 unfold xC;split
 · exact .inl (Nat.zero_le _)
 · split
   · exact .inr ⟨rfl,rfl⟩
   · split
     · exact .inl (Nat.zero_le _)
     · exact VD _ _
theorem OV (t:Dec):fV t.neg (Lg t):=VB (VE t)
theorem aw8 (s:ByteArray) (a:Lh):(xa s a).t.neg=a.t.neg:=by
 unfold xa;exact xD
theorem ad7 {s:ByteArray} {f p E q:Nat} (neg:Bool) (hs:Nm s f p E q):(stA s f neg).t.neg=neg:=by
 have h:=vj (done:=OU s) (step:=xa s) (fun a=>StN s f p E q a∧a.t.neg=neg) (fun t=>E-t.i) (fun t h hd=>?_) ⟨qrq neg hs,rfl⟩
 · exact h.1.2
 · obtain ⟨h1,h2⟩:=qrk hs h.1 hd;refine ⟨⟨h1,by rw[aw8];exact h.2⟩,?_⟩;rw[aJ2];omega
theorem VF {s:ByteArray} {f p E q:Nat} (neg:Bool) (hs:Nm s f p E q):(fO s f neg).neg=neg:=ad7 neg hs
def dZ:Value:=.iface 183 (.int .i64 1)
noncomputable def iQ (s:ByteArray) (f:Nat):Nat:=(OT s f).m
noncomputable def OX (s:ByteArray) (f:Nat):Bool:=(OT s f).tr
noncomputable def Dn (s:ByteArray) (f:Nat):Nat:=(Di s f+348).toNat
noncomputable def atF (s:ByteArray) (f:Nat) (neg:Bool):Nat:=qmv (iQ s f) (Dn s f) (dw neg)
noncomputable def atG (s:ByteArray) (f:Nat) (neg:Bool):Nat:=qmv (iQ s f+1) (Dn s f) (dw neg)
noncomputable def atL (s:ByteArray) (f:Nat) (neg:Bool):Bool:=xg (atF s f neg) (atG s f neg)==some .eq
noncomputable def iD (s:ByteArray) (f:Nat) (neg:Bool):Nat:=
 if iQ s f=0 then dw neg ||| 0
 else if 310<Di s f then dw neg ||| 9218868437227405312
 else if Di s f< -345 then dw neg ||| 0
 else if OX s f=false∧(xA (iQ s f) (Di s f) neg).2=true then (xA (iQ s f) (Di s f) neg).1
 else if OX s f=false∨atL s f neg=true then atF s f neg
 else Lg (fO s f neg)
noncomputable def mV (s:ByteArray) (f:Nat) (neg:Bool):Value:=
 if iQ s f=0 then .nilIface
 else if 310<Di s f then dZ
 else if Di s f< -345 then .nilIface
 else if OX s f=false∧(xA (iQ s f) (Di s f) neg).2=true then .nilIface
 else if OX s f=false∨atL s f neg=true then qnx (iQ s f) (Dn s f) (dw neg)
 else if (xC (fO s f neg)).2.2 then dZ else .nilIface
theorem VG (m k:Nat):vbz m k= .nilIface∨vbz m k=dZ:=by
 unfold vbz;split
 · exact .inl rfl
 · split
   · exact .inr rfl
   · exact .inl rfl
theorem VH (d j g:Nat):qnx d j g= .nilIface∨qnx d j g=dZ:=by
 unfold qnx;split
 · exact .inl rfl
 · exact VG _ _
theorem aw9 (s:ByteArray) (f:Nat) (neg:Bool):mV s f neg= .nilIface∨mV s f neg=dZ:=by
 unfold mV;split
 · exact .inl rfl
 · split
   · exact .inr rfl
   · split
     · exact .inl rfl
     · split
       · exact .inl rfl
       · split
         · exact VH _ _ _
         · split
           · exact .inr rfl
           · exact .inl rfl
theorem VI {s:ByteArray} {f p E q:Nat} (hs:Nm s f p E q):iQ s f<10000000000000000000:=by
 obtain ⟨h,_⟩:=Dh hs;have h1:10^(OT s f).nm≤10^19:=Nat.pow_le_pow_right de h.hn;have h2:=h.hm;unfold iQ;have h3:(10:Nat)^19=10000000000000000000:=de;rw[h3] at h1;omega
theorem viv {s:ByteArray} {f p E q:Nat} (neg:Bool) (hs:Nm s f p E q):fV neg (iD s f neg):=by
 have hm:=VI hs;unfold iD;split
 · exact ylq (Nat.zero_le _) neg
 · rename_i h0
   split
   · exact ylq (Nat.le_refl _) neg
   · rename_i h1
     split
     · exact ylq (Nat.zero_le _) neg
     · rename_i h2
       split
       · rename_i h3;exact ad3 h3.2
       · split
         · exact Vz neg ⟨om,om⟩ (by unfold Dn;omega)
         · have:=OV (fO s f neg);rwa [VF neg hs] at this
end Go.Proofs.YtmnmebdmpigddaaGreatDoor
namespace Go.Proofs.YtmnmebdmpigddaaGreatDoor
open Go.RowKit Proofs.Tryz
theorem Dp {P Q:Prop} (k:Q) (h:(Unit→Q)→P:=by
 intro zK;refine zm ?_;refine bO rfl (yn (j:=x.i) (b:=aJ s x.i) u9 rfl rfl rfl (qh h7) ?_);exact zK ()):P:=h fun _=>k
theorem zwv {P Q:Prop} (k:Q) (h:(Unit→Q)→P:=by
 intro zK;refine zl ?_;refine yo ?_;refine zm ?_;exact zK ()):P:=h fun _=>k
theorem zjq {P Q:Prop} (k:Q) (h:(Unit→Q)→P:=by
 intro zK;refine zu ?_;refine zy ?_;refine zm ?_;exact zK ()):P:=h fun _=>k
theorem qfx {P Q:Prop} (k:Q) (h:(Unit→Q)→P:=by
 intro zK;refine za rfl (yn (j:=0) (b:=aJ s 0) u9 rfl rfl rfl (qh om) ?_);exact zK ()):P:=h fun _=>k
theorem zoz {P Q:Prop} (k:Q) (h:(Unit→Q)→P:=by
 intro zK;refine za rfl (JV u4 rfl rfl (zn ?_));exact zK ()):P:=h fun _=>k
theorem VJ {P:Prop} (h:P:=by
 exact zt () ⟨rfl,rfl,rfl,rfl,rfl,rfl,rfl,rfl,rfl,trivial⟩ ⟨M1.step E dz,trivial⟩):P:=h
theorem VK {P:Prop} (h:P:=by
 exact zt t ⟨rfl,rfl,rfl,rfl,rfl,rfl,rfl,rfl,rfl,rfl,rfl,rfl,rfl,rfl,rfl,rfl,rfl,trivial⟩ ⟨M6.step E mW,hu⟩):P:=h
theorem VL {P:Prop} (h:P:=by
 exact zt () ⟨rfl,rfl,rfl,rfl,rfl,rfl,rfl,rfl,rfl,rfl,rfl,rfl,rfl,trivial⟩ ⟨M3.step E aV,trivial⟩):P:=h
theorem alq {P:Prop} (h:P:=by
 rcases hx2 with ⟨h9,h10,h11⟩ | ⟨h9,h10⟩
 · rw[if_neg h11,if_neg h10,if_neg h11,←h9,Int.mul_one]
 · rcases h10 with h10 | h10
   · rw[if_neg om,if_pos h10,if_neg om,←h9,Int.mul_one]
   · rw[if_pos h10,if_pos h10,←h9,Int.mul_neg,Int.mul_one]):P:=h
theorem alz {P:Prop} (h:P:=by
 intro w;refine zc func180 rfl ntmps180 rfl ?_;have LW:=aD (No) w;have ak:=aS (No) w;have E:=aD (No) w;refine yi ?_;refine za rfl (qO (z:=101) rfl rfl kr (zx ?_));refine gr (rs:=[.tmp 2]) (vs:=[.int .u8 101]) rfl ⟨rfl,trivial⟩ ?_;exact xj):P:=h
theorem alj {P:Prop} (h:P:=by
 by_cases hm0:t.m=0
 ·
  refine zd 241 (.bool false) rfl (by rw[hm0];rfl) (RG ?_);refine oe ?_;have e2:Di s f=0:=by unfold Di;rw[←ht,if_neg (fun h=>h hm0)]
  refine gr (rs:=[.tmp 2,.tmp 3,.tmp 4,.tmp 5,.tmp 6,.tmp 7,.tmp 8]) (vs:=[_,_,_,_,_,_,_]) rfl ⟨rfl,rfl,rfl,rfl,rfl,rfl,rfl,trivial⟩ ?_;exact ⟨by rw[e1,e2,e3];rfl,(LW.step E ak).toBelow⟩
 ·
  refine zd 241 (.bool true) rfl (aJ5 om) (zx ?_);refine za rfl (jg rfl rfl (yx om) (RG ?_));refine oe ?_;have e2:Di s f=rdP s f-(t.nm:Int):=by unfold Di;rw[←ht,if_pos hm0]
  refine gr (rs:=[.tmp 2,.tmp 3,.tmp 4,.tmp 5,.tmp 6,.tmp 7,.tmp 8]) (vs:=[_,_,_,_,_,_,_]) rfl ⟨rfl,rfl,rfl,rfl,rfl,rfl,rfl,trivial⟩ ?_;exact ⟨by rw[e1,e2,e3,←hP];rfl,(LW.step E ak).toBelow⟩):P:=h
theorem aJ6 {P:Prop} (h:P:=by
 refine za rfl (vo rfl rfl (yx om) (yu ?_));refine zg rfl (fun h5=>?_) (fun h5=>?_)
 ·
  have h5:t.nm<19:=by have h5:=of_decide_eq_true h5;omega
  have hm18:=aR3 hm h5;have hstep:go s t= { t with i:=t.i+1,bR:=true,nd:=t.nd+1,nm:=t.nm+1,m:=t.m*10+(aJ s t.i-48) }:=by unfold go;rw[if_neg iF,if_neg hnz,if_pos h5]
  rw[hstep] at hkeep hu2;refine zx ?_;refine za rfl (xr rfl rfl (wrap_u64 om) (zp ?_));refine za rfl (jg rfl rfl (ybz om) (za rfl (jp u25 u5 rfl (wrap_u64 om) (za rfl (vo rfl rfl (wrap_u64 om) (zu ?_))))));refine za rfl (vo rfl rfl (yx om) (zx ?_));refine qa rfl (zu ?_);refine za rfl (vo rfl rfl (yx om) (zm ?_));refine zq 2 (.int .u64 ((t.m*10+(aJ s t.i-48):Nat):Int)) rfl ((by congr 1;omega:(.int .u64 (((t.m:Int)*10)+(((aJ s t.i:Nat):Int)-48)):Value)=_)) ?_;exact zo ({ t with i:=t.i+1,bR:=true,nd:=t.nd+1,nm:=t.nm+1,m:=t.m*10+(aJ s t.i-48) }) (by show Z-(t.i+1)<Z-t.i;omega) ⟨rfl,rfl,rfl,rfl,rfl,rfl,rfl,rfl,rfl,rfl,rfl,rfl,rfl,rfl,rfl,rfl,rfl,trivial⟩ ⟨M8.step E lJ,hkeep,hu2⟩
 ·
  have h5:¬t.nm<19:=by have h5:=of_decide_eq_false h5;omega
  have hstep:go s t= { t with i:=t.i+1,bR:=true,nd:=t.nd+1,tr:=t.tr || decide (aJ s t.i≠48) }:=by unfold go;rw[if_neg iF,if_neg hnz,if_neg h5]
  rw[hstep] at hkeep hu2;refine zl ?_;refine zg rfl (fun h6=>?_) (fun h6=>?_)
  ·
   have h6:aJ s t.i≠48:=fun e=>absurd h6 (by rw[e];decide);refine zu ?_;refine qa rfl (zu ?_);refine za rfl (vo rfl rfl (yx om) (zm ?_));refine zq 5 (.bool (t.tr || decide (aJ s t.i≠48))) rfl ((by rw[decide_eq_true h6,Bool.or_true]:(.bool true:Value)=_)) ?_;exact zo ({ t with i:=t.i+1,bR:=true,nd:=t.nd+1,tr:=t.tr || decide (aJ s t.i≠48) }) (by show Z-(t.i+1)<Z-t.i;omega) ⟨rfl,rfl,rfl,rfl,rfl,rfl,rfl,rfl,rfl,rfl,rfl,rfl,rfl,rfl,rfl,rfl,rfl,trivial⟩ ⟨M8.step E lJ,hkeep,hu2⟩
  ·
   have h6:aJ s t.i=48:=by
    rcases Nat.decEq (aJ s t.i) 48 with h7 | h7
    · rw[bne_iff_ne.2 om] at h6;cases h6
    · exact h7
   refine zn ?_;refine qa rfl (zu ?_);refine za rfl (vo rfl rfl (yx om) (zm ?_));refine zq 5 (.bool (t.tr || decide (aJ s t.i≠48))) rfl ((by rw[decide_eq_false (fun h=>h h6),Bool.or_false]:(.bool t.tr:Value)=_)) ?_;exact zo ({ t with i:=t.i+1,bR:=true,nd:=t.nd+1,tr:=t.tr || decide (aJ s t.i≠48) }) (by show Z-(t.i+1)<Z-t.i;omega) ⟨rfl,rfl,rfl,rfl,rfl,rfl,rfl,rfl,rfl,rfl,rfl,rfl,rfl,rfl,rfl,rfl,rfl,trivial⟩ ⟨M8.step E lJ,hkeep,hu2⟩):P:=h
attribute [local irreducible] OW RS CW EW
theorem awq {u:Nat} (h:(48≤u∧u≤57)∨u=46∨u=101∨u=0):(u ||| 32)≠120:=by
 rcases h with h | rfl | rfl | rfl
 · have key:∀v:Fin 58,48≤v.val→(v.val ||| 32)≠120:=de;exact key ⟨u,om⟩ h.1
 · decide
 · decide
 · decide
theorem aR3 {m n:Nat} (h:m<10^n) (hn:n<19):m<1000000000000000000:=by
 have h1:10^n≤10^18:=Nat.pow_le_pow_right de om;have h2:(10:Nat)^18=1000000000000000000:=de;omega
theorem Nm.next {s:ByteArray} {f p E q:Nat} (h:Nm s f p E q) (h1:f+1<s.size):(48≤aJ s (f+1)∧aJ s (f+1)≤57)∨aJ s (f+1)=46∨aJ s (f+1)=101∨aJ s (f+1)=0:=by
 have hf:=h.fp;have hp:=h.pE;rcases Nat.lt_or_ge (f+1) E with h2 | h2
 · rcases h.at_ (i:=f+1) om h2 with h3 | h3
   · exact .inl h3.2
   · exact .inr (.inl h3.2)
 · have e:E=f+1:=om;rw[←e];exact .inr (.inr (.inl (h.exp om).1))
theorem Nm.first {s:ByteArray} {f p E q:Nat} (h:Nm s f p E q):48≤aJ s f∧aJ s f≤57:=h.aJ1 f (Nat.le_refl _) h.fp
theorem Nm.size {s:ByteArray} {f p E q:Nat} (h:Nm s f p E q):f<s.size:=by have:=h.fp;have:=h.pE;have:=h.hE;omega
theorem aJ5 {m:Nat} (h:m≠0):((.bool (((m:Nat):Int) !=0)):Value)= .bool true:=by rw[bne_iff_ne.2 om]
def eu (s:ByteArray) (f:Nat) (neg:Bool):Prop:=(neg=false∧f=0)∨(neg=true∧f=1∧aJ s 0=45)
theorem eu.neg {s:ByteArray} {f:Nat} {neg:Bool} (h:eu s f neg) (hn:neg=true):f=1∧aJ s 0=45:=by
 rcases h with h | h
 · rw[h.1] at hn;cases hn
 · exact h.2
theorem eu.pos {s:ByteArray} {f:Nat} {neg:Bool} (h:eu s f neg) (hn:¬neg=true):f=0:=by
 rcases h with h | h
 · exact h.2
 · exact absurd h.1 hn
theorem VN:Gives 180 #[.int .u8 101] (.int .u8 101):=by
 exact alz
section
variable (w:World)
theorem OZ (s:ByteArray) (f:Nat) (neg:Bool) {p Z q:Nat} (hsg:eu s f neg) (hs:Nm s f p Z q) (hl:s.size<100000):Calls prog 216 #[.string s] w (aI w (.tuple #[.int .u64 ((iQ s f:Nat):Int),.int .i64 (Di s f),.bool neg,.bool (OX s f),.bool false,.int .i64 (s.size:Int),.bool true])):=by
 have hfs:f<s.size:=hs.size;have hfd:=hs.first;refine zc func216 rfl ntmps216 rfl ?_;have LW:=aD (No) w;have ak:=aS (No) w;have E:=aD (No) w;refine yu ?_;refine y9 4 (zz ?_);refine zy ?_;refine zn ?_;refine zd 24 (.bool false) rfl (by rw[decide_eq_false om]<;>rfl) (yi ?_);refine qfx ?_;refine zm ?_;replace LW:=LW.step E ak;replace E:=aD (No) w;refine yh (ι:=Unit) (fun _=>[(0,.string s),(2,.int .u64 0),(3,.int .i64 0),(4,.bool neg),(5,.bool false),(6,.bool false),(7,.int .i64 ((f:Nat):Int)),(8,.bool false),(9,.bool false)]) (fun _ w'=>Ext (No) w w'∧(True)) ?_ ?_
 ·
  have M1:=aD (No) w;have dz:=aS (No) w;refine zp ?_;by_cases hneg:neg=true
  ·
   obtain ⟨hf1,h45⟩:=hsg.neg hneg;refine zd 28 (.bool false) rfl (by rw[h45];rfl) (zp ?_);refine zd 32 (.bool true) rfl (by rw[h45];rfl) (zx ?_);refine za rfl (vo (z:=1) rfl rfl kr (zp ?_));refine zq 4 (.bool neg) rfl ((by rw[hneg]:(.bool true:Value)=_)) (zq 7 (.int .i64 ((f:Nat):Int)) rfl ((by rw[hf1];rfl:(.int .i64 1:Value)=_)) ?_);exact VJ
  ·
   have hf0:=hsg.pos hneg;rw[hf0] at hfd;refine zd 28 (.bool false) rfl (by rw[vm om]<;>rfl) (zp ?_);refine zd 32 (.bool false) rfl (by rw[vm om]<;>rfl) (zn ?_);refine zq 4 (.bool neg) rfl ((by rw[Bool.eq_false_iff.2 hneg]:(.bool false:Value)=_)) (zq 7 (.int .i64 ((f:Nat):Int)) rfl ((by rw[hf0];rfl:(.int .i64 0:Value)=_)) ?_);exact VJ
 ·
  rintro _ w2 ⟨M1,_⟩;replace E:=E.trans M1;replace LW:=LW.step E ak;replace E:=aD (No) w2;refine Mq ?_;replace LW:=LW.step E ak;replace E:=aD (No) w2;refine yh (ι:=Unit) (fun _=>[(0,.string s),(2,.int .u64 0),(3,.int .i64 0),(4,.bool neg),(5,.bool false),(6,.bool false),(7,.int .i64 ((f:Nat):Int)),(8,.bool false),(9,.bool false),(10,.int .u64 10),(11,.int .i64 19),(12,.int .u8 101),(54,.bool false)]) (fun _ w'=>Ext (No) w2 w'∧(True)) ?_ ?_
  ·
   have M3:=aD (No) w2;have aV:=aS (No) w2;refine zm ?_;refine yo ?_;refine aN ?_;refine zy ?_;refine zm ?_;refine zj 41 rfl (fun hl=>?_) (fun hl=>?_)
   ·
    have hl:=of_decide_eq_true hl;refine zm ?_;refine bO rfl (yn (j:=f) (b:=aJ s f) u9 rfl rfl rfl (qh hfs) (zn ?_));refine zj 47 rfl (fun hz=>?_) (fun hz=>?_)
    ·
     refine zm ?_;refine bO rfl (vo rfl rfl (yx om) (bO rfl (yn (j:=f+1) (b:=aJ s (f+1)) u9 rfl rfl rfl (qh om) (bO rfl (zb Rv rfl ((OP _ (aJ s (f+1)) (Iy _ _)).mono ?_))))));rintro e w5 ⟨rfl,hb⟩;refine ⟨_,rfl,?_⟩;replace E:=bT E hb;have hx:=awq (hs.next om);refine zn ?_;refine zq 54 (.bool false) rfl ((by rw[vm om]:(.bool (((aJ s (f+1) ||| 32:Nat):Int)==120):Value)=_)) ?_;exact VL
    ·
     refine yi ?_;exact VL
   ·
    refine jm ?_;exact VL
  ·
   rintro _ w4 ⟨M3,_⟩;replace E:=E.trans M3;replace LW:=LW.step E ak;replace E:=aD (No) w4;refine aD9 ?_;refine zA (zm ?_);replace LW:=LW.step E ak;replace E:=aD (No) w4;refine yh (ι:=Ql) (fun t=>[(0,.string s),(2,.int .u64 (t.m:Int)),(3,.int .i64 0),(4,.bool neg),(5,.bool t.tr),(6,.bool false),(7,.int .i64 (t.i:Int)),(8,.bool false),(9,.bool false),(10,.int .u64 10),(11,.int .i64 19),(12,.int .u8 101),(13,.bool t.dot),(14,.bool t.bR),(15,.int .i64 (t.nd:Int)),(16,.int .i64 (t.nm:Int)),(17,.int .i64 t.dp)]) (fun t w'=>Ext (No) w4 w'∧(t=OT s f)) ?_ ?_
   ·
    have M6:=aD (No) w4;have mW:=aS (No) w4;refine aN ?_;replace M6:=M6.step E mW;replace E:=aD (No) w4;refine yw (ι:=Ql) (fun t=>[(0,.string s),(2,.int .u64 (t.m:Int)),(3,.int .i64 0),(4,.bool neg),(5,.bool t.tr),(6,.bool false),(7,.int .i64 (t.i:Int)),(8,.bool false),(9,.bool false),(10,.int .u64 10),(11,.int .i64 19),(12,.int .u8 101),(13,.bool t.dot),(14,.bool t.bR),(15,.int .i64 (t.nd:Int)),(16,.int .i64 (t.nm:Int)),(17,.int .i64 t.dp)]) (fun t w'=>Ext (No) w4 w'∧(RdN s f p Z q t∧qk (Ld s) (go s) t=OT s f)) (fun t=>Z-t.i) (⟨f,0,0,0,0,false,false,false⟩) ⟨rfl,rfl,rfl,rfl,rfl,rfl,rfl,rfl,rfl,rfl,rfl,rfl,rfl,rfl,rfl,rfl,rfl,trivial⟩ ⟨Ext.refl _ _,tL hs,rfl⟩ ?_;rintro t w9 ⟨M8,⟨hI,hu⟩⟩;have lJ:=aS (No) w4;replace E:=E.trans M8;replace M6:=M6.step E mW;replace E:=aD (No) w9;have hsE:=hs.hE;have hiE:=hI.iE;have hti:=hI.hi;have hnd:=hI.hd;have hdp:=hI.hp;have hm:=hI.hm;have hfi:=hI.fi;refine zu ?_;refine zy ?_;refine zn ?_;refine zg rfl (fun h1=>?_) (fun h1=>?_)
    ·
     have h1:t.i<s.size:=by have h1:=of_decide_eq_true h1;omega
     refine qd ?_;refine za rfl (yn (j:=t.i) (b:=aJ s t.i) u9 rfl rfl rfl (qh h1) ?_);by_cases hE2:t.i<Z
     ·
      have hdone:=Dg hs hI hE2;have hkeep:=(tK hs hI hdone).1;have hu2:=hu;rw[qp hdone] at hu2;have hc:=hs.at_ hfi hE2;have hb:=Iy s t.i;refine yi ?_;refine zoz ?_;refine zd 66 (.bool false) rfl (by rw[vm om];rfl) ?_;by_cases iF:aJ s t.i=46
      ·
       have hstep:go s t= { t with i:=t.i+1,dot:=true,dp:=t.nd }:=by unfold go;rw[if_pos iF]
       have IG:t.dot=false:=by
        rcases hc with ⟨_,h3⟩ | ⟨h3,_⟩
        · omega
        · cases h4:t.dot with
          | false=>rfl
          | true=>have:=hI.dt h4;omega
       rw[hstep] at hkeep hu2;refine zu ?_;refine zoz ?_;refine zd 70 (.bool true) rfl (by rw[iF];rfl) (zp ?_);refine zd 74 (.bool false) rfl (by rw[IG]<;>rfl) (kz ?_);refine qa rfl (je ?_);exact zo ({ t with i:=t.i+1,dot:=true,dp:=t.nd }) (by show Z-(t.i+1)<Z-t.i;omega) ⟨rfl,rfl,rfl,rfl,rfl,rfl,rfl,rfl,rfl,rfl,rfl,rfl,rfl,rfl,rfl,rfl,rfl,trivial⟩ ⟨M8.step E lJ,hkeep,hu2⟩
      ·
       have hc:48≤aJ s t.i∧aJ s t.i≤57:=om;refine zu ?_;refine zoz ?_;refine zd 70 (.bool false) rfl (by rw[vm om];rfl) (zl ?_);refine zf 79 (.bool true) rfl (by rw[decide_eq_true om]<;>rfl) (zn ?_);refine zoz ?_;refine zd 76 (.bool true) rfl (by rw[decide_eq_true om];rfl) (vp ?_);refine zj 86 rfl (fun h3=>?_) (fun h3=>?_)
       ·
        have h3:aJ s t.i=48:=by have h3:=eq_of_beq h3;omega
        refine zu ?_;refine zg rfl (fun h4=>?_) (fun h4=>?_)
        ·
         have h4:t.nd=0:=by have h4:=eq_of_beq h4;omega
         have hstep:go s t= { t with i:=t.i+1,bR:=true,dp:=t.dp-1 }:=by unfold go;rw[if_neg iF,if_pos ⟨h3,h4⟩]
         rw[hstep] at hkeep hu2;refine zn ?_;refine yl ?_;refine zu ?_;refine qa rfl (je ?_);exact zo ({ t with i:=t.i+1,bR:=true,dp:=t.dp-1 }) (by show Z-(t.i+1)<Z-t.i;omega) ⟨rfl,rfl,rfl,rfl,rfl,rfl,rfl,rfl,rfl,rfl,rfl,rfl,rfl,rfl,rfl,rfl,rfl,trivial⟩ ⟨M8.step E lJ,hkeep,hu2⟩
        ·
         have hnz:¬(aJ s t.i=48∧t.nd=0):=fun h=>absurd h4 (by rw[h.2];decide);refine zu ?_;exact aJ6
       ·
        have hnz:¬(aJ s t.i=48∧t.nd=0):=fun h=>absurd h3 (by rw[h.1];decide);refine yu ?_;exact aJ6
     ·
      have hdone:Ld s t=true:=by
       have e:t.i=Z:=om;unfold Ld;rw[Bool.or_eq_true];right
       rw[e,(hs.exp om).1];rfl
      have hb:aJ s t.i=101:=by
       have e:t.i=Z:=om;rw[e];exact (hs.exp om).1
      rw[yp hdone] at hu;refine yi ?_;refine zoz ?_;refine zd 66 (.bool false) rfl (by rw[hb];rfl) (zu ?_);refine zoz ?_;refine zd 70 (.bool false) rfl (by rw[hb];rfl) (zl ?_);refine zf 79 (.bool true) rfl (by rw[hb];rfl) (zn ?_);refine zoz ?_;refine zd 76 (.bool false) rfl (by rw[hb];rfl) (kz ?_);refine za rfl (JV u4 rfl rfl (yi ?_));refine qa rfl (zn ?_);exact VK
    ·
     have h1:¬t.i<s.size:=by have h1:=of_decide_eq_false h1;omega
     have hdone:Ld s t=true:=by
      unfold Ld;rw[decide_eq_true om];rfl
     rw[yp hdone] at hu;refine zx ?_;exact VK
   ·
    rintro t w7 ⟨M6,ht⟩;replace E:=E.trans M6;replace LW:=LW.step E ak;replace E:=aD (No) w7;obtain ⟨hR,VO⟩:=Dh hs;rw[←ht] at hR VO;have e1:iQ s f=t.m:=by unfold iQ;rw[ht]
    have e3:OX s f=t.tr:=by unfold OX;rw[ht]
    have hfp:=hs.fp;have hpE:=hs.pE;have hsE:=hs.hE;have hdig:t.bR=true:=hR.dg om;have hnd:=hR.hd;have hdp:=hR.hp;have hnm:=hR.hn;have hti:=hR.hi;refine zp ?_;refine zd 140 (.bool false) rfl (by rw[hdig];rfl) (zz ?_);replace LW:=LW.step E ak;replace E:=aD (No) w7;refine yh (ι:=Int) (fun d2=>[(0,.string s),(2,.int .u64 (t.m:Int)),(3,.int .i64 0),(4,.bool neg),(5,.bool t.tr),(6,.bool false),(7,.int .i64 (t.i:Int)),(8,.bool false),(9,.bool false),(10,.int .u64 10),(12,.int .u8 101),(16,.int .i64 (t.nm:Int)),(17,.int .i64 d2)]) (fun d2 w'=>Ext (No) w7 w'∧(d2=(if t.dot then t.dp else (t.nd:Int)))) ?_ ?_
    ·
     have gP:=aD (No) w7;have bX:=aS (No) w7;by_cases hdd:t.dot=true
     ·
      refine zd 142 (.bool false) rfl (by rw[hdd];rfl) (zm ?_);exact zt t.dp ⟨rfl,rfl,rfl,rfl,rfl,rfl,rfl,rfl,rfl,rfl,rfl,rfl,rfl,trivial⟩ ⟨gP.step E bX,by rw[hdd,if_pos rfl]⟩
     ·
      refine zd 142 (.bool true) rfl (by rw[Bool.eq_false_iff.2 hdd];rfl) (zu ?_);exact zt (t.nd:Int) ⟨rfl,rfl,rfl,rfl,rfl,rfl,rfl,rfl,rfl,rfl,rfl,rfl,rfl,trivial⟩ ⟨gP.step E bX,by rw[if_neg hdd]⟩
    ·
     rintro d2 dQ ⟨gP,hd2⟩;replace E:=E.trans gP;replace LW:=LW.step E ak;replace E:=aD (No) dQ;have hb2:-100000≤d2∧d2≤100000:=by rw[hd2];split<;>omega
     have hP0:rdP s f=d2+pG s Z:=by unfold rdP;rw[←ht,VO,hd2]
     by_cases he:Z<s.size
     ·
      obtain ⟨hx1,hx2,hx3,hx4⟩:=hs.exp he;have hb:aJ s t.i=101:=by rw[VO];exact hx1
      refine kz ?_;refine zy ?_;refine zm ?_;refine zf 154 (.bool true) rfl (by rw[decide_eq_true om]<;>rfl) (zm ?_);refine bO rfl (yn (j:=t.i) (b:=aJ s t.i) u9 rfl rfl rfl (qh om) (zf 157 (.int .u8 101) rfl (by rw[hb];rfl) (bO rfl (zb Rv rfl ((VN _).mono ?_)))));rintro e eG ⟨rfl,hb⟩;refine ⟨_,rfl,?_⟩;replace E:=bT E hb;refine qd ?_;refine yo ?_;refine yi ?_;refine zy ?_;refine zn ?_;refine zd 167 (.bool false) rfl (by rw[decide_eq_false om]<;>rfl) (jt ?_);refine za rfl (yn (j:=t.i+1) (b:=aJ s (t.i+1)) u9 rfl rfl rfl (qh om) ?_);rw[←VO] at hx2;refine zm ?_;replace LW:=LW.step E ak;replace E:=aD (No) eG;refine yh (ι:=Nat×Int) (fun (k,g)=>[(0,.string s),(2,.int .u64 (t.m:Int)),(3,.int .i64 0),(4,.bool neg),(5,.bool t.tr),(6,.bool false),(7,.int .i64 ((k:Nat):Int)),(8,.bool false),(9,.bool false),(16,.int .i64 (t.nm:Int)),(17,.int .i64 d2),(19,.int .i64 g)]) (fun (k,g) w'=>Ext (No) eG w'∧(k=q∧g=(if aJ s (t.i+1)=45 then -1 else 1))) ?_ ?_
      ·
       have gK:=aD (No) eG;have fD:=aS (No) eG;refine zp ?_;by_cases c43:aJ s (t.i+1)=43
       ·
        refine zd 171 (.bool true) rfl (by rw[c43];rfl) (zn ?_);refine yo ?_;refine zn ?_;exact zt (t.i+2,1) ⟨rfl,rfl,rfl,rfl,rfl,rfl,rfl,rfl,rfl,rfl,rfl,rfl,trivial⟩ ⟨gK.step E fD,om,by rw[if_neg om]⟩
       ·
        refine zd 171 (.bool false) rfl (by rw[vm om]<;>rfl) (zp ?_);by_cases c45:aJ s (t.i+1)=45
        ·
         refine zd 175 (.bool true) rfl (by rw[c45];rfl) (zx ?_);refine yo ?_;refine zp ?_;exact zt (t.i+2,-1) ⟨rfl,rfl,rfl,rfl,rfl,rfl,rfl,rfl,rfl,rfl,rfl,rfl,trivial⟩ ⟨gK.step E fD,om,by rw[if_pos c45]⟩
        ·
         refine zd 175 (.bool false) rfl (by rw[vm om]<;>rfl) (zn ?_);exact zt (t.i+1,1) ⟨rfl,rfl,rfl,rfl,rfl,rfl,rfl,rfl,rfl,rfl,rfl,rfl,trivial⟩ ⟨gK.step E fD,om,by rw[if_neg c45]⟩
      ·
       rintro ⟨k,g⟩ dU ⟨gK,⟨hk,hg⟩⟩;replace E:=E.trans gK;replace LW:=LW.step E ak;replace E:=aD (No) dU;subst hk;have hdq:=hx4 k (Nat.le_refl _) hx3;refine zjq ?_;refine zf 183 (.bool false) rfl (by rw[decide_eq_false om]<;>rfl) (zm ?_);refine bO rfl (yn (j:=k) (b:=aJ s k) u9 rfl rfl rfl (qh hx3) (zn ?_));refine zf 189 (.bool false) rfl (by rw[decide_eq_false om]<;>rfl) (zm ?_);refine bO rfl (yn (j:=k) (b:=aJ s k) u9 rfl rfl rfl (qh hx3) (zx ?_));refine zd 194 (.bool false) rfl (by rw[decide_eq_false om]<;>rfl) (qd ?_);replace LW:=LW.step E ak;replace E:=aD (No) dU;refine yh (ι:=Vv) (fun x=>[(0,.string s),(2,.int .u64 (t.m:Int)),(3,.int .i64 0),(4,.bool neg),(5,.bool t.tr),(6,.bool false),(7,.int .i64 (x.i:Int)),(8,.bool false),(9,.bool false),(16,.int .i64 (t.nm:Int)),(17,.int .i64 d2),(19,.int .i64 g),(20,.int .i64 (x.e:Int))]) (fun x w'=>Ext (No) dU w'∧(x=exA s k)) ?_ ?_
       ·
        have Qp:=aD (No) dU;have II:=aS (No) dU;refine aN ?_;replace Qp:=Qp.step E II;replace E:=aD (No) dU;refine yw (ι:=Vv) (fun x=>[(0,.string s),(2,.int .u64 (t.m:Int)),(3,.int .i64 0),(4,.bool neg),(5,.bool t.tr),(6,.bool false),(7,.int .i64 (x.i:Int)),(8,.bool false),(9,.bool false),(16,.int .i64 (t.nm:Int)),(17,.int .i64 d2),(19,.int .i64 g),(20,.int .i64 (x.e:Int))]) (fun x w'=>Ext (No) dU w'∧(ExI s k x∧qk (oj s) (Qo s) x=exA s k)) (fun x=>s.size-x.i) (⟨k,0⟩) ⟨rfl,rfl,rfl,rfl,rfl,rfl,rfl,rfl,rfl,rfl,rfl,rfl,rfl,trivial⟩ ⟨Ext.refl _ _,⟨⟨Nat.le_refl _,Nat.le_of_lt hx3⟩,by show 0<100000;decide⟩,rfl⟩ ?_;rintro x yE ⟨M17,⟨hI,hu⟩⟩;have aJ7:=aS (No) dU;replace E:=E.trans M17;replace Qp:=Qp.step E II;replace E:=aD (No) yE;have hhi:=hI.hi;have hhe:=hI.he;refine zjq ?_;refine zj 199 rfl (fun h7=>?_) (fun h7=>?_)
        ·
         have h7:x.i<s.size:=by have h7:=of_decide_eq_true h7;omega
         have hc:=hx4 x.i hhi.1 h7;have hdone:oj s x=false:=by unfold oj;rw[decide_eq_false om,qlk hc];rfl
         have hkeep:=(mQ hI hdone).1;rw[qp hdone] at hu;refine Dp ?_;refine zm ?_;refine zf 204 (.bool true) rfl (by rw[decide_eq_true om]<;>rfl) (Dp ?_);refine zn ?_;refine zf 210 (.bool true) rfl (by rw[decide_eq_true om]<;>rfl) (Qa ?_);refine za rfl (yn (j:=x.i) (b:=aJ s x.i) u9 rfl rfl rfl (qh h7) (zn ?_));refine zd 222 (.bool false) rfl (by rw[vm om]<;>rfl) (qd ?_);refine zg rfl (fun h8=>?_) (fun h8=>?_)
         ·
          have h8:x.e<10000:=by have h8:=of_decide_eq_true h8;omega
          have hstep:Qo s x= ⟨x.i+1,x.e*10+(aJ s x.i-48)⟩:=by unfold Qo;rw[if_pos h8]
          rw[hstep] at hkeep hu;refine zm ?_;refine qck ?_;refine zm ?_;refine za rfl (yn (j:=x.i) (b:=aJ s x.i) u9 rfl rfl rfl (qh h7) (qfz ?_));refine yl ?_;refine zwv ?_;refine zq 20 (.int .i64 ((x.e*10+(aJ s x.i-48):Nat):Int)) rfl ((by congr 1;omega:(.int .i64 ((((x.e:Int)*10)+((aJ s x.i:Nat):Int))-48):Value)=_)) ?_;exact zo (⟨x.i+1,x.e*10+(aJ s x.i-48)⟩) (by show s.size-(x.i+1)<s.size-x.i;omega) ⟨rfl,rfl,rfl,rfl,rfl,rfl,rfl,rfl,rfl,rfl,rfl,rfl,rfl,trivial⟩ ⟨M17.step E aJ7,hkeep,hu⟩
         ·
          have h8:¬x.e<10000:=by have h8:=of_decide_eq_false h8;omega
          have hstep:Qo s x= ⟨x.i+1,x.e⟩:=by unfold Qo;rw[if_neg h8]
          rw[hstep] at hkeep hu;refine je ?_;exact zo (⟨x.i+1,x.e⟩) (by show s.size-(x.i+1)<s.size-x.i;omega) ⟨rfl,rfl,rfl,rfl,rfl,rfl,rfl,rfl,rfl,rfl,rfl,rfl,rfl,trivial⟩ ⟨M17.step E aJ7,hkeep,hu⟩
        ·
         have h7:¬x.i<s.size:=by have h7:=of_decide_eq_false h7;omega
         have hdone:oj s x=true:=by unfold oj;rw[decide_eq_true om];rfl
         rw[yp hdone] at hu;refine RF ?_;exact zt x ⟨rfl,rfl,rfl,rfl,rfl,rfl,rfl,rfl,rfl,rfl,rfl,rfl,rfl,trivial⟩ ⟨Qp.step E II,hu⟩
       ·
        rintro x w16 ⟨Qp,hx⟩;replace E:=E.trans Qp;replace LW:=LW.step E ak;replace E:=aD (No) w16;obtain ⟨hI,hdx⟩:=yok (s:=s) (q:=k) om;rw[←hx] at hI hdx;have hxi:=Vw hx4 hI hdx;have hxe:=hI.he;have hX:IntKind.i64.wrap ((x.e:Int)*g)=pG s Z:=by
         have e9:pG s Z=(x.e:Int)*g:=by
          unfold pG;rw[if_neg om,←VO,hg,hx];exact alq
         have h12:=qnq hs;rw[←e9];exact yx om
        have h12:=qnq hs;refine zx ?_;refine za rfl (xr rfl rfl hX (yo ?_));refine zz ?_;refine zd 7 (.int .i64 (s.size:Int)) rfl (by rw[hxi]<;>rfl) ?_;have hP:d2+pG s Z=rdP s f:=hP0.symm;exact alj
     ·
      have hz:pG s Z=0:=by unfold pG;rw[if_pos om]
      refine kz ?_;refine zy ?_;refine zm ?_;refine zf 154 (.bool false) rfl (by rw[decide_eq_false om]<;>rfl) (Kc ?_);refine zd 7 (.int .i64 (s.size:Int)) rfl (by congr 1;omega) ?_;have hP:d2=rdP s f:=by rw[hP0,hz,Int.add_zero]
      exact alj
end
end Go.Proofs.YtmnmebdmpigddaaGreatDoor
namespace Go.Proofs.YtmnmebdmpigddaaGreatDoor
open Go.RowKit Proofs.Tryz
theorem VP {P:Prop} (h:P:=by
 refine qq ?_;intro vs X wq K;exact pR (j:=i) u46 iL rfl rfl rfl h2 ⟨Below.refl _ _,Left.of rfl⟩):P:=h
theorem VQ {P:Prop} (h:P:=by
 have h1:2^k≤2^60:=Nat.pow_le_pow_right de hk;have h2:(2:Nat)^60=1152921504606846976:=de;omega):P:=h
theorem VR {P:Prop} (h:P:=by
 intro vs X wq K;exact yn (j:=i) (b:=aJ c i) u9 rfl rfl rfl (qh om) ⟨Below.refl _ _,Left.of rfl⟩):P:=h
theorem VT {P:Prop} (h:P:=by
 refine qq ?_;intro vs X wq K;have LE:=K.1;exact ye underlying3 rfl rfl (Ba.drew.ay LE ah.nil) (yJ hl1 n rfl) ⟨Below.refl _ _,Left.of rfl⟩):P:=h
theorem am0 {P:Prop} (h:P:=by
 refine qq ?_;intro vs X wq K;have LE:=K.1;exact ye u5 rfl rfl (HF.on (E.drew.trans (LE.mono OY))).here.2 (U8 hl om) ⟨Below.refl _ _,Left.of rfl⟩):P:=h
theorem Dq {P:Prop} (h:P:=by
 exact ⟨by rw[e];rfl,(LW.step E ak).toBelow⟩):P:=h
attribute [local irreducible] OW RS CW EW
theorem VU {d:List Nat} {n:Nat} (h0:n≠0) (h:dg d (n-1)=48):kj d n=kj d (n-1):=by
 obtain ⟨m,rfl⟩:∃m,n=m+1:=⟨n-1,om⟩;rw[Nat.add_sub_cancel] at h ⊢;rw[kj,if_pos h]
theorem O1 {d:List Nat} {n:Nat} (h0:n≠0) (h:dg d (n-1)≠48):kj d n=n:=by
 obtain ⟨m,rfl⟩:∃m,n=m+1:=⟨n-1,om⟩;rw[Nat.add_sub_cancel] at h;rw[kj,if_neg h]
theorem IJ {b l:List Nat} {i x y:Nat} (hb:b[i]? =some x) (hl:l[i]? =some y):jd (b.drop i) (l.drop i)=if x=y then jd (b.drop (i+1)) (l.drop (i+1)) else decide (x<y):=by
 obtain ⟨h1,h2⟩:=List.getElem?_eq_some_iff.1 hb;obtain ⟨h3,h4⟩:=List.getElem?_eq_some_iff.1 hl;rw[List.drop_eq_getElem_cons h1,List.drop_eq_getElem_cons h3,h2,h4];rfl
theorem Dr (b:List Nat) {l:List Nat} {i:Nat} (h:l.length≤i):jd b (l.drop i)=false:=by
 rw[List.drop_eq_nil_of_le h];cases b<;>rfl
theorem qH {b l:List Nat} {i:Nat} (h:b.length≤i) (h2:i<l.length):jd (b.drop i) (l.drop i)=true:=by
 rw[List.drop_eq_nil_of_le h,List.drop_eq_getElem_cons h2];rfl
theorem take_at {d:List Nat} {n i:Nat} (hi:i<n) (hn:n≤d.length):(d.take n)[i]? =some (dg d i):=by
 rw[List.getElem?_take,if_pos hi,K5 om]
theorem tN {n k:Nat} (h:n<2^k) (hk:k≤60):n<1152921504606846976:=by
 exact VQ
theorem tO {n k:Nat} (h:n<10*2^k) (hk:k≤60):n<11529215046068469760:=by
 exact VQ
theorem aJ8 {m:Nat} (h:m≠0):((.bool (((m:Nat):Int)==0)):Value)= .bool false:=by rw[beq_eq_false_iff_ne.2 om]
theorem yJ {t:Dec} (h:t.d.length=800) (n:Nat) (e:t.nd=n):(yj t)[800]? =some (.int .i64 ((n:Nat):Int)):=e▸avj h
theorem xJ {t:Dec} (h:t.d.length=800) (p:Int) (e:t.dp=p):(yj t)[801]? =some (.int .i64 p):=e▸aw0 h
theorem aJ9 {t:Dec} (h:t.d.length=800) (b:Bool) (e:t.neg=b):(yj t)[802]? =some (.bool b):=e▸ac9 h
theorem aR4 {t:Dec} (h:t.d.length=800) (b:Bool) (e:t.tr=b):(yj t)[803]? =some (.bool b):=e▸aw1 h
theorem dAt {t:Dec} (h:t.d.length=800) (b j:Nat) (e:dg t.d j=b) (hj:j<800):(yj t)[j]? =some (.int .u8 ((b:Nat):Int)):=e▸U8 h hj
theorem yK {t:Dec} (h:t.d.length=800) {j:Nat} (hj:j<804):j<(yj t).size:=by rw[U7 h];exact hj
section
variable (w:World)
theorem Dt (ga:Nat) (t:Dec) (hl:t.d.length=800) (hn:t.nd≤800) (hB:aB w ga 229 (yj t)) :
 Calls prog 269 #[.pointer (some ⟨ga,0,none⟩)] w fun e w'=>e= .returned (.tuple #[])∧aB w' ga 229 (yj (qbv t))∧Ext (aj [some ga]) w w':=by
 refine zc func269 rfl ntmps269 rfl ?_;have Ba:=hB;have LW:=aD (aj [(some ga)]) w;have ak:=aS (aj [(some ga)]) w;have E:=aD (aj [(some ga)]) w;refine aN ?_;replace LW:=LW.step E ak;replace E:=aD (aj [(some ga)]) w;refine yh (ι:=Unit) (fun _=>[(0,.pointer (some ⟨ga,0,none⟩))]) (fun _ w'=>Ext (aj [(some ga)]) w w'∧aB w' ga 229 (yj { t with nd:=kj t.d t.nd })∧(True)) ?_ ?_
 ·
  have M1:=aD (aj [(some ga)]) w;have dz:=aS (aj [(some ga)]) w;refine aN ?_;replace M1:=M1.step E dz;replace E:=aD (aj [(some ga)]) w;refine yw (ι:=Nat) (fun n=>[(0,.pointer (some ⟨ga,0,none⟩))]) (fun n w'=>Ext (aj [(some ga)]) w w'∧aB w' ga 229 (yj { t with nd:=n })∧(n≤800∧kj t.d n=kj t.d t.nd)) (fun n=>n) t.nd ⟨rfl,trivial⟩ ⟨Ext.refl _ _,(by exact Ba),hn,rfl⟩ ?_;have eB:=(ze Ba.lt);clear Ba;rintro n w4 ⟨M3,Ba,⟨hn8,he⟩⟩;have aV:eD (aj [(some ga)]) (aj [(some ga)]) w:=(aj.grow aj.none_ (fun k e=>Or.inl (aj.head k e)));replace E:=E.trans M3;replace M1:=M1.step E dz;replace E:=aD (aj [(some ga)]) w4;have hl1:({ t with nd:=n }:Dec).d.length=800:=hl;by_cases h0:n=0
  ·
   have e:kj t.d t.nd=n:=by rw[←he,h0];rfl
   refine zm ?_;have OY:∀q9,(aj (oa [])) q9→q9<(World.drew w4).heap.size→(aj [(some ga)]) q9:=fun k h _=>(aj.none_) k h;refine qm (aj [(some ga)]) (aj.grow aj.none_ (ze Ba.lt)) [] [] (fQ [Fx.of (.pointer (some ⟨ga,0,none⟩)),
    Fx.of (.pointer (some ⟨ga,0,none⟩)),
    Fx.of (.pointer (some ⟨ga,800,none⟩)),
    Fx.of (.int .i64 ((n:Nat):Int)),
    Fx.of (.bool false),
    Fx.of (.bool false),
    Fx.of undef,
    Fx.of undef,
    Fx.of undef,
    Fx.of undef,
    Fx.of undef,
    Fx.of undef,
    Fx.of undef,
    Fx.of undef,
    Fx.of undef,
    Fx.of undef,
    Fx.of undef,
    Fx.of (.bool false)]) mixed rfl trivial (fun _ h=>by cases h) ?_ ?_
   · refine ⟨arm,arm,arm,?_,?_,arm,arm,arm,arm,arm,arm,arm,arm,arm,arm,arm,arm,arm,trivial⟩
     · exact VT
     · refine qq ?_;intro vs X wq K;exact uD rfl rfl ⟨Below.refl _ _,Left.of ((by rw[decide_eq_false om]:(.bool (decide (0<((n:Nat):Int))):Value)=_))⟩
   intro vs w5 LE AO AL AF AA;have fP:=Ba;replace Ba:=Ba.drew.ay LE ah.nil;replace E:=E.drew.trans (LE.mono OY);obtain ⟨_,e17,k17⟩:=AL.2.2.2.2.2.2.2.2.2.2.2.2.2.2.2.2.2.1;refine ja (τ:=[(0,_),(19,.bool false)]) ⟨rfl,congrArg some e17,trivial⟩ ?_;clear AL AF AA LE AO OY e17 k17 fP;refine zl ?_;replace Ba:aB w5 ga 229 (yj { t with nd:=kj t.d t.nd }):=by rw[e];exact Ba
   exact zt () ⟨rfl,trivial⟩ ⟨M1.step E dz,(by exact Ba),trivial⟩
  ·
   refine zm ?_;have OY:∀q9,(aj (oa [])) q9→q9<(World.drew w4).heap.size→(aj [(some ga)]) q9:=fun k h _=>(aj.none_) k h;refine qm (aj [(some ga)]) (aj.grow aj.none_ (ze Ba.lt)) [] [] (fQ [Fx.of (.pointer (some ⟨ga,0,none⟩)),
    Fx.of (.pointer (some ⟨ga,0,none⟩)),
    Fx.of (.pointer (some ⟨ga,800,none⟩)),
    Fx.of (.int .i64 ((n:Nat):Int)),
    Fx.of (.bool true),
    Fx.of (.bool true),
    Fx.of (.pointer (some ⟨ga,0,none⟩)),
    Fx.of (.pointer (some ⟨ga,0,none⟩)),
    Fx.of (.pointer (some ⟨ga,0,none⟩)),
    Fx.of (.pointer (some ⟨ga,800,none⟩)),
    Fx.of (.int .i64 ((n:Nat):Int)),
    Fx.of (.int .i64 (((n:Nat):Int)-1)),
    Fx.of (.pointer (some ⟨ga,0,none⟩)),
    Fx.of (.pointer (some ⟨ga,0,none⟩)),
    Fx.of (.pointer (some ⟨ga,n-1,none⟩)),
    Fx.of (.int .u8 ((dg t.d (n-1):Nat):Int)),
    Fx.of (.bool (((dg t.d (n-1):Nat):Int)==48)),
    Fx.of (.bool (((dg t.d (n-1):Nat):Int)==48))]) mixed rfl trivial (fun _ h=>by cases h) ?_ ?_
   · refine ⟨arm,arm,arm,?_,?_,arm,arm,arm,arm,arm,?_,?_,arm,arm,?_,?_,arm,arm,trivial⟩
     · exact VT
     · refine qq ?_;intro vs X wq K;exact uD rfl rfl ⟨Below.refl _ _,Left.of ((by rw[decide_eq_true om]:(.bool (decide (0<((n:Nat):Int))):Value)=_))⟩
     · refine qq ?_;intro vs X wq K;have LE:=K.1;exact qN rfl (ye underlying3 rfl rfl (Ba.drew.ay LE ah.nil) (yJ hl1 n rfl) ⟨Below.refl _ _,Left.of rfl⟩)
     · refine qq ?_;intro vs X wq K;exact qN rfl (jg rfl rfl (yx om) ⟨Below.refl _ _,Left.of rfl⟩)
     · refine qq ?_;intro vs X wq K;exact qN rfl (vc (j:=n-1) gF iL rfl rfl om om ⟨Below.refl _ _,Left.of rfl⟩)
     · refine qq ?_;intro vs X wq K;have LE:=K.1;exact qN rfl (ye u5 rfl rfl (Ba.drew.ay LE ah.nil) (dAt hl1 (dg t.d (n-1)) (n-1) rfl om) ⟨Below.refl _ _,Left.of rfl⟩)
   intro vs w6 LE AO AL AF AA;have fP:=Ba;replace Ba:=Ba.drew.ay LE ah.nil;replace E:=E.drew.trans (LE.mono OY);obtain ⟨_,e17,k17⟩:=AL.2.2.2.2.2.2.2.2.2.2.2.2.2.2.2.2.2.1;refine ja (τ:=[(0,_),(19,.bool (((dg t.d (n-1):Nat):Int)==48))]) ⟨rfl,congrArg some e17,trivial⟩ ?_;clear AL AF AA LE AO OY e17 k17 fP;refine aN ?_;refine zg rfl (fun hd=>?_) (fun hd=>?_)
   ·
    have hd:dg t.d (n-1)=48:=by have hd:=eq_of_beq hd;omega
    refine zp ?_;refine za rfl (ye underlying3 rfl rfl Ba (yJ hl1 (n) rfl) (yl ?_));refine zm ?_;refine zf 24 (.int .i64 ((n-1:Nat):Int)) rfl (by congr 1;omega) (zk (qr J6 rfl rfl Ba rfl rfl (yK hl1 (by decide:800<804)) (mD hl1 (n-1)) ?_));intro w7 Bx Ea;replace Ba:aB w7 ga 229 (yj { t with nd:=n-1 }):=Bx;replace E:=E.step1 Ea aj.head;refine zm ?_;exact zo (n-1) om ⟨rfl,trivial⟩ ⟨M3.step E aV,(by exact Ba),om,by rw[←he,VU h0 hd]⟩
   ·
    have hd:dg t.d (n-1)≠48:=fun e=>absurd hd (by rw[e];decide);have e:kj t.d t.nd=n:=by rw[←he,O1 h0 hd]
    refine zx ?_;replace Ba:aB w6 ga 229 (yj { t with nd:=kj t.d t.nd }):=by rw[e];exact Ba
    exact zt () ⟨rfl,trivial⟩ ⟨M1.step E dz,(by exact Ba),trivial⟩
 ·
  have eB:=(ze Ba.lt);clear Ba;rintro _ w2 ⟨M1,Ba,_⟩;replace E:=E.trans M1;replace LW:=LW.step E ak;replace E:=aD (aj [(some ga)]) w2;have hl':({ t with nd:=kj t.d t.nd }:Dec).d.length=800:=hl;refine zu ?_;refine za rfl (ye underlying3 rfl rfl Ba (yJ hl' (kj t.d t.nd) rfl) (zn ?_));refine zg rfl (fun h1=>?_) (fun h1=>?_)
  ·
   have h1:kj t.d t.nd=0:=by have h1:=eq_of_beq h1;omega
   refine zx ?_;refine zk (qr J6 rfl rfl Ba rfl rfl (yK hl' (by decide:801<804)) (qrv hl' 0) ?_);intro w8 Bx Ea;replace Ba:aB w8 ga 229 (yj { t with nd:=kj t.d t.nd,dp:=0 }):=Bx;replace E:=E.step1 Ea aj.head;refine aN ?_;refine Yy rfl ?_;exact ⟨rfl,by unfold qbv;rw[if_pos h1];exact Ba,(LW.step E ak)⟩
  ·
   have h1:kj t.d t.nd≠0:=fun e=>absurd h1 (by rw[e];decide);refine aN ?_;refine Yy rfl ?_;exact ⟨rfl,by unfold qbv;rw[if_neg h1];exact Ba,(LW.step E ak)⟩
theorem IK (ga:Nat) (t:Dec) (n:Nat) (c:ByteArray) (l:List Nat) (hl:t.d.length=800) (hn:n≤800) (hc:c.size=l.length) (hcl:∀i,i<l.length→l[i]? =some (aJ c i)) (hB:aB w ga 229 (yj t)) :
 Calls prog 277 #[.slice (some ⟨ga,0,none⟩) n 800,.string c] w (aI w (.bool (jd (t.d.take n) l))):=by
 refine zc func277 rfl ntmps277 rfl ?_;obtain ⟨HF,LW,ak,E⟩:=bg w;replace HF:=HF.and (Per.blk hB (fun h=>h.elim));refine vp ?_;replace HF:=HF.on E;replace LW:=LW.step E ak;replace E:=aD (No) w;refine yw (ι:=Nat) (fun i=>[(0,.slice (some ⟨ga,0,none⟩) n 800),(1,.string c),(4,.bool false),(5,.int .i64 ((i:Nat):Int))]) (fun i w'=>Ext (No) w w'∧(i≤l.length∧i≤n∧jd ((t.d.take n).drop i) (l.drop i)=jd (t.d.take n) l)) (fun i=>l.length-i) 0 ⟨rfl,rfl,rfl,rfl,trivial⟩ ⟨Ext.refl _ _,Nat.zero_le _,Nat.zero_le _,rfl⟩ ?_;rintro i w2 ⟨M1,⟨hi,hin,he⟩⟩;have dz:=aS (No) w;replace E:=E.trans M1;replace HF:=HF.on E;replace LW:=LW.step E ak;replace E:=aD (No) w2;refine zu ?_;refine zy ?_;refine zn ?_;refine zg rfl (fun h1=>?_) (fun h1=>?_)
 ·
  have h1:i<l.length:=by have h1:=of_decide_eq_true h1;omega
  refine jt ?_;refine zg rfl (fun h2=>?_) (fun h2=>?_)
  ·
   have h2:n≤i:=by have h2:=of_decide_eq_true h2;omega
   have e:jd (t.d.take n) l=true:=by rw[←he,qH (by rw[List.length_take];omega) h1]
   refine jt ?_;exact Dq
  ·
   have h2:i<n:=by have h2:=of_decide_eq_false h2;omega
   have hs:=IJ (take_at (d:=t.d) h2 om) (hcl i h1);rw[he] at hs;refine zn ?_;have OY:∀q9,(aj (oa [])) q9→q9<(World.drew w2).heap.size→(No) q9:=fun k h _=>(aj.none_) k h;refine qm (No) aj.none_ [] [] (fQ [Fx.of (.slice (some ⟨ga,0,none⟩) n 800),
    Fx.of (.int .i64 ((i:Nat):Int)),
    Fx.of (.pointer (some ⟨ga,i,none⟩)),
    Fx.of (.int .u8 ((dg t.d i:Nat):Int)),
    Fx.of (.string c),
    Fx.of (.int .i64 ((i:Nat):Int)),
    Fx.of (.int .u8 ((aJ c i:Nat):Int)),
    Fx.of (.bool (((dg t.d i:Nat):Int) !=((aJ c i:Nat):Int)))]) mixed rfl trivial (fun _ h=>by cases h) ?_ ?_
   · refine ⟨arm,arm,?_,?_,arm,arm,?_,arm,trivial⟩
     · exact VP
     · exact am0
     · refine qq ?_;exact VR
   intro vs w3 LE AO AL AF AA;replace E:=E.drew.trans (LE.mono OY);obtain ⟨_,e7,k7⟩:=AL.2.2.2.2.2.2.2.1;refine ja (τ:=[(0,_),(1,_),(4,_),(5,_),(23,.bool (((dg t.d i:Nat):Int) !=((aJ c i:Nat):Int)))]) ⟨rfl,rfl,rfl,rfl,congrArg some e7,trivial⟩ ?_;clear AL AF AA LE AO OY e7 k7;refine aN ?_;refine zg rfl (fun h3=>?_) (fun h3=>?_)
   ·
    have h3:dg t.d i≠aJ c i:=fun e=>absurd h3 (by rw[e];simp);rw[if_neg h3] at hs;refine aN ?_;have OY:∀q9,(aj (oa [])) q9→q9<(World.drew w3).heap.size→(No) q9:=fun k h _=>(aj.none_) k h;refine qm (No) aj.none_ [] [] (fQ [Fx.of (.slice (some ⟨ga,0,none⟩) n 800),
     Fx.of (.int .i64 ((i:Nat):Int)),
     Fx.of (.pointer (some ⟨ga,i,none⟩)),
     Fx.of (.int .u8 ((dg t.d i:Nat):Int)),
     Fx.of (.string c),
     Fx.of (.int .i64 ((i:Nat):Int)),
     Fx.of (.int .u8 ((aJ c i:Nat):Int)),
     Fx.of (.bool (decide (dg t.d i<aJ c i))),
     Fx.of (.bool (decide (dg t.d i<aJ c i)))]) mixed rfl trivial (fun _ h=>by cases h) ?_ ?_
    · refine ⟨arm,arm,?_,?_,arm,arm,?_,?_,arm,trivial⟩
      · exact VP
      · exact am0
      · refine qq ?_;exact VR
      · refine qq ?_;intro vs X wq K;exact QK rfl rfl ⟨Below.refl _ _,Left.of (kb om)⟩
    intro vs w4 LE AO AL AF AA;replace E:=E.drew.trans (LE.mono OY);obtain ⟨_,e8,k8⟩:=AL.2.2.2.2.2.2.2.2.1;refine ja (τ:=[(0,_),(1,_),(4,.bool (decide (dg t.d i<aJ c i))),(5,_)]) ⟨rfl,rfl,congrArg some e8,rfl,trivial⟩ ?_;clear AL AF AA LE AO OY e8 k8;refine yi ?_;exact ⟨by rw[hs];rfl,(LW.step E ak).toBelow⟩
   ·
    have h3:dg t.d i=aJ c i:=by
     rcases Nat.decEq (dg t.d i) (aJ c i) with h | h
     · rw[bne_iff_ne.2 om] at h3;cases h3
     · exact h
    rw[if_pos h3] at hs;refine je ?_;refine zq 5 (.int .i64 ((i+1:Nat):Int)) rfl (rfl) ?_;exact zo (i+1) om ⟨rfl,rfl,rfl,rfl,trivial⟩ ⟨M1.step E dz,om,om,hs.symm⟩
 ·
  have h1:l.length≤i:=by have h1:=of_decide_eq_false h1;omega
  have e:jd (t.d.take n) l=false:=by rw[←he,Dr _ h1]
  refine vp ?_;exact Dq
end
end Go.Proofs.YtmnmebdmpigddaaGreatDoor
namespace Go.Proofs.YtmnmebdmpigddaaGreatDoor
open Go.RowKit Proofs.Tryz
theorem mX {P Q:Prop} (k:Q) (h:(Unit→Q)→P:=by
 intro zK;refine za rfl (ye underlying3 rfl rfl Ba (xJ hl t.dp rfl) ?_);exact zK ()):P:=h fun _=>k
theorem mY {P Q:Prop} (k:Q) (h:(Unit→Q)→P:=by
 intro zK;refine za rfl (ye underlying3 rfl rfl Ba (yJ hl (t.nd) rfl) ?_);exact zK ()):P:=h fun _=>k
theorem mZ {P Q:Prop} (k:Q) (h:(Unit→Q)→P:=by
 intro zK;refine za rfl (jp Rh u5 rfl (wrap_u64 om) ?_);exact zK ()):P:=h fun _=>k
theorem nk {P Q:Prop} (k:Q) (h:(Unit→Q)→P:=by
 intro zK;refine ZR ?_;refine zn ?_;refine zq 6 (.int .u64 ((M*10:Nat):Int)) rfl (rfl) ?_;exact zK ()):P:=h fun _=>k
theorem ykv {P Q:Prop} (k:Q) (h:(Unit→Q)→P:=by
 intro zK;refine zk (qr iL rfl rfl Ba rfl rfl (yK hlx om) (al7 hlx om) ?_);exact zK ()):P:=h fun _=>k
theorem nu {P Q:Prop} (k:Q) (h:(Unit→Q)→P:=by
 intro zK;refine kl ?_;refine za rfl (jp u5 Rh rfl (ybz om) (zm ?_));exact zK ()):P:=h fun _=>k
attribute [local irreducible] OW RS CW EW
theorem awz (k:Nat) (hk:k≤60):IntKind.u64.wrap (((1:Nat):Int)*2^(min ((k:Nat):Int).toNat IntKind.u64.bits))=((2^k:Nat):Int):=by
 rw[ZQ 1 k om,Nat.one_mul];have h1:2^k≤2^60:=Nat.pow_le_pow_right de hk;have h2:(2:Nat)^60=1152921504606846976:=de;rw[Nat.mod_eq_of_lt om]
theorem VW (n k:Nat) (hn:n<18446744073709551616) (hk:k≤60):IntKind.u64.wrap (BitVec.ofInt IntKind.u64.bits (n:Int) &&& BitVec.ofInt IntKind.u64.bits ((2^k-1:Nat):Int)).toNat=((n%2^k:Nat):Int):=by
 have h1:2^k≤2^60:=Nat.pow_le_pow_right de hk;have h2:(2:Nat)^60=1152921504606846976:=de;rw[kt hn om,Nat.and_two_pow_sub_one_eq_mod]
theorem Ll (n k Q:Nat) (hk:k≤60) (h:Q=n/2^k):((n:Nat):Int).fdiv (2^(min ((k:Nat):Int).toNat IntKind.u64.bits))=((Q:Nat):Int):=by
 rw[h];exact xk n k om
theorem VX (n k M:Nat) (hn:n<18446744073709551616) (hk:k≤60) (h:M=n%2^k):IntKind.u64.wrap (BitVec.ofInt IntKind.u64.bits (n:Int) &&& BitVec.ofInt IntKind.u64.bits ((2^k-1:Nat):Int)).toNat=((M:Nat):Int):=by
 rw[h];exact VW n k hn hk
theorem IL (m:Nat):(((m:Nat):Int)==0)=decide (m=0):=by
 exact U0
theorem ad8 {t:Dec} {k:Nat} {s:fA} (h1:s.n/2^k=0) (h2:s.r<t.nd):ycq t k s=false:=decide_eq_false (fun h=>h.elim (fun h=>h h1) (fun h=>absurd h (Nat.not_le.2 h2)))
theorem awx {t:Dec} {k:Nat} {s:fA} (h:Vd t k s):s.r≤t.nd+k+1:=by
 rcases h.far with h1 | h1
 · omega
 · have h2:10^(s.r-t.nd)<10^(k+1):=by
    exact U6
   have:=(Nat.pow_lt_pow_iff_right (a:=10) de).1 h2;omega
section
variable (w:World)
theorem tQ (ga k:Nat) (t:Dec) (hk:1≤k∧k≤60) (ht:aZ t) (h0:0<t.nd) (hdp:-20000000≤t.dp∧t.dp≤20000000) (hB:aB w ga 229 (yj t)) :
 Calls prog 271 #[.pointer (some ⟨ga,0,none⟩),.int .u64 ((k:Nat):Int)] w fun e w'=>e= .returned (.tuple #[])∧aB w' ga 229 (yj (js t k))∧Ext (aj [some ga]) w w':=by
 have hl:=ht.len;have hnd:=ht.hn;have hp2:0<2^k:=Nat.two_pow_pos k;refine zc func271 rfl ntmps271 rfl ?_;have Ba:=hB;have LW:=aD (aj [(some ga)]) w;have ak:=aS (aj [(some ga)]) w;have E:=aD (aj [(some ga)]) w;refine oh ?_;replace LW:=LW.step E ak;replace E:=aD (aj [(some ga)]) w;refine yh (ι:=fA) (fun s=>[(0,.pointer (some ⟨ga,0,none⟩)),(1,.int .u64 ((k:Nat):Int)),(4,.int .i64 (s.r:Int)),(5,.int .i64 0),(6,.int .u64 (s.n:Int))]) (fun s w'=>Ext (aj [(some ga)]) w w'∧aB w' ga 229 (yj t)∧(s=iO t k)) ?_ ?_
 ·
  have M1:=aD (aj [(some ga)]) w;have dz:=aS (aj [(some ga)]) w;refine aN ?_;replace M1:=M1.step E dz;replace E:=aD (aj [(some ga)]) w;refine yw (ι:=fA) (fun s=>[(0,.pointer (some ⟨ga,0,none⟩)),(1,.int .u64 ((k:Nat):Int)),(4,.int .i64 (s.r:Int)),(5,.int .i64 0),(6,.int .u64 (s.n:Int))]) (fun s w'=>Ext (aj [(some ga)]) w w'∧aB w' ga 229 (yj t)∧(OC t k s∧qk (ycq t k) (vez t) s=rsA t k)) (fun s=>t.nd-s.r) (⟨0,0⟩) ⟨rfl,rfl,rfl,rfl,rfl,trivial⟩ ⟨Ext.refl _ _,(by exact Ba),sM t k,rfl⟩ ?_;have eB:=(ze Ba.lt);clear Ba;rintro s w4 ⟨M3,Ba,⟨hI,hu⟩⟩;have aV:eD (aj [(some ga)]) (aj [(some ga)]) w:=(aj.grow aj.none_ (fun k e=>Or.inl (aj.head k e)));replace E:=E.trans M3;replace M1:=M1.step E dz;replace E:=aD (aj [(some ga)]) w4;have awj:=tO hI.hn hk.2;obtain ⟨Q,hQ⟩:∃Q,Q=s.n/2^k:=⟨_,rfl⟩;have hr:=hI.hr;refine zu ?_;refine za rfl (jh rfl rfl om (Ll s.n k Q om hQ) (zn ?_));refine zd 15 (.bool (decide (Q=0))) rfl (by rw[IL]<;>rfl) (zg rfl (fun h1=>?_) (fun h1=>?_))
  ·
   have h1:Q=0:=of_decide_eq_true h1;rw[hQ] at h1;refine yu ?_;refine mY ?_;refine zn ?_;refine zg rfl (fun h2=>?_) (fun h2=>?_)
   ·
    have h2:t.nd≤s.r:=by have h2:=of_decide_eq_true h2;omega
    have hn0:=hI.pos om;have hdone:ycq t k s=true:=decide_eq_true (.inr h2);rw[yp hdone] at hu;have hJ:=mH (k:=k) ht h0;rw[←hu] at hJ;refine zp ?_;refine zd 25 (.bool false) rfl (aJ8 om) (zu ?_);replace M1:=M1.step E dz;replace E:=aD (aj [(some ga)]) w4;refine yw (ι:=fA) (fun s=>[(0,.pointer (some ⟨ga,0,none⟩)),(1,.int .u64 ((k:Nat):Int)),(4,.int .i64 (s.r:Int)),(5,.int .i64 0),(6,.int .u64 (s.n:Int))]) (fun s w'=>Ext (aj [(some ga)]) w4 w'∧aB w' ga 229 (yj t)∧(OG t k s∧qk (ztk k) qhv s=iO t k)) (fun s=>2^k-s.n) s ⟨rfl,rfl,rfl,rfl,rfl,trivial⟩ ⟨Ext.refl _ _,(by exact Ba),hJ,by rw[hu];rfl⟩ ?_;have eB:=(ze Ba.lt);clear Ba;rintro s w6 ⟨M5,Ba,⟨hJ,hu⟩⟩;have Qi:eD (aj [(some ga)]) (aj [(some ga)]) w4:=(aj.grow aj.none_ (fun k e=>Or.inl (aj.head k e)));replace E:=E.trans M5;replace M1:=M1.step E dz;replace E:=aD (aj [(some ga)]) w6;have awj:=tO hJ.1.hn hk.2;have hnp:=hJ.1.pos;have hrr:=hJ.1.far;obtain ⟨Q,hQ⟩:∃Q,Q=s.n/2^k:=⟨_,rfl⟩;refine zu ?_;refine za rfl (jh rfl rfl om (Ll s.n k Q om hQ) (zn ?_));refine zd 32 (.bool (decide (Q=0))) rfl (by rw[IL]<;>rfl) (zg rfl (fun h3=>?_) (fun h3=>?_))
    ·
     have h3:Q=0:=of_decide_eq_true h3;rw[hQ] at h3;have hdone:ztk k s=false:=decide_eq_false (fun h=>h h3);obtain ⟨hk1,hk2⟩:=mG hJ hdone;have hk3:=tN hk2 hk.2;have hr3:=awx hk1.1;have hs:qhv s= ⟨s.r+1,s.n*10⟩:=rfl;rw[qp hdone] at hu;rw[hs] at hk1 hu hr3;have hr3:s.r+1≤900:=by have hr3:s.r+1≤t.nd+k+1:=hr3;omega
     refine zl ?_;refine ZR ?_;refine ykx ?_;refine zq 6 (.int .u64 ((s.n*10:Nat):Int)) rfl (rfl) (zq 4 (.int .i64 ((s.r+1:Nat):Int)) rfl (rfl) ?_);exact zo (⟨s.r+1,s.n*10⟩) (by show 2^k-s.n*10<2^k-s.n;omega) ⟨rfl,rfl,rfl,rfl,rfl,trivial⟩ ⟨M5.step E Qi,(by exact Ba),hk1,hu⟩
    ·
     have h3:¬Q=0:=of_decide_eq_false h3;rw[hQ] at h3;have hdone:ztk k s=true:=decide_eq_true h3;rw[yp hdone] at hu;refine zp ?_;refine qa rfl (zn ?_);exact zt s ⟨rfl,rfl,rfl,rfl,rfl,trivial⟩ ⟨M1.step E dz,(by exact Ba),hu⟩
   ·
    have h2:s.r<t.nd:=by have h2:=of_decide_eq_false h2;omega
    have hdone:=ad8 h1 h2;obtain ⟨hk1,hk2,_⟩:=sK ht hI hdone;have hk3:=tN hk2 hk.2;have hg:=ht.bR s.r h2;have hs:vez t s= ⟨s.r+1,s.n*10+(dg t.d s.r-48)⟩:=rfl;rw[qp hdone] at hu;rw[hs] at hk1 hu;refine yi ?_;refine za rfl (vc (j:=s.r) gF iL rfl rfl om om (za rfl (ye u5 rfl rfl Ba (dAt hl (dg t.d (s.r)) (s.r) rfl om) (mZ ?_))));refine zu ?_;refine ZR ?_;refine aN ?_;refine kl ?_;refine zjv ?_;refine zwv ?_;refine zq 6 (.int .u64 ((s.n*10+(dg t.d s.r-48):Nat):Int)) rfl ((by congr 1;omega:(.int .u64 ((((s.n:Int)*10)+((dg t.d (s.r):Nat):Int))-48):Value)=_)) (zq 4 (.int .i64 ((s.r+1:Nat):Int)) rfl (rfl) ?_);exact zo (⟨s.r+1,s.n*10+(dg t.d s.r-48)⟩) (by show t.nd-(s.r+1)<t.nd-s.r;omega) ⟨rfl,rfl,rfl,rfl,rfl,trivial⟩ ⟨M3.step E aV,(by exact Ba),hk1,hu⟩
  ·
   have h1:¬Q=0:=of_decide_eq_false h1;rw[hQ] at h1;have hdone:ycq t k s=true:=decide_eq_true (.inl h1);rw[yp hdone] at hu;have hdB:ztk k (rsA t k)=true:=by rw[←hu];exact decide_eq_true h1
   have e:s=iO t k:=by unfold iO;rw[yp hdB];exact hu
   refine zx ?_;exact zt s ⟨rfl,rfl,rfl,rfl,rfl,trivial⟩ ⟨M1.step E dz,(by exact Ba),e⟩
 ·
  have eB:=(ze Ba.lt);clear Ba;rintro s w2 ⟨M1,Ba,hs⟩;replace E:=E.trans M1;replace LW:=LW.step E ak;replace E:=aD (aj [(some ga)]) w2;obtain ⟨hJ,hdB⟩:=zyz k ht h0;have hBr:=al8 k ht h0;have hBn:=tO hJ.1.hn hk.2;have hBp:=hJ.1.hr;rw[←hs] at hBr hBn hBp;refine zu ?_;refine mX ?_;refine aN ?_;refine yl ?_;refine yl ?_;refine zm ?_;refine zk (qr J6 rfl rfl Ba rfl rfl (yK hl (by decide:801<804)) (qrv hl (t.dp-((s.r:Int)-1))) ?_);intro w7 Bx Ea;replace Ba:aB w7 ga 229 (yj { t with dp:=t.dp-((s.r:Int)-1) }):=Bx;replace E:=E.step1 Ea aj.head;refine zu ?_;refine za rfl (gq rfl rfl om (awz k om) ?_);have aVx:=tN (n:=2^k-1) (k:=k) om om;refine zjv ?_;refine zx ?_;refine zd 8 (.int .u64 ((2^k-1:Nat):Int)) rfl (by congr 1;omega) ?_;replace LW:=LW.step E ak;replace E:=aD (aj [(some ga)]) w7;refine yh (ι:=RsC) (fun x=>[(0,.pointer (some ⟨ga,0,none⟩)),(1,.int .u64 ((k:Nat):Int)),(5,.int .i64 (x.w:Int)),(6,.int .u64 (x.n:Int)),(8,.int .u64 ((2^k-1:Nat):Int))]) (fun x w'=>Ext (aj [(some ga)]) w7 w'∧aB w' ga 229 (yj { t with d:=x.d,dp:=t.dp-((s.r:Int)-1) })∧(x=U9 t k)) ?_ ?_
  ·
   have M8:=aD (aj [(some ga)]) w7;have lJ:=aS (aj [(some ga)]) w7;refine aN ?_;replace M8:=M8.step E lJ;replace E:=aD (aj [(some ga)]) w7;refine yw (ι:=RsC) (fun x=>[(0,.pointer (some ⟨ga,0,none⟩)),(1,.int .u64 ((k:Nat):Int)),(4,.int .i64 (x.r:Int)),(5,.int .i64 (x.w:Int)),(6,.int .u64 (x.n:Int)),(8,.int .u64 ((2^k-1:Nat):Int))]) (fun x w'=>Ext (aj [(some ga)]) w7 w'∧aB w' ga 229 (yj { t with d:=x.d,dp:=t.dp-((s.r:Int)-1) })∧(OH t k s.r x∧qk (yrx t) (vex k) x=U9 t k)) (fun x=>t.nd-x.r) (⟨t.d,s.r,0,s.n⟩) ⟨rfl,rfl,rfl,rfl,rfl,rfl,trivial⟩ ⟨Ext.refl _ _,(by exact Ba),by rw[hs];exact sO ht h0,by rw[hs];rfl⟩ ?_;have eB:=(ze Ba.lt);clear Ba;rintro x dQ ⟨gP,Ba,⟨hI,hu⟩⟩;have bX:eD (aj [(some ga)]) (aj [(some ga)]) w7:=(aj.grow aj.none_ (fun k e=>Or.inl (aj.head k e)));replace E:=E.trans gP;replace M8:=M8.step E lJ;replace E:=aD (aj [(some ga)]) dQ;have hlx:({ t with d:=x.d,dp:=t.dp-((s.r:Int)-1) }:Dec).d.length=800:=hI.len;have hxw:=hI.hw;have Zm:=hI.hr;have awj:=tO hI.hn hk.2;refine zp ?_;refine za rfl (ye underlying3 rfl rfl Ba (yJ hlx (t.nd) rfl) (zn ?_));refine zg rfl (fun h1=>?_) (fun h1=>?_)
   ·
    have h1:x.r<t.nd:=by have h1:=of_decide_eq_true h1;omega
    have hdone:yrx t x=false:=decide_eq_false om;have hkeep:=sN ht hk.1 hBp hI hdone;have hg:=ht.bR x.r om;rw[←hI.old x.r om] at hg;obtain ⟨Q,hQ⟩:∃Q,Q=x.n/2^k:=⟨_,rfl⟩;obtain ⟨M,hM⟩:∃M,M=x.n%2^k:=⟨_,rfl⟩;have hq9:=vix hI.hn;rw[←hQ] at hq9;have aR5:=tN (n:=M) (by rw[hM];exact Nat.mod_lt _ hp2) hk.2;have hst:vex k x= ⟨x.d.set x.w (Q+48),x.r+1,x.w+1,M*10+(dg x.d x.r-48)⟩:=by rw[hQ,hM];rfl
    rw[qp hdone] at hu;rw[hst] at hkeep hu;refine zz ?_;refine za rfl (vc (j:=x.r) gF iL rfl rfl om om (za rfl (ye u5 rfl rfl Ba (dAt hlx (dg x.d (x.r)) (x.r) rfl om) (mZ ?_))));refine zp ?_;refine za rfl (jh rfl rfl om (Ll x.n k Q om hQ) (zp ?_));refine za rfl (gf rfl rfl (VX x.n k M om hk.2 hM) (yi ?_));refine nu ?_;refine za rfl (vc (j:=x.w) gF iL rfl rfl rfl om (zf 86 (.int .u8 ((Q+48:Nat):Int)) rfl (rfl) (ykv ?_)));intro eG Bx Ea;replace Ba:aB eG ga 229 (yj { t with d:=x.d.set x.w (Q+48),dp:=t.dp-((s.r:Int)-1) }):=Bx;replace E:=E.step1 Ea aj.head;refine zu ?_;refine yo ?_;refine zu ?_;refine ZR ?_;refine aN ?_;refine kl ?_;refine zjv ?_;refine zwv ?_;refine zq 6 (.int .u64 ((M*10+(dg x.d x.r-48):Nat):Int)) rfl ((by congr 1;omega:(.int .u64 (((((M:Nat):Int)*10)+((dg x.d (x.r):Nat):Int))-48):Value)=_)) (zq 4 (.int .i64 ((x.r+1:Nat):Int)) rfl (rfl) (zq 5 (.int .i64 ((x.w+1:Nat):Int)) rfl (rfl) ?_));exact zo (⟨x.d.set x.w (Q+48),x.r+1,x.w+1,M*10+(dg x.d x.r-48)⟩) (by show t.nd-(x.r+1)<t.nd-x.r;omega) ⟨rfl,rfl,rfl,rfl,rfl,rfl,trivial⟩ ⟨gP.step E bX,(by exact Ba),hkeep,hu⟩
   ·
    have h1:t.nd≤x.r:=by have h1:=of_decide_eq_false h1;omega
    have hdone:yrx t x=true:=decide_eq_true h1;rw[yp hdone] at hu;refine zx ?_;exact zt x ⟨rfl,rfl,rfl,rfl,rfl,trivial⟩ ⟨M8.step E lJ,(by exact Ba),hu⟩
  ·
   have eB:=(ze Ba.lt);clear Ba;rintro x w9 ⟨M8,Ba,hx⟩;replace E:=E.trans M8;replace LW:=LW.step E ak;replace E:=aD (aj [(some ga)]) w9;obtain ⟨hC,_⟩:=CG ht hk.1 h0;refine aN ?_;replace LW:=LW.step E ak;replace E:=aD (aj [(some ga)]) w9;refine yh (ι:=Yk) (fun y=>[(0,.pointer (some ⟨ga,0,none⟩)),(5,.int .i64 (y.w:Int))]) (fun y w'=>Ext (aj [(some ga)]) w9 w'∧aB w' ga 229 (yj { t with d:=y.d,dp:=t.dp-((s.r:Int)-1),tr:=y.tr })∧(y=rsE t k)) ?_ ?_
   ·
    have gK:=aD (aj [(some ga)]) w9;have fD:=aS (aj [(some ga)]) w9;have hl9:({ t with d:=x.d,dp:=t.dp-((s.r:Int)-1) }:Dec).d.length=800:=by show x.d.length=800;rw[hx];exact hC.len
    refine aN ?_;replace gK:=gK.step E fD;replace E:=aD (aj [(some ga)]) w9;refine yw (ι:=Yk×Nat) (fun (y,j)=>[(0,.pointer (some ⟨ga,0,none⟩)),(1,.int .u64 ((k:Nat):Int)),(5,.int .i64 (y.w:Int)),(6,.int .u64 (y.n:Int)),(8,.int .u64 ((2^k-1:Nat):Int))]) (fun (y,j) w'=>Ext (aj [(some ga)]) w9 w'∧aB w' ga 229 (yj { t with d:=y.d,dp:=t.dp-((s.r:Int)-1),tr:=y.tr })∧(Iq t k s.r y∧qk Va (kf k) y=rsE t k∧(2^j∣y.n∧j≤k+1∧(j=k+1→y.n=0)))) (fun (y,j)=>k+1-j) (⟨x.d,x.w,x.n,t.tr⟩,0) ⟨rfl,rfl,rfl,rfl,rfl,trivial⟩ ⟨Ext.refl _ _,(by exact Ba),by rw[hx,hs];exact sQ ht hk.1 h0,by rw[hx];rfl,⟨Nat.one_dvd _,om,fun e=>absurd e om⟩⟩ ?_;have eB:=(ze Ba.lt);clear Ba;rintro ⟨y,j⟩ w16 ⟨Qp,Ba,⟨hI,hu,hj⟩⟩;have II:eD (aj [(some ga)]) (aj [(some ga)]) w9:=(aj.grow aj.none_ (fun k e=>Or.inl (aj.head k e)));replace E:=E.trans Qp;replace gK:=gK.step E fD;replace E:=aD (aj [(some ga)]) w16;have vL:({ t with d:=y.d,dp:=t.dp-((s.r:Int)-1),tr:=y.tr }:Dec).d.length=800:=hI.len;have hyw:=hI.hw;have awj:=tO hI.hn hk.2;refine zp ?_;refine zg rfl (fun h1=>?_) (fun h1=>?_)
    ·
     have h1:0<y.n:=by have h1:=of_decide_eq_true h1;omega
     have hdone:Va y=false:=decide_eq_false om;have hkeep:=sP hk.1 hI;obtain ⟨hj1,hj2⟩:=CJ hj hdone;obtain ⟨Q,hQ⟩:∃Q,Q=y.n/2^k:=⟨_,rfl⟩;obtain ⟨M,hM⟩:∃M,M=y.n%2^k:=⟨_,rfl⟩;have hq9:=vix hI.hn;rw[←hQ] at hq9;have aR5:=tN (n:=M) (by rw[hM];exact Nat.mod_lt _ hp2) hk.2;rw[qp hdone] at hu;refine zp ?_;refine za rfl (jh rfl rfl om (Ll y.n k Q om hQ) (zp ?_));refine za rfl (gf rfl rfl (VX y.n k M om hk.2 hM) (zz ?_));refine zg rfl (fun h2=>?_) (fun h2=>?_)
     ·
      have h2:y.w<800:=by have h2:=of_decide_eq_true h2;omega
      have hst:kf k y= ⟨y.d.set y.w (Q+48),y.w+1,M*10,y.tr⟩:=by rw[hQ,hM];unfold kf;rw[if_pos h2]
      rw[hst] at hkeep hu hj2;refine zu ?_;refine nu ?_;refine za rfl (vc (j:=y.w) gF iL rfl rfl rfl om (zf 111 (.int .u8 ((Q+48:Nat):Int)) rfl (rfl) (zk (qr iL rfl rfl Ba rfl rfl (yK vL om) (al7 vL om) ?_))));intro vX Bx Ea;replace Ba:aB vX ga 229 (yj { t with d:=y.d.set y.w (Q+48),dp:=t.dp-((s.r:Int)-1),tr:=y.tr }):=Bx;replace E:=E.step1 Ea aj.head;refine zx ?_;refine yo ?_;refine zu ?_;refine nk ?_;refine zq 5 (.int .i64 ((y.w+1:Nat):Int)) rfl (rfl) ?_;exact zo (⟨y.d.set y.w (Q+48),y.w+1,M*10,y.tr⟩,j+1) (by show k+1-(j+1)<k+1-j;omega) ⟨rfl,rfl,rfl,rfl,rfl,trivial⟩ ⟨Qp.step E II,(by exact Ba),hkeep,hu,hj2⟩
     ·
      have h2:¬y.w<800:=by have h2:=of_decide_eq_false h2;omega
      refine zl ?_;refine zg rfl (fun h3=>?_) (fun h3=>?_)
      ·
       have h3:0<Q:=by have h3:=of_decide_eq_true h3;omega
       have hst:kf k y= ⟨y.d,y.w,M*10,true⟩:=by rw[hQ] at h3;rw[hM];unfold kf;rw[if_neg h2,if_pos h3]
       rw[hst] at hkeep hu hj2;refine zx ?_;refine zk (qr Ri rfl rfl Ba rfl rfl (yK vL (by decide:803<804)) (Ip vL true) ?_);intro yE Bx Ea;replace Ba:aB yE ga 229 (yj { t with d:=y.d,dp:=t.dp-((s.r:Int)-1),tr:=true }):=Bx;replace E:=E.step1 Ea aj.head;refine zx ?_;refine nk ?_;exact zo (⟨y.d,y.w,M*10,true⟩,j+1) (by show k+1-(j+1)<k+1-j;omega) ⟨rfl,rfl,rfl,rfl,rfl,trivial⟩ ⟨Qp.step E II,(by exact Ba),hkeep,hu,hj2⟩
      ·
       have h3:¬0<Q:=by have h3:=of_decide_eq_false h3;omega
       have hst:kf k y= ⟨y.d,y.w,M*10,y.tr⟩:=by rw[hQ] at h3;rw[hM];unfold kf;rw[if_neg h2,if_neg h3]
       rw[hst] at hkeep hu hj2;refine zx ?_;refine nk ?_;exact zo (⟨y.d,y.w,M*10,y.tr⟩,j+1) (by show k+1-(j+1)<k+1-j;omega) ⟨rfl,rfl,rfl,rfl,rfl,trivial⟩ ⟨Qp.step E II,(by exact Ba),hkeep,hu,hj2⟩
    ·
     have h1:y.n=0:=by have h1:=of_decide_eq_false h1;omega
     have hdone:Va y=true:=decide_eq_true h1;rw[yp hdone] at hu;refine zx ?_;exact zt y ⟨rfl,rfl,trivial⟩ ⟨gK.step E fD,(by exact Ba),hu⟩
   ·
    have eB:=(ze Ba.lt);clear Ba;rintro y dU ⟨gK,Ba,hy⟩;replace E:=E.trans gK;replace LW:=LW.step E ak;replace E:=aD (aj [(some ga)]) dU;obtain ⟨hE,_⟩:=CK ht hk.1 h0;rw[←hy] at hE;have vL:({ t with d:=y.d,dp:=t.dp-((s.r:Int)-1),tr:=y.tr }:Dec).d.length=800:=hE.len;have aR6:({ t with d:=y.d,nd:=y.w,dp:=t.dp-((s.r:Int)-1),tr:=y.tr }:Dec).d.length=800:=hE.len;refine zl ?_;refine zk (qr J6 rfl rfl Ba rfl rfl (yK vL (by decide:800<804)) (mD vL y.w) ?_);intro E8 Bx Ea;replace Ba:aB E8 ga 229 (yj { t with d:=y.d,nd:=y.w,dp:=t.dp-((s.r:Int)-1),tr:=y.tr }):=Bx;replace E:=E.step1 Ea aj.head;refine zx ?_;refine za rfl (zb aix rfl ((Dt _ ga _ aR6 hE.hw Ba).mono ?_));rintro e E9 ⟨rfl,hB,hE⟩;refine ⟨_,rfl,?_⟩;replace Ba:=hB;clear hB;replace E:=E.step1 hE aj.head;clear hE;refine aN ?_;refine Yy rfl ?_;exact ⟨rfl,by unfold js;rw[←hy,←hs];exact Ba,(LW.step E ak)⟩
end
end Go.Proofs.YtmnmebdmpigddaaGreatDoor

/- Texts of this claim. -/
import Derived.Test.YtmnmebdmpigddaaGreatDoorT16
import Derived.WalkKit
import Derived.Lib.Mul64
import Derived.Laws.Bits64b
import Derived.BigQuiet
import Derived.Deep.QuietTactic
import Derived.Lib.Hide
import Derived.Laws.Externs
import Derived.Deep.DeepCutAuto
import Derived.Deep.CutBlock
import Derived.Test.YtmnmebdmpigddaaGreatDoorRows
set_option maxRecDepth 100000
set_option maxHeartbeats 20000000
namespace Go.Proofs.YtmnmebdmpigddaaGreatDoor
open Go.RowKit Go.Lib
theorem dqz35 {P:Prop} (h:P:=by
 have hqp:1≤q:=by omega
 have HDN:=Lib.hid hdn;have HQ2:Hid ((q-1)*3725290298+(r+3725290298)=T):=by have:=HQR.out;show _=_;omega
 clear hdn;by_cases hB:4294967296≤r+3725290298
 · have hend:=ytv bT0 bT1 b00 b01 HQ2.out (by omega) HDN.out (by omega);have HEND:=Lib.hid hend;clear hend;go_wp2
   go_meet
   exact ⟨by rw[HEND.out],rfl⟩
 · go_wp2
   go_round
   case rel=>exact ⟨q-1,r+3725290298,rfl,rfl,by omega,by omega,by omega,by omega,HQ2,HDN⟩
   case measure=>simp[RowKit.intOf];omega):P:=h
theorem dqz34 {P:Prop} (h:P:=by
 have hqp:1≤q:=by omega
 have HDN:=Lib.hid hdn;have HQ2:Hid ((q-1)*3725290298+(r+3725290298)=U):=by have:=HQR.out;show _=_;omega
 clear hdn;by_cases hB:4294967296≤r+3725290298
 · have hend:=ytv bU0 bU1 b10 b11 HQ2.out (by omega) HDN.out (by omega);have HEND:=Lib.hid hend;clear hend;go_wp2
   go_meet
   exact ⟨by rw[HEND.out],rfl⟩
 · go_wp2
   go_round
   case rel=>exact ⟨q-1,r+3725290298,rfl,rfl,by omega,by omega,by omega,by omega,HQ2,HDN⟩
   case measure=>simp[RowKit.intOf];omega):P:=h
namespace M64
theorem maskN (a:Nat) (ha:a<18446744073709551616):bits .and .u64 (a:Int) 4294967295=((a%4294967296:Nat):Int):=by
 have h:=bits_and_u64_nat a 4294967295 ha (by omega);have e:a &&& 4294967295=a%4294967296:=Nat.and_two_pow_sub_one_eq_mod a 32;rw[e] at h;exact h
theorem divN (a:Nat):(a:Int)/4294967296=((a/4294967296:Nat):Int):=by omega
theorem mulN (a b:Nat):(a:Int)*(b:Int)=((a*b:Nat):Int):=(Int.natCast_mul a b).symm
theorem addN (a b:Nat):(a:Int)+(b:Int)=((a+b:Nat):Int):=(Int.natCast_add a b).symm
theorem wrapN (a:Nat) (ha:a<18446744073709551616):IntKind.u64.wrap (a:Int)=(a:Int):=by rw[IntKind.wrap_u64];omega
theorem wrapM (a:Nat):IntKind.u64.wrap (a:Int)=((a%18446744073709551616:Nat):Int):=by rw[IntKind.wrap_u64];omega
end M64
set_option maxHeartbeats 1000000 in
theorem mul64_any (x y:Nat) (hx:x<18446744073709551616) (hy:y<18446744073709551616) (w:World) :
 Calls Tryz.prog 114 #[.int .u64 x,.int .u64 y] w fun e w'=>e= .returned (.tuple #[.int .u64 ((x*y/18446744073709551616:Nat):Int),.int .u64 ((x*y%18446744073709551616:Nat):Int)])∧w=w':=by
 obtain ⟨bd,bt,bw,hhi⟩:=Lib.mul64_hi x y hx hy;have ba:=Lib.half_mul_le (a:=x/4294967296) (b:=y/4294967296) (by omega) (by omega);have bb:=Lib.half_mul_le (a:=x/4294967296) (b:=y%4294967296) (by omega) (by omega);have bc:=Lib.half_mul_le (a:=x%4294967296) (b:=y/4294967296) (by omega) (by omega);have ba':x/4294967296*(y/4294967296)<18446744073709551616:=by omega
 have bb':x/4294967296*(y%4294967296)<18446744073709551616:=by omega
 have bc':x%4294967296*(y/4294967296)<18446744073709551616:=by omega
 have bh1:x/4294967296*(y/4294967296)+(x/4294967296*(y%4294967296)+x%4294967296*(y%4294967296)/4294967296)/4294967296<18446744073709551616:=by omega
 have bh:x/4294967296*(y/4294967296)+(x/4294967296*(y%4294967296)+x%4294967296*(y%4294967296)/4294967296)/4294967296+((x/4294967296*(y%4294967296)+x%4294967296*(y%4294967296)/4294967296)%4294967296+x%4294967296*(y/4294967296))/4294967296<18446744073709551616:=by omega
 go_enter Tryz.func114,Tryz.ntmps114
 go_wp2
 simp only[M64.maskN x hx,M64.maskN y hy,M64.divN,M64.mulN,M64.addN,M64.wrapN _ bd,M64.wrapN _ bb',M64.wrapN _ bt,M64.maskN _ bt,M64.wrapN _ bc',M64.wrapN _ bw,M64.wrapN _ ba',M64.wrapN _ bh1,M64.wrapN _ bh,M64.wrapM (x*y)]
 rw[hhi];go_ret2
 exact ⟨rfl,rfl⟩
theorem lead_base (w:World):Calls Tryz.prog 174 #[.int .u64 1000000000000000000] w fun e w'=>e= .returned (.int .i64 4)∧w=w':=by
 go_enter Tryz.func174,Tryz.ntmps174
 go_wp2
 go_ret
 exact ⟨by kernel_rfl,rfl⟩
theorem add64_run (x y : Int) (hx : 0 ≤ x) (hy : 0 ≤ y) (w : World) :
 (callFunc 116 #[.int .u64 x, .int .u64 y, .int .u64 0]).run Tryz.prog w =
  .ok (.value (.tuple #[.int .u64 ((x + y) % 18446744073709551616), .int .u64 ((x + y) / 18446744073709551616)])) w := by
 rw [run_callFunc_extern Tryz.func116 (by kernel_rfl) (by kernel_rfl) (by kernel_rfl) (e := add64Entry) (by kernel_rfl), run_add64 x y 0 hx hy (by omega) (by omega)];simp only [Result.andThen, Int.add_zero]
theorem or_low (hi lo:Int) (h0:0≤hi) (h1:hi<1000000000000000000) (l0:0≤lo) (l1:lo<18446744073709551616) :
 bits .or .u64 (hi*16) (lo/1152921504606846976)=hi*16+lo/1152921504606846976:=by
 obtain ⟨a,rfl⟩:=Int.eq_ofNat_of_zero_le h0;obtain ⟨b,hb⟩:=Int.eq_ofNat_of_zero_le (show 0≤lo/1152921504606846976 by omega);rw[hb];have h:=bits_or_u64_nat (a*16) b (by omega) (by omega);have e:a*16 ||| b=a*16+b:=by
  have:=Nat.shiftLeft_add_eq_or_of_lt (show b<2^4 by omega) a;rw[Nat.shiftLeft_eq] at this;exact this.symm
 rw[e] at h;rw[show ((a:Int)*16)=((a*16:Nat):Int) by omega,h];omega
theorem mask_low (V:Int) (h0:0≤V) (h1:V<18446744073709551616):bits .and .u64 V 4294967295=V%4294967296:=by
 obtain ⟨a,rfl⟩:=Int.eq_ofNat_of_zero_le h0;rw[M64.maskN a (by omega)];omega
theorem ytv {U V q r:Int} (h0:0≤U) (h1:U<16000000000000000000) (v0:0≤V) (v1:V<4294967296) (hq:q*3725290298+r=U) (hr:0≤r)
 (hQ:(U*4294967296+V)/16000000000000000000≤q) (ht:q*1983905792≤4294967296*r+V):q=(U*4294967296+V)/16000000000000000000:=by omega
theorem ydv {U V q r:Int} (h0:0≤U) (h1:U<16000000000000000000) (v0:0≤V) (v1:V<4294967296) (hq:q*3725290298+r=U)
 (ht:4294967296≤q∨4294967296*r+V<q*1983905792):(U*4294967296+V)/16000000000000000000≤q-1:=by omega
set_option maxHeartbeats 2000000 in
theorem div64_base (hi lo:Int) (h0:0≤hi) (h1:hi<1000000000000000000) (l0:0≤lo) (l1:lo<18446744073709551616) (w:World) :
 Calls Tryz.prog 146 #[.int .u64 hi,.int .u64 lo,.int .u64 1000000000000000000] w fun e w'=>e= .returned (.tuple #[.int .u64 ((hi*18446744073709551616+lo)/1000000000000000000),.int .u64 ((hi*18446744073709551616+lo)%1000000000000000000)])∧ ∃n,w'=w.drewN n:=by
 by_cases hz:hi=0
 · subst hz;have e1:(0:Int)*18446744073709551616+lo=lo:=by omega
   rw[e1];have hq0:0≤lo/1000000000000000000:=by omega
   have hr0:0≤lo%1000000000000000000:=by omega
   go_enter Tryz.func146,Tryz.ntmps146
   go_wp2
   go_quiet (fail)
   go_wp2
   go_ret2
   exact ⟨by simp,_,rfl⟩
 · have hz2:(hi==0)=false:=by simpa using hz
   have hle:¬1000000000000000000≤hi:=by omega
   clear hz;obtain ⟨U,hU⟩:∃U,U=hi*16+lo/1152921504606846976:=⟨_,rfl⟩;obtain ⟨V,hV⟩:∃V,V=lo*16%18446744073709551616:=⟨_,rfl⟩;obtain ⟨V1,hV1⟩:∃V1,V1=V/4294967296:=⟨_,rfl⟩;obtain ⟨V0,hV0⟩:∃V0,V0=V%4294967296:=⟨_,rfl⟩;obtain ⟨Q,hQ⟩:∃Q,Q=U/3725290298:=⟨_,rfl⟩;have eor:bits .or .u64 (hi*16) (lo/1152921504606846976)=U:=by rw[or_low hi lo h0 h1 l0 l1,hU]
   have ew:IntKind.u64.wrap (lo*16)=V:=by rw[IntKind.wrap_u64,hV]
   have bU0:0≤U:=by omega
   have bU1:U<16000000000000000000:=by omega
   have bV0:0≤V:=by omega
   have bV1:V<18446744073709551616:=by omega
   have b10:0≤V1:=by omega
   have b11:V1<4294967296:=by omega
   have b00:0≤V0:=by omega
   have b01:V0<4294967296:=by omega
   have bQ0:0≤Q:=by omega
   have bQ1:Q≤4294967297:=by omega
   have em:bits .and .u64 V 4294967295=V0:=by rw[mask_low V bV0 bV1,hV0]
   have ed:V/4294967296=V1:=hV1.symm;have ec:bits .and .u64 16000000000000000000 4294967295=1983905792:=by rw[mask_low _ (by omega) (by omega)];rfl
   have eq:U/3725290298=Q:=hQ.symm;have HU:=Lib.hid hU;have HV:=Lib.hid hV;have HV1:=Lib.hid hV1;have HV0:=Lib.hid hV0;have HQ:=Lib.hid hQ;have bR0:0≤U-Q*3725290298:=by omega
   have bR1:U-Q*3725290298<3725290298:=by omega
   clear hU hV hV1 hV0 hQ;go_enter Tryz.func146,Tryz.ntmps146
   go_upto_block 0 with (go_at_call 174;refine (lead_base _).mono ?_;rintro e w' ⟨rfl,rfl⟩)
   clear eq eor ew em ed ec;go_cut [15] (fun v wx=>v= .int .u64 ((U*4294967296+V1)/16000000000000000000)∧w=wx)
   case first=>
    go_wp2_with fail
    go_loop [15,16] (fun qv rv=>∃q r:Int,qv= .int .u64 q∧rv= .int .u64 r∧0≤q∧q≤4294967297∧0≤r∧r<4294967296∧Hid (q*3725290298+r=U)∧Hid ((U*4294967296+V1)/16000000000000000000≤q)) (fun qv _=>(RowKit.intOf qv).toNat)
    case atStart=>exact ⟨Q,U-Q*3725290298,by rw[HQ.out],rfl,bQ0,bQ1,bR0,by omega,by show _=_;omega,by have:=HQ.out;show _≤_;omega⟩
    case round=>
     obtain ⟨q,r,rfl,rfl,hq0,hq1,hr0,hr1,HQR,HLE⟩:=hrel;by_cases hA:4294967296≤q
     · have hdn:=ydv bU0 bU1 b10 b11 HQR.out (Or.inl hA);exact dqz34
     · by_cases hT:4294967296*r+V1<q*1983905792
       · have hdn:=ydv bU0 bU1 b10 b11 HQR.out (Or.inr hT);exact dqz34
       · have hend:=ytv bU0 bU1 b10 b11 HQR.out hr0 HLE.out (by omega);have HEND:=Lib.hid hend;clear hend;go_wp2
         go_meet
         exact ⟨by rw[HEND.out],rfl⟩
   case rest=>
    obtain ⟨rfl,rfl⟩:=hcut;obtain ⟨P,hP⟩:∃P,P=(U*4294967296+V1)/16000000000000000000:=⟨_,rfl⟩;obtain ⟨T,hT⟩:∃T,T=(U*4294967296+V1)%16000000000000000000:=⟨_,rfl⟩;rw[←hP];have bP0:0≤P:=by omega
    have bP1:P<4294967296:=by omega
    have bT0:0≤T:=by omega
    have bT1:T<16000000000000000000:=by omega
    obtain ⟨Q2,hQ2⟩:∃Q2,Q2=T/3725290298:=⟨_,rfl⟩;have cQ0:0≤Q2:=by omega
    have cQ1:Q2≤4294967297:=by omega
    have cR0:0≤T-Q2*3725290298:=by omega
    have cR1:T-Q2*3725290298<3725290298:=by omega
    obtain ⟨X1,hX1⟩:∃X,X=IntKind.u64.wrap (U*4294967296):=⟨_,rfl⟩;obtain ⟨X2,hX2⟩:∃X,X=IntKind.u64.wrap (X1+V1):=⟨_,rfl⟩;obtain ⟨X3,hX3⟩:∃X,X=IntKind.u64.wrap (P*16000000000000000000):=⟨_,rfl⟩;have e4:IntKind.u64.wrap (X2-X3)=T:=by rw[hX2,hX3,hX1];simp only[IntKind.wrap_u64];omega
    have e1:=hX1.symm;have e2:=hX2.symm;have e3:=hX3.symm;have hX1b:0≤X1∧X1<18446744073709551616:=by rw[hX1];simp only[IntKind.wrap_u64];omega
    have hX2b:0≤X2∧X2<18446744073709551616:=by rw[hX2];simp only[IntKind.wrap_u64];omega
    have hX3b:0≤X3∧X3<18446744073709551616:=by rw[hX3];simp only[IntKind.wrap_u64];omega
    have HP:=Lib.hid hP;have HT:=Lib.hid hT;have HQ2e:=Lib.hid hQ2;clear hP hT hQ2 hX1 hX2 hX3;go_upto_block 2 with fail
    clear e1 e2 e3 e4 hX1b hX2b hX3b;go_cut [18] (fun v wx=>v= .int .u64 ((T*4294967296+V0)/16000000000000000000)∧w=wx)
    case first=>
     go_wp2_with fail
     go_loop [18,16] (fun qv rv=>∃q r:Int,qv= .int .u64 q∧rv= .int .u64 r∧0≤q∧q≤4294967297∧0≤r∧r<4294967296∧Hid (q*3725290298+r=T)∧Hid ((T*4294967296+V0)/16000000000000000000≤q)) (fun qv _=>(RowKit.intOf qv).toNat)
     case atStart=>exact ⟨Q2,T-Q2*3725290298,by rw[HQ2e.out],by rw[HQ2e.out],cQ0,cQ1,cR0,by omega,by show _=_;omega,by have:=HQ2e.out;show _≤_;omega⟩
     case round=>
      obtain ⟨q,r,rfl,rfl,hq0,hq1,hr0,hr1,HQR,HLE⟩:=hrel;by_cases hA:4294967296≤q
      · have hdn:=ydv bT0 bT1 b00 b01 HQR.out (Or.inl hA);exact dqz35
      · by_cases hT:4294967296*r+V0<q*1983905792
        · have hdn:=ydv bT0 bT1 b00 b01 HQR.out (Or.inr hT);exact dqz35
        · have hend:=ytv bT0 bT1 b00 b01 HQR.out hr0 HLE.out (by omega);have HEND:=Lib.hid hend;clear hend;go_wp2
          go_meet
          exact ⟨by rw[HEND.out],rfl⟩
    case rest=>
     obtain ⟨rfl,rfl⟩:=hcut;obtain ⟨P2,hP2⟩:∃P,P=(T*4294967296+V0)/16000000000000000000:=⟨_,rfl⟩;obtain ⟨T2,hT2⟩:∃T2,T2=(T*4294967296+V0)%16000000000000000000:=⟨_,rfl⟩;rw[←hP2];have cP0:0≤P2:=by omega
     have cP1:P2<4294967296:=by omega
     have cT0:0≤T2:=by omega
     have cT1:T2<16000000000000000000:=by omega
     obtain ⟨X1,hX1⟩:∃X,X=IntKind.u64.wrap (T*4294967296):=⟨_,rfl⟩;obtain ⟨X2,hX2⟩:∃X,X=IntKind.u64.wrap (X1+V0):=⟨_,rfl⟩;obtain ⟨X3,hX3⟩:∃X,X=IntKind.u64.wrap (P2*16000000000000000000):=⟨_,rfl⟩;have e4:IntKind.u64.wrap (X2-X3)=T2:=by rw[hX2,hX3,hX1];simp only[IntKind.wrap_u64];omega
     have e1:=hX1.symm;have e2:=hX2.symm;have e3:=hX3.symm;have hX1b:0≤X1∧X1<18446744073709551616:=by rw[hX1];simp only[IntKind.wrap_u64];omega
     have hX2b:0≤X2∧X2<18446744073709551616:=by rw[hX2];simp only[IntKind.wrap_u64];omega
     have hX3b:0≤X3∧X3<18446744073709551616:=by rw[hX3];simp only[IntKind.wrap_u64];omega
     have hfin:P*4294967296+P2=(hi*18446744073709551616+lo)/1000000000000000000∧T2/16=(hi*18446744073709551616+lo)%1000000000000000000:=by
      have a1:=HU.out;have a2:=HV.out;have a3:=HV1.out;have a4:=HV0.out;have a5:=HP.out;have a6:=HT.out;omega
     obtain ⟨f1,f2⟩:=hfin;have F1:=Lib.hid f1;have F2:=Lib.hid f2;have bF:P*4294967296+P2<18446744073709551616:=by omega
     clear hP2 hT2 hX1 hX2 hX3 f1 f2;go_wp2
     go_ret2
     exact ⟨by rw[F1.out,F2.out];rfl,0,rfl⟩
end Go.Proofs.YtmnmebdmpigddaaGreatDoor
namespace Go.Proofs.YtmnmebdmpigddaaGreatDoor
open Go.RowKit
theorem dqz94 {P:Prop} (h:P:=by
 refine bodyPost_ret (v:=.tuple #[.agg #[.bool false,.slice none 0 0],.int .i64 3]) (by simp[results,Tryz.results94,go_sem,r0,r1]) rfl ?_;exact fin_zero (LW.trans (L.mono LW.size)) (by omega) _ _):P:=h
theorem fits_out (neg:Bool) (A:Option Addr) (c:Nat) (xs:List Nat) (w:World) (hx:Nums w A xs) (hs:small B18 xs) (hl:xs.length≤1048576) :
 Calls Tryz.prog 147 #[.bool neg,.slice A xs.length c] w (yd w (outV true (sgn neg (val B18 xs))) (outE true (sgn neg (val B18 xs)))):=by
 rcases Nat.lt_or_ge (val B18 xs) (B18^30) with h | h
 · rw[ztk (by rw[qt];exact h),ztv (by rw[qt];exact h)];exact qlk neg A c xs w hx hs hl h
 · rw[outV_big (by rw[qt];exact h),qjk (by rw[qt];exact h)];exact fits_no neg A c xs w hx hs hl h
theorem mul_step {ys zs:List Nat} {k j u t C X:Nat} (hz:k+j<zs.length) (h:val B18 zs+B18^(k+j)*u=C+B18^k*(X*val B18 (ys.take j))) (ht:t=X*ys.getD j 0+zs.getD (k+j) 0+u) :
 val B18 (zs.set (k+j) (t%B18))+B18^(k+(j+1))*(t/B18)=C+B18^k*(X*val B18 (ys.take (j+1))):=by
 have h1:=ybx (b:=B18) zs (k+j) (t%B18) hz;have h2:B18^(k+(j+1))*(t/B18)=B18^(k+j)*(B18*(t/B18)):=by rw[←Nat.add_assoc,Nat.pow_succ,Nat.mul_assoc]
 have h3:B18^(k+j)*(t%B18)+B18^(k+j)*(B18*(t/B18))=B18^(k+j)*t:=by rw[←Nat.mul_add,Nat.mod_add_div]
 have h4:B18^(k+j)*t=B18^(k+j)*(X*ys.getD j 0)+B18^(k+j)*zs.getD (k+j) 0+B18^(k+j)*u:=by rw[ht,Nat.mul_add,Nat.mul_add]
 have h5:B18^k*(X*val B18 (ys.take (j+1)))=B18^k*(X*val B18 (ys.take j))+B18^(k+j)*(X*ys.getD j 0):=by
  rw[yk,Nat.mul_add,Nat.mul_add,Nat.pow_add,Nat.mul_left_comm X,Nat.mul_assoc (B18^k)]
 omega
theorem mul_close {xs ys zs:List Nat} {k u:Nat} (hz:k+ys.length<zs.length) (h0:zs.getD (k+ys.length) 0=0)
 (h:val B18 zs+B18^(k+ys.length)*u=val B18 (xs.take k)*val B18 ys+B18^k*(xs.getD k 0*val B18 (ys.take ys.length))) :
 val B18 (zs.set (k+ys.length) u)=val B18 (xs.take (k+1))*val B18 ys:=by
 have h1:=ybx (b:=B18) zs (k+ys.length) u hz;rw[h0,Nat.mul_zero,Nat.add_zero] at h1;rw[h1,h,List.take_length,yk,Nat.add_mul,Nat.mul_assoc]
def ThreeB (w:World) (n1 n2:Bool) (A B:Option Addr) (c d:Nat) (xs ys:List Nat) (b:World):Prop:=
 Two w n1 n2 A B c d xs ys b∧(b.cell? ⟨w.heap.size+1+1,0,none⟩=some (.bool false)∧b.cell? ⟨w.heap.size+1+1,1,none⟩=some (.slice none 0 0)∧b.frozen? ⟨w.heap.size+1+1,0,none⟩=false∧b.frozen? ⟨w.heap.size+1+1,1,none⟩=false)
def znk (w:World) (n1 n2:Bool) (A B:Option Addr) (c d:Nat) (xs ys:List Nat):World:=(two w n1 n2 A B c d xs ys).alloc (.cells #[.bool false,.slice none 0 0] 24)
theorem qcx (w:World) (n1 n2:Bool) (A B:Option Addr) (c d:Nat) (xs ys:List Nat):Below w.heap.size w (znk w n1 n2 A B c d xs ys):=
 (yqx w n1 n2 A B c d xs ys).alloc (yqx w n1 n2 A B c d xs ys).size _
theorem qyv (w:World) (n1 n2:Bool) (A B:Option Addr) (c d:Nat) (xs ys:List Nat):(znk w n1 n2 A B c d xs ys).heap.size=w.heap.size+3:=by simp[znk,two]
theorem qbv {w b:World} {n1 n2:Bool} {A B:Option Addr} {c d:Nat} {xs ys:List Nat} (hx:Nums w A xs) (hy:Nums w B ys) (hb:Below (znk w n1 n2 A B c d xs ys).heap.size (znk w n1 n2 A B c d xs ys) b):ThreeB w n1 n2 A B c d xs ys b:=by
 have k:Below (two w n1 n2 A B c d xs ys).heap.size (two w n1 n2 A B c d xs ys) (znk w n1 n2 A B c d xs ys):=(Below.refl _ _).alloc (Nat.le_refl _) _;have Z:Blk (znk w n1 n2 A B c d xs ys) (w.heap.size+1+1) 24 #[.bool false,.slice none 0 0]:=Blk.newAt (by simp[two]);exact ⟨two_since hx hy (kr k hb),(Z.below hb Z.lt).two⟩
section
variable (n1 n2:Bool) (A B:Option Addr) (c d:Nat) (xs ys:List Nat) (w:World)
set_option maxHeartbeats 1000000 in
theorem mul_bad (hx:Nums w A xs) (hy:Nums w B ys) (hl:xs.length≤9223372036854775807) (hl':ys.length≤9223372036854775807) (hok:(zr n1 xs&&zr n2 ys)=false) :
 Calls Tryz.prog 94 #[.agg #[.bool n1,.slice A xs.length c],.agg #[.bool n2,.slice B ys.length d]] w (yd w 0 3):=by
 obtain ⟨W0,hW0⟩:∃W0,W0=znk w n1 n2 A B c d xs ys:=⟨_,rfl⟩;have LW:Below w.heap.size w W0:=by rw[hW0];exact qcx ..
 have HWs:Hid (W0.heap.size=w.heap.size+3):=by rw[hW0];exact qyv ..
 have HF:Hid (∀b1,Below W0.heap.size W0 b1→ThreeB w n1 n2 A B c d xs ys b1):=fun b1 hb=>by rw[hW0] at hb;exact qbv hx hy hb
 have hg1:=fun w hx=>yr n1 c w A xs hl hx;have hg2:=fun w hy=>yr n2 d w B ys hl' hy;clear hx hy;unfold znk two at hW0;have L:Below W0.heap.size W0 W0:=Below.refl _ _;obtain ⟨⟨⟨x0,x1,y0,y1⟩,hx,hy⟩,r0,r1,r2,r3⟩:=HF.out _ L;go_enter Tryz.func94,Tryz.ntmps94
 cases h1:zr n1 xs
 · rw[h1] at hg1;clear hok h1;go_upto_region 1 with fail
   rw[←hW0];clear hW0;go_wp2_with (go_at_call 66;refine (hg1 _ hx).mono ?_;rintro e w1 ⟨rfl,hb⟩;have L:=kr L hb;clear x0 x1 y0 y1 hx hy r0 r1 r2 r3 hb;obtain ⟨⟨⟨x0,x1,y0,y1⟩,hx,hy⟩,r0,r1,r2,r3⟩:=HF.out _ L)
   exact dqz94
 · rw[h1,Bool.true_and] at hok;rw[h1] at hg1;rw[hok] at hg2;clear hok h1;go_upto_region 1 with fail
   rw[←hW0];clear hW0;go_wp2_with (go_at_call 66;refine (hg1 _ hx).mono ?_;rintro e w1 ⟨rfl,hb⟩;have L:=kr L hb;clear x0 x1 y0 y1 hx hy r0 r1 r2 r3 hb;obtain ⟨⟨⟨x0,x1,y0,y1⟩,hx,hy⟩,r0,r1,r2,r3⟩:=HF.out _ L;refine Hid.out ?_)
   refine Lib.hid ?_;go_wp2_with (go_at_call 66;refine (hg2 _ hy).mono ?_;rintro e w1 ⟨rfl,hb⟩;have L:=kr L hb;clear x0 x1 y0 y1 hx hy r0 r1 r2 r3 hb;obtain ⟨⟨⟨x0,x1,y0,y1⟩,hx,hy⟩,r0,r1,r2,r3⟩:=HF.out _ L)
   exact dqz94
theorem mul_bound {p z u:Int} (p0:0≤p) (p1:p≤999999999999999999*999999999999999999) (z0:0≤z) (z1:z<1000000000000000000) (u0:0≤u) (u1:u<1000000000000000000) :
 0≤p/18446744073709551616∧p/18446744073709551616<1000000000000000000∧
 (p/18446744073709551616+(p%18446744073709551616+z)/18446744073709551616+((p%18446744073709551616+z)%18446744073709551616+u)/18446744073709551616)*18446744073709551616+((p%18446744073709551616+z)%18446744073709551616+u)%18446744073709551616=p+z+u∧
 (p+z+u)/1000000000000000000<1000000000000000000∧
 p/18446744073709551616+(p%18446744073709551616+z)/18446744073709551616+((p%18446744073709551616+z)%18446744073709551616+u)/18446744073709551616<1000000000000000000:=by
 refine ⟨by omega,by omega,by omega,by omega,by omega⟩
theorem val_rep (b n:Nat):val b (List.replicate n 0)=0:=by
 induction n with
 | zero=>rfl
 | succ n ih=>rw[List.replicate_succ,val,ih];simp
theorem mul64_int (x y:Int) (h0:0≤x) (h1:x<18446744073709551616) (k0:0≤y) (k1:y<18446744073709551616) (w:World) :
 Calls Tryz.prog 114 #[.int .u64 x,.int .u64 y] w fun e w'=>e= .returned (.tuple #[.int .u64 (x*y/18446744073709551616),.int .u64 (x*y%18446744073709551616)])∧w'=w:=by
 obtain ⟨a,rfl⟩:=Int.eq_ofNat_of_zero_le h0;obtain ⟨b,rfl⟩:=Int.eq_ofNat_of_zero_le k0;refine (mul64_any a b (by omega) (by omega) w).mono fun e w' h=>?_;obtain ⟨rfl,rfl⟩:=h;rw[←Int.natCast_mul];exact ⟨by congr 1,rfl⟩
theorem nth_mul_le {xs ys:List Nat} (hs:small B18 xs) (ht:small B18 ys) (k j:Nat):0≤nth xs k*nth ys j∧nth xs k*nth ys j≤999999999999999999*999999999999999999:=by
 have a0:=yc xs k;have b0:=yc ys j;have a1:=qx (by unfold B18;omega) hs k;have b1:=qx (by unfold B18;omega) ht j;rw[B18_eq] at a1 b1;refine ⟨Int.mul_nonneg a0 b0,Int.mul_le_mul (by omega) (by omega) b0 (by omega)⟩
set_option maxHeartbeats 2000000 in
theorem mul_good (hx:Nums w A xs) (hy:Nums w B ys) (hg:zr n1 xs=true) (hk:zr n2 ys=true) :
 Calls Tryz.prog 94 #[.agg #[.bool n1,.slice A xs.length c],.agg #[.bool n2,.slice B ys.length d]] w (yd w (outV true (num n1 xs*num n2 ys)) (outE true (num n1 xs*num n2 ys))):=by
 obtain ⟨hs,_,hl,_⟩:=yv hg;obtain ⟨ht,_,hl',_⟩:=yv hk;have hprod:∀v,v=val B18 xs*val B18 ys→sgn (n1 !=n2) v=num n1 xs*num n2 ys:=fun v hv=>by
  rw[hv,ke,ke];unfold sgn;cases n1<;>cases n2<;>simp[Int.natCast_mul,Int.neg_mul,Int.mul_neg]
 have HP:=Lib.hid hprod;have HS:=Lib.hid hs;have HT:=Lib.hid ht;obtain ⟨q,hq⟩:∃q,q=num n1 xs*num n2 ys:=⟨_,rfl⟩;rw[←hq] at HP ⊢;obtain ⟨W0,hW0⟩:∃W0,W0=znk w n1 n2 A B c d xs ys:=⟨_,rfl⟩;have LW:Below w.heap.size w W0:=by rw[hW0];exact qcx ..
 have HWs:Hid (W0.heap.size=w.heap.size+3):=by rw[hW0];exact qyv ..
 have HF:Hid (∀b1,Below W0.heap.size W0 b1→ThreeB w n1 n2 A B c d xs ys b1):=fun b1 hb=>by rw[hW0] at hb;exact qbv hx hy hb
 have hg1:=fun w hx=>yr n1 c w A xs (by omega) hx;have hg2:=fun w hy=>yr n2 d w B ys (by omega) hy;rw[hg] at hg1;rw[hk] at hg2;clear hx hy hq hprod hs ht hg hk;unfold znk two at hW0;have L:Below W0.heap.size W0 W0:=Below.refl _ _;obtain ⟨⟨⟨x0,x1,y0,y1⟩,hx,hy⟩,r0,r1,r2,r3⟩:=HF.out _ L;go_enter Tryz.func94,Tryz.ntmps94
 go_upto_region 1 with fail
 rw[←hW0];clear hW0;go_wp2_with (go_at_call 66;refine (hg1 _ hx).mono ?_;rintro e w1 ⟨rfl,hb⟩;have L:=kr L hb;clear x0 x1 y0 y1 hx hy r0 r1 r2 r3 hb;obtain ⟨⟨⟨x0,x1,y0,y1⟩,hx,hy⟩,r0,r1,r2,r3⟩:=HF.out _ L;refine Hid.out ?_)
 refine Lib.hid ?_;go_wp2_with (go_at_call 66;refine (hg2 _ hy).mono ?_;rintro e w1 ⟨rfl,hb⟩;have L:=kr L hb;clear x0 x1 y0 y1 hx hy r0 r1 r2 r3 hb;obtain ⟨⟨⟨x0,x1,y0,y1⟩,hx,hy⟩,r0,r1,r2,r3⟩:=HF.out _ L;refine Hid.out ?_)
 refine Lib.hid ?_;clear hg1 hg2;obtain ⟨N,hN⟩:∃N:Nat,N=xs.length+ys.length+1:=⟨_,rfl⟩;have hmk:=ynz N (by omega);have hNi:((xs.length:Int)+(ys.length:Int)+1)=(N:Int):=by omega
 have HN:=Lib.hid hN;have hNb:N≤61:=by omega
 clear hN;go_upto_region 4 with fail
 obtain ⟨g,hg⟩:∃g,g=w1.heap.size:=⟨_,rfl⟩;obtain ⟨W1,hW1⟩:∃W1,W1=w1.alloc (.cells (madeCells #[.int .u64 0] N) 25):=⟨_,rfl⟩;have k1:Below w1.heap.size w1 W1:=by rw[hW1];exact (Below.refl _ _).alloc (Nat.le_refl _) _
 have hrow:Row W1 g N (List.replicate N 0):=by
  have h:=(Row.made w1 N).fill;rw[←hW1,←hg] at h;simpa using h
 have hWg:W1.heap.size=g+1:=by rw[hW1,hg];simp
 have hgW:W0.heap.size≤g:=by rw[hg];exact L.size
 have L:=kr L k1;rw[←hg,←hW1];clear x0 x1 y0 y1 hx hy r0 r1 r2 r3 hmk hNi hg hW1 k1;obtain ⟨⟨⟨x0,x1,y0,y1⟩,hx,hy⟩,r0,r1,r2,r3⟩:=HF.out _ L;go_wp2_with fail
 clear x0 x1 y0 y1 hx hy r0 r1 r2 r3;go_loopw [34] (fun iv wr=>∃(k:Nat) (zs:List Nat),k≤xs.length∧iv= .int .i64 k∧Row wr g N zs∧zs.length=N∧small B18 zs∧Hid (val B18 zs=val B18 (xs.take k)*val B18 ys)∧Hid (∀p,k+ys.length≤p→nth zs p=0)∧Below W0.heap.size W0 wr) (fun iv _=>xs.length-(intOf iv).toNat)
 case atStart=>exact ⟨0,List.replicate N 0,by omega,rfl,hrow,by simp,by intro x hx;rw[List.eq_of_mem_replicate hx];unfold B18;omega,by show _=_;rw[val_rep,List.take_zero];simp[val],fun p _=>nth_replicate _ _,L⟩
 case round=>
  obtain ⟨k,zs,hk,rfl,hrw,hzl,hzs,HV,HZ,hbel⟩:=hrel;obtain ⟨⟨⟨x0,x1,y0,y1⟩,hx,hy⟩,r0,r1,r2,r3⟩:=HF.out _ hbel;by_cases hkn:k<xs.length
  · obtain ⟨wo,rfl⟩:∃wo:World,wo=wr:=⟨_,rfl⟩;have hm1:(k:Int)<(xs.length:Int):=by omega
    have HX0:Hid (val B18 zs+B18^(k+0)*(0:Int).toNat=val B18 (xs.take k)*val B18 ys+B18^k*(xs.getD k 0*val B18 (ys.take 0))):=by
     show _=_;rw[HV.out];simp[val]
    go_wp2_with fail
    clear x0 x1 y0 y1 hx hy r0 r1 r2 r3;go_loopw [8,40] (fun cv jv wi=>∃(j:Nat) (u:Int) (qs:List Nat),j≤ys.length∧jv= .int .i64 j∧cv= .int .u64 u∧0≤u∧u<1000000000000000000∧Row wi g N qs∧qs.length=N∧small B18 qs∧
     Hid (val B18 qs+B18^(k+j)*u.toNat=val B18 (xs.take k)*val B18 ys+B18^k*(xs.getD k 0*val B18 (ys.take j)))∧Hid (∀p,k+ys.length≤p→nth qs p=0)∧Below W0.heap.size W0 wi) (fun _ jv _=>ys.length-(intOf jv).toNat)
    case atStart=>exact ⟨0,0,zs,by omega,rfl,rfl,by omega,by omega,hrw,hzl,hzs,HX0,HZ,hbel⟩
    case round=>
     obtain ⟨j,u,qs,hj,rfl,rfl,hu0,hu1,hrq,hql,hqs,HQ,HZ2,hbel2⟩:=hrel;obtain ⟨⟨⟨x0,x1,y0,y1⟩,hx,hy⟩,r0,r1,r2,r3⟩:=HF.out _ hbel2;by_cases hjn:j<ys.length
     · have hN1:=HN.out;obtain ⟨b,o,rfl,hb,hc⟩:=hx.2 (by omega);obtain ⟨b',o',rfl,hb',hc'⟩:=hy.2 (by omega);have hcx:=hc k hkn;have hcy:=hc' j hjn;have hcz:=hrq.cell (j:=k+j) (by omega);have hm2:(j:Int)<(ys.length:Int):=by omega
       have hk0:(0:Int)≤(k:Int):=by omega
       have hj0:(0:Int)≤(j:Int):=by omega
       have hnx:=yc xs k;have hny:=yc ys j;have hnz:=yc qs (k+j);have hlx:=qx (by unfold B18;omega) HS.out k;have hly:=qx (by unfold B18;omega) HT.out j;have hlz:=qx (by unfold B18;omega) hqs (k+j);rw[B18_eq] at hlx hly hlz;obtain ⟨p0,p1⟩:=nth_mul_le HS.out HT.out k j;obtain ⟨P,hP⟩:∃P,P=nth xs k*nth ys j:=⟨_,rfl⟩;rw[←hP] at p0 p1;obtain ⟨m1,m2,m3,m4,m5⟩:=mul_bound p0 p1 hnz hlz hu0 hu1;have hmul:=fun w=>mul64_int (nth xs k) (nth ys j) hnx (by omega) hny (by omega) w;rw[←hP] at hmul;obtain ⟨h0,hh0⟩:∃h0,h0=P/18446744073709551616:=⟨_,rfl⟩;obtain ⟨l0,hl0⟩:∃l0,l0=P%18446744073709551616:=⟨_,rfl⟩;rw[←hh0,←hl0] at hmul;obtain ⟨l1,hl1⟩:∃l1,l1=(l0+nth qs (k+j))%18446744073709551616:=⟨_,rfl⟩;obtain ⟨c1,hc1⟩:∃c1,c1=(l0+nth qs (k+j))/18446744073709551616:=⟨_,rfl⟩;obtain ⟨l2,hl2⟩:∃l2,l2=(l1+u)%18446744073709551616:=⟨_,rfl⟩;obtain ⟨c2,hc2⟩:∃c2,c2=(l1+u)/18446744073709551616:=⟨_,rfl⟩;have b1:0≤l0:=by omega
       have b2:0≤l1:=by omega
       have b3:0≤l2∧l2<18446744073709551616:=by omega
       have b4:0≤c1:=by omega
       have b5:0≤c2:=by omega
       have ha1:∀w,(callFunc 116 #[.int .u64 l0,.int .u64 (nth qs (k+j)),.int .u64 0]).run Tryz.prog w= .ok (.value (.tuple #[.int .u64 l1,.int .u64 c1])) w:=fun w=>by rw[add64_run l0 _ b1 hnz,hl1,hc1]
       have ha2:∀w,(callFunc 116 #[.int .u64 l1,.int .u64 u,.int .u64 0]).run Tryz.prog w= .ok (.value (.tuple #[.int .u64 l2,.int .u64 c2])) w:=fun w=>by rw[add64_run l1 _ b2 hu0,hl2,hc2]
       rw[←hh0,←hl0,←hl1,←hc1,←hl2,←hc2] at m3;rw[←hh0,←hl0,←hl1,←hc1,←hc2] at m5;rw[←hh0] at m1 m2;have hdv:=fun w=>div64_base (h0+c1+c2) l2 (by omega) m5 b3.1 b3.2 w;rw[m3] at hdv;obtain ⟨T,hT⟩:∃T,T=P+nth qs (k+j)+u:=⟨_,rfl⟩;rw[←hT] at hdv m4;obtain ⟨Q,hQ⟩:∃Q,Q=T/1000000000000000000:=⟨_,rfl⟩;obtain ⟨R,hR⟩:∃R,R=T%1000000000000000000:=⟨_,rfl⟩;rw[←hQ,←hR] at hdv;rw[←hQ] at m4;have hQ0:0≤Q:=by omega
       have hR0:0≤R:=by omega
       have hR1:R<1000000000000000000:=by omega
       have HST:Hid (val B18 (qs.set (k+j) R.toNat)+B18^(k+(j+1))*Q.toNat=val B18 (xs.take k)*val B18 ys+B18^k*(xs.getD k 0*val B18 (ys.take (j+1)))):=by
        have hTn:T.toNat=xs.getD k 0*ys.getD j 0+qs.getD (k+j) 0+u.toNat:=by
         have e1:P=((xs.getD k 0*ys.getD j 0:Nat):Int):=by rw[hP];unfold nth;rw[←Int.natCast_mul]
         have e2:nth qs (k+j)=((qs.getD (k+j) 0:Nat):Int):=by unfold nth;rfl
         rw[hT,e1,e2];omega
        have h:=mul_step (zs:=qs) (k:=k) (j:=j) (ys:=ys) (by omega) HQ.out hTn;have e3:R.toNat=T.toNat%B18:=by rw[hR];unfold B18;omega
        have e4:Q.toNat=T.toNat/B18:=by rw[hQ];unfold B18;omega
        show _=_;rw[e3,e4];exact h
       have hfz:=hrq.frozen (k+j);have hkj:(k:Int)+(j:Int)<(N:Int):=by omega
       have hkj0:(0:Int)≤(k:Int)+(j:Int):=by omega
       have hw64:IntKind.i64.wrap ((k:Int)+(j:Int))=(k:Int)+(j:Int):=IntWalk.i64_in _ (by omega);clear hc hc' hP hh0 hl0 hl1 hc1 hl2 hc2 hT hQ hR m3 hN1 p0 p1;go_wp2_with fail
       go_quiet ((go_at_call 114;exact Calls.quiet_of_same (hmul _)))
       go_wp2_with (go_at_call 146;refine (hdv _).mono ?_;rintro e w' ⟨rfl,nd,rfl⟩)
       go_roundw
       case rel=>exact ⟨j+1,Q,qs.set (k+j) R.toNat,by omega,by go_num,rfl,hQ0,m4,by first | exact (hrq.drewN _).setInt R hR0 (by omega) | exact ((hrq.drewN _).drewN _).setInt R hR0 (by omega),by rw[List.length_set];exact hql,jo hqs _ _ (by unfold B18;omega),HST,
        fun p hp=>by rw[qkz _ _ _ (by omega),if_neg (by omega)];exact HZ2.out p hp,by first | exact (gi hbel2 _).setCell hgW _ | exact (gi (gi hbel2 _) _).setCell hgW _⟩
       case measure=>simp[intOf];omega
     · obtain rfl:j=ys.length:=by omega
       have hN1:=HN.out;have hcz:=hrq.cell (j:=k+ys.length) (by omega);have hz0:nth qs (k+ys.length)=0:=HZ2.out _ (Nat.le_refl _);rw[hz0] at hcz;have hfz:=hrq.frozen (k+ys.length);have hm2:¬(ys.length:Int)<(ys.length:Int):=by omega
       have hkj:(k:Int)+(ys.length:Int)<(N:Int):=by omega
       have hkj0:(0:Int)≤(k:Int)+(ys.length:Int):=by omega
       have hw64:IntKind.i64.wrap ((k:Int)+(ys.length:Int))=(k:Int)+(ys.length:Int):=IntWalk.i64_in _ (by omega);have hlq:k+ys.length<qs.length:=by omega
       have HCL:Hid (val B18 (qs.set (k+ys.length) u.toNat)=val B18 (xs.take (k+1))*val B18 ys):=mul_close hlq (by unfold nth at hz0;omega) HQ.out;clear hz0 hN1;go_wp2_with fail
       go_roundw
       case rel=>exact ⟨k+1,qs.set (k+ys.length) u.toNat,by omega,by go_num,hrq.setInt u hu0 hlq,by rw[List.length_set];exact hql,jo hqs _ _ (by unfold B18;omega),HCL,
        fun p hp=>by rw[qkz _ _ _ hlq,if_neg (by omega)];exact HZ2.out p (by omega),hbel2.setCell hgW _⟩
       case measure=>simp[intOf];omega
  · obtain rfl:k=xs.length:=by omega
    have hm1:¬(xs.length:Int)<(xs.length:Int):=by omega
    have hnum:=hrw.nums hzl (zsv hzs);have hfit:=fun w h=>fits_out (n1 !=n2) (some ⟨g,0,none⟩) N zs w h hzs (by omega);have hval:sgn (n1 !=n2) (val B18 zs)=q:=HP.out _ (by rw[HV.out,List.take_length]);rw[hval,hzl] at hfit;clear hval;go_wp2_with (go_at_call 147;refine (hfit _ hnum).mono ?_;rintro e w4 ⟨A4,c4,rfl,hown4,hb4⟩;have LB:=hbel.trans (hb4.mono hbel.size);clear x0 x1 y0 y1 hx hy r0 r1 r2 r3;obtain ⟨⟨⟨x0,x1,y0,y1⟩,hx,hy⟩,r0,r1,r2,r3⟩:=HF.out _ LB)
    refine bodyPost_ret (v:=.tuple #[.agg #[.bool (decide (outV true q<0)),.slice A4 (limbs (outV true q)).length c4],.int .i64 (outE true q)]) (by simp[results,Tryz.results94,go_sem,r0,r1]) rfl ?_;exact qmx hown4 (LW.trans (LB.mono LW.size)) (by omega) (by have:=HWs.out;have:=hbel.size;omega) _ _
theorem mul_any (hx:Nums w A xs) (hy:Nums w B ys) (hl:xs.length≤9223372036854775807) (hl':ys.length≤9223372036854775807) :
 Calls Tryz.prog 94 #[.agg #[.bool n1,.slice A xs.length c],.agg #[.bool n2,.slice B ys.length d]] w
  (yd w (outV (zr n1 xs&&zr n2 ys) (num n1 xs*num n2 ys)) (outE (zr n1 xs&&zr n2 ys) (num n1 xs*num n2 ys))):=by
 cases h:(zr n1 xs&&zr n2 ys)
 · rw[outV_bad,outE_bad];exact mul_bad n1 n2 A B c d xs ys w hx hy hl hl' h
 · obtain ⟨hg,hk⟩:=Bool.and_eq_true_iff.1 h;exact mul_good n1 n2 A B c d xs ys w hx hy hg hk
end
section
variable {i j:Int} (A B:Option Addr) (c d:Nat) (w:World) (hi:i.natAbs<B18^30) (hj:j.natAbs<B18^30) (hx:Nums w A (limbs i)) (hy:Nums w B (limbs j))
include hi
include hx
include hj hy
theorem mulI:Calls Tryz.prog 94 #[.agg #[.bool (decide (i<0)),.slice A (limbs i).length c],.agg #[.bool (decide (j<0)),.slice B (limbs j).length d]] w (yd w (outV true (i*j)) (outE true (i*j))):=by
 have h:=mul_any (decide (i<0)) (decide (j<0)) A B c d (limbs i) (limbs j) w hx hy (by have:=ve hi;omega) (by have:=ve hj;omega);rwa [vb hi,vb hj,ji,ji] at h
theorem cmpI_:Calls Tryz.prog 40 #[.agg #[.bool (decide (i<0)),.slice A (limbs i).length c],.agg #[.bool (decide (j<0)),.slice B (limbs j).length d]] w fun e w'=>e= .returned (.int .i64 (ypx i j))∧Below w.heap.size w w':=by
 have h:=cmp_any A B c d (limbs i) (limbs j) w (decide (i<0)) (decide (j<0)) hx hy (by have:=ve hi;omega) (by have:=ve hj;omega);rw[vb hi,vb hj,ji,ji] at h;unfold cmpO at h;exact h
end
theorem outE_zero {i:Int} (h:outE true i=0):i.natAbs<B18^30:=by
 unfold outE at h;rw[if_pos rfl] at h;split at h
 · assumption
 · cases h
structure PV where
 k:Int
 yes:Bool
 neg:Bool
 xs:List Nat
 bits:Nat
 s:ByteArray
 ni:Nat
structure PVp where
 a:Option Addr
 c:Nat
 b:Option Addr
 d:Nat
def PV.cells (v:PV) (p:PVp):List Value:=[.int .i64 v.k,.bool v.yes,.bool v.neg,.slice p.a v.xs.length p.c,.int .u64 (v.bits:Int),.string v.s,.slice p.b v.ni p.d]
def PV.val (v:PV) (p:PVp):Value:=.agg #[.int .i64 v.k,.bool v.yes,.bool v.neg,.slice p.a v.xs.length p.c,.int .u64 (v.bits:Int),.string v.s,.slice p.b v.ni p.d]
@[reducible] def pvV (v:PV) (A:Option Addr) (c:Nat) (B:Option Addr) (d:Nat):Value:=.agg #[.int .i64 v.k,.bool v.yes,.bool v.neg,.slice A v.xs.length c,.int .u64 (v.bits:Int),.string v.s,.slice B v.ni d]
def PV.good (v:PV):Bool:=
 decide (v.ni=0)&&(if v.k=0 then !v.yes&&(!v.neg&&decide (v.xs.length=0))&&decide (v.bits=0)&&(v.s.toList==(⟨#[]⟩:ByteArray).toList)
  else if v.k=1 then (!v.neg&&decide (v.xs.length=0))&&decide (v.bits=0)&&(v.s.toList==(⟨#[]⟩:ByteArray).toList)
  else if v.k=2 then zr v.neg v.xs&& !v.yes&&decide (v.bits=0)&&(v.s.toList==(⟨#[]⟩:ByteArray).toList)
  else if v.k=3 then (!v.neg&&decide (v.xs.length=0))&& !v.yes&&(v.s.toList==(⟨#[]⟩:ByteArray).toList)
  else if v.k=4 then (!v.neg&&decide (v.xs.length=0))&& !v.yes&&decide (v.bits=0)&&decide (v.s.size≤20000)
  else false)
end Go.Proofs.YtmnmebdmpigddaaGreatDoor
namespace Go.Proofs.YtmnmebdmpigddaaGreatDoor
open Go.RowKit
theorem stpdq299 {P Q:Prop} (k:Q) (h:(Unit→Q)→P:=by
 intro zK;refine zk (yb ku rfl rfl Bb5 rfl rfl (Nat.le_of_ble_eq_true rfl) ?_);exact zK ()):P:=h fun _=>k
theorem stpdq296 {P Q:Prop} (k:Q) (h:(Unit→Q)→P:=by
 intro zK;refine zk (yb ku rfl rfl Bb10 rfl rfl (Nat.le_of_ble_eq_true rfl) ?_);exact zK ()):P:=h fun _=>k
theorem stpdq279 {P Q:Prop} (k:Q) (h:(Unit→Q)→P:=by
 intro zK;refine jm ?_;refine zd 19 (.bool false) rfl (by rw[hd]<;>rfl) (zu ?_);refine za rfl (zb en72 rfl ((qux 1 _ (by decide) (by decide)).mono ?_));exact zK ()):P:=h fun _=>k
theorem zxx {P Q:Prop} (k:Q) (h:(Unit→Q)→P:=by
 intro zK;refine za rfl (qn (cs:=#[.bool false,.slice none 0 0]) pl24 zr24 rfl rfl ?_);exact zK ()):P:=h fun _=>k
theorem yq {P Q:Prop} (k:Q) (h:(Unit→Q)→P:=by
 intro zK;refine za rfl (zak zr24 ?_);exact zK ()):P:=h fun _=>k
theorem zi {P Q:Prop} (k:Q) (h:(Unit→Q)→P:=by
 intro zK;refine zm ?_;refine za rfl (jz rfl ?_);exact zK ()):P:=h fun _=>k
attribute [local irreducible] OW RS CW EW
theorem ylz {W w':World} {f:Int} (hb:Below W.heap.size W w'):yd W 0 f (.returned (.tuple #[.agg #[.bool false,.slice none 0 0],.int .i64 f])) w':=
 ⟨none,0,by rw[vi];rfl,by rw[vi];exact Own.nil _ _,hb⟩
theorem zmv {w:World} {base c g:Nat} {A:Option Addr} {xs:List Nat} {t:TypeId} {cs:Array Value} (h:Own w base A c xs) (hb:Blk w g t cs) (ht:25≠t):Apart (Value.slice A xs.length c).ownBlock (some g):=
 fun k e f=>yzv h.1 hb ht (e.trans f.symm)
theorem Per.ownN {l:List (Option Nat)} {w:World} {base c:Nat} {A:Option Addr} {xs:List Nat} (h:Own w base A c xs) (hn:NotIn (Value.slice A xs.length c).ownBlock l):Per (Mut l) w (fun b=>Own b base A c xs):=
 fun _ hb=>⟨vt h.1 hb hn,h.2⟩
theorem Per.ownX {X:Nat→Prop} {w:World} {base c:Nat} {A:Option Addr} {xs:List Nat} (h:Own w base A c xs) (hx:∀k,X k→k<base):Per X w (fun b=>Own b base A c xs):=fun b hb=>by
 have hb':Ext (Mut [none]) w b∨True:=Or.inr trivial;refine ⟨(⟨h.1.1,?_⟩),h.2⟩;rcases h.1.2 with h2 | ⟨g,cap,cur,hv,hg,hh,r⟩
 · exact Or.inl h2
 · exact Or.inr ⟨g,cap,cur,hv,hg,(hb.block g (Array.getElem?_eq_some_iff.1 hh).1 (fun e=>by have:=hx g e;omega)).trans hh,r⟩
theorem cellAt_lt {w:World} {b o:Nat} {v:Value} (h:w.cell? ⟨b,o,none⟩=some v):b<w.heap.size:=by
 unfold World.cell? at h;simp only[] at h
 split at h
 · rename_i c t fr hh;exact (Array.getElem?_eq_some_iff.1 hh).1
 · cases h
theorem Per.cell0 {w:World} {g o:Nat} {v:Value} (h:w.cell? ⟨g,o,none⟩=some v):Per No w (fun b=>b.cell? ⟨g,o,none⟩=some v):=fun b hb=>by
 have hlt:g<w.heap.size:=cellAt_lt h;show b.cell? ⟨g,o,none⟩=some v
 rw[hb.cell (p:=⟨g,o,none⟩) hlt (fun e=>e.elim)];exact h
section
variable (n1 n2:Bool) (A B:Option Addr) (c d:Nat) (xs ys:List Nat) (w:World)
end
section
variable (i j:Int) (A B:Option Addr) (c d:Nat) (w:World) (hi:i.natAbs<B18^30) (hj:j.natAbs<B18^30) (hx:Nums w A (limbs i)) (hy:Nums w B (limbs j))
include hi hj hx hy
theorem pow_zero (h0:j=0):Calls Tryz.prog 93 #[.agg #[.bool (decide (i<0)),.slice A (limbs i).length c],.agg #[.bool (decide (j<0)),.slice B (limbs j).length d]] w (yd w 1 0):=by
 have hd:decide (j<0)=false:=by rw[h0];rfl
 have hlen:(limbs j).length=0:=by rw[h0,vi];rfl
 refine zc Tryz.func93 rfl Tryz.ntmps93 rfl ?_;obtain ⟨HF,LW,XLW,E⟩:=wk0 w;replace HF:=HF.and (Per.nums0 hx);replace HF:=HF.and (Per.nums0 hy);refine zi ?_;intro gb1 w2 Bb1 Eb1 Gb1;obtain ⟨HF,LW,E⟩:=frz HF LW E XLW Bb1 Eb1;refine za rfl (jz rfl ?_);intro gb3 w4 Bb3 Eb3 Gb3;obtain ⟨HF,LW,E⟩:=frz HF LW E XLW Bb3 Eb3;refine yq ?_;intro gb5 w6 Bb5 Eb5 Gb5;obtain ⟨Gb5,HF,E,XLW⟩:=alx HF LW E XLW Eb5 Gb5;refine zp ?_;refine za rfl (zb yoq rfl ((yhv A c _ hi (HF.on E).here.1.1.1.2).mono ?_));rintro e w7 ⟨rfl,hb⟩;refine ⟨_,rfl,?_⟩;have Ec:=Ext.of_below hb No;replace Bb5:=Bb5.extN Ec NotIn.nil;replace E:=E.trans Ec.no;refine zn ?_;refine onx rfl (zb yoq rfl ((yhv B d _ hj (HF.on E).here.1.1.2).mono ?_));rintro e w8 ⟨rfl,hb⟩;refine ⟨_,rfl,?_⟩;have Ec:=Ext.of_below hb No;replace Bb5:=Bb5.extN Ec NotIn.nil;replace E:=E.trans Ec.no;refine stpdq279 ?_;rintro e w9 ⟨A1,c1,rfl,o1,hb⟩;refine ⟨_,rfl,?_⟩;have XC:∀q9,(Mut [(some gb5)]) q9→q9<w8.heap.size:=(Mut.grow Mut.none_ (ze Bb5.lt));have SC:=Nat.le_trans LW.size E.size;have Ec:=Ext.of_below hb No;replace Bb5:=Bb5.extN Ec NotIn.nil;replace E:=E.trans Ec.no;have S1:=SC;obtain ⟨HF,LW,E⟩:=fra HF LW E XLW (Per.ownX o1 XC);refine yq ?_;intro gb10 w11 Bb10 Eb10 Gb10;have Db10_b5:Apart (some gb10) (some gb5):=Apart.of_lt (ze Bb5.lt) Gb10;have Db5_b10:=Db10_b5.symm;replace Bb5:=Bb5.extN Eb10 NotIn.nil;obtain ⟨Gb10,HF,E,XLW⟩:=alx HF LW E XLW Eb10 Gb10;refine stpdq296 ?_;intro w12 Bx Eb10;replace Bb10:=Bx;replace Bb5:=Bb5.extN Eb10 (NotIn.cons Db5_b10 NotIn.nil);replace E:=E.step1 Eb10 Mut.head;refine yu ?_;refine zd 25 (.bool true) rfl (by rw[hlen];rfl) (zx ?_);refine stpdq299 ?_;intro w13 Bx Eb5;replace Bb5:=Bx;replace Bb10:=Bb10.extN Eb5 (NotIn.cons Db10_b5 NotIn.nil);replace E:=E.step1 Eb5 (Mut.tail Mut.head);refine zl ?_;exact ⟨A1,c1,rfl,((HF.on E).here.2).mono S1,(LW.step E XLW).toBelow⟩
end
/-! ### what stands in the limbs -/
theorem nth_lim0 {j:Int} (h0:j≠0):nth (limbs j) 0=((j.natAbs%B18:Nat):Int):=by
 unfold nth;rw[qo,kq qj (by omega)];rfl
theorem lim_len1 {j:Int} (h0:j≠0) (h:j.natAbs<B18):(limbs j).length=1:=by
 rw[qo,kq qj (by omega),Nat.div_eq_of_lt h];rfl
theorem qkv {j:Int} (h0:j≠0):0<(limbs j).length:=by rw[qo];exact zfv qj (by omega)
theorem pow_abs (i:Int) (n:Nat):(i^n).natAbs=i.natAbs^n:=Int.natAbs_pow i n
theorem pow_mono {i:Int} (h:1≤i.natAbs) {k n:Nat} (hk:k≤n):(i^k).natAbs≤(i^n).natAbs:=by
 rw[pow_abs,pow_abs];exact Nat.pow_le_pow_right h hk
section
variable (i j:Int) (A B:Option Addr) (c d:Nat) (w:World) (hi:i.natAbs<B18^30) (hj:j.natAbs<B18^30) (hx:Nums w A (limbs i)) (hy:Nums w B (limbs j))
include hi hj hx hy
theorem pow_l1 (h0:0<j) (hj2:j≤2000) (h2i:2≤i.natAbs) (h:i.natAbs<B18):Calls Tryz.prog 93 #[.agg #[.bool (decide (i<0)),.slice A (limbs i).length c],.agg #[.bool (decide (j<0)),.slice B (limbs j).length d]] w (yd w (outV true (i^j.toNat)) (outE true (i^j.toNat))):=by
 have hjb:j.natAbs<B18:=by unfold B18;omega
 have ejm:j.natAbs%B18=j.toNat:=by rw[Nat.mod_eq_of_lt hjb];omega
 have hd:decide (j<0)=false:=decide_eq_false (by omega);have hip:=qkv (j:=i) (by omega);have hjp:=qkv (j:=j) (by omega);have hlen:((limbs j).length:Int)≠0:=by omega
 have hleni:((limbs i).length:Int)≠0:=by omega
 obtain ⟨bx,ox,rfl,hbx,hcx⟩:=hx.2 hip;obtain ⟨by_,oy,rfl,hby,hcy⟩:=hy.2 hjp;have hc0:w.cell? ⟨bx,ox+0,none⟩=some (.int .u64 ((i.natAbs%B18:Nat):Int)):=by rw[hcx 0 hip,nth_lim0 (by omega)]
 have hd0:w.cell? ⟨by_,oy+0,none⟩=some (.int .u64 ((j.toNat:Int))):=by rw[hcy 0 hjp,nth_lim0 (by omega)];rw[ejm]
 refine zc Tryz.func93 rfl Tryz.ntmps93 rfl ?_;obtain ⟨HF,LW,XLW,E⟩:=wk0 w;replace HF:=HF.and (Per.nums0 hx);replace HF:=HF.and (Per.nums0 hy);replace HF:=HF.and (Per.cell0 hc0);replace HF:=HF.and (Per.cell0 hd0);refine zi ?_;intro gb1 w2 Bb1 Eb1 Gb1;obtain ⟨HF,LW,E⟩:=frz HF LW E XLW Bb1 Eb1;refine za rfl (jz rfl ?_);intro gb3 w4 Bb3 Eb3 Gb3;obtain ⟨HF,LW,E⟩:=frz HF LW E XLW Bb3 Eb3;refine yq ?_;intro gb5 w6 Bb5 Eb5 Gb5;obtain ⟨Gb5,HF,E,XLW⟩:=alx HF LW E XLW Eb5 Gb5;refine zp ?_;refine za rfl (zb yoq rfl ((yhv _ c _ hi (HF.on E).here.1.1.1.1.1.2).mono ?_));rintro e w7 ⟨rfl,hb⟩;refine ⟨_,rfl,?_⟩;have Ec:=Ext.of_below hb No;replace Bb5:=Bb5.extN Ec NotIn.nil;replace E:=E.trans Ec.no;refine zn ?_;refine onx rfl (zb yoq rfl ((yhv _ d _ hj (HF.on E).here.1.1.1.1.2).mono ?_));rintro e w8 ⟨rfl,hb⟩;refine ⟨_,rfl,?_⟩;have Ec:=Ext.of_below hb No;replace Bb5:=Bb5.extN Ec NotIn.nil;replace E:=E.trans Ec.no;refine stpdq279 ?_;rintro e w9 ⟨A1,c1,rfl,o1,hb⟩;refine ⟨_,rfl,?_⟩;have XC:∀q9,(Mut [(some gb5)]) q9→q9<w8.heap.size:=(Mut.grow Mut.none_ (ze Bb5.lt));have SC:=Nat.le_trans LW.size E.size;have Ec:=Ext.of_below hb No;replace Bb5:=Bb5.extN Ec NotIn.nil;replace E:=E.trans Ec.no;have S1:=SC;obtain ⟨HF,LW,E⟩:=fra HF LW E XLW (Per.ownX o1 XC);refine yq ?_;intro gb10 w11 Bb10 Eb10 Gb10;have Db10_b5:Apart (some gb10) (some gb5):=Apart.of_lt (ze Bb5.lt) Gb10;have Db5_b10:=Db10_b5.symm;replace Bb5:=Bb5.extN Eb10 NotIn.nil;obtain ⟨Gb10,HF,E,XLW⟩:=alx HF LW E XLW Eb10 Gb10;refine stpdq296 ?_;intro w12 Bx Eb10;replace Bb10:=Bx;replace Bb5:=Bb5.extN Eb10 (NotIn.cons Db5_b10 NotIn.nil);replace E:=E.step1 Eb10 Mut.head;refine yu ?_;refine zd 25 (.bool false) rfl (by rw[beq_eq_false_iff_ne.2 hlen]<;>rfl) (yu ?_);refine zf 31 (.bool false) rfl (by rw[beq_eq_false_iff_ne.2 hleni]<;>rfl) (zu ?_);have h1:((limbs i).length:Int)=1:=by rw[lim_len1 (by omega) h];rfl
 refine zf 36 (.bool true) rfl (by rw[h1];rfl) (zm ?_);refine onx rfl (kd (j:=0) u22 sz25 rfl rfl rfl hip (zl ?_));refine zd 43 (.bool false) rfl (by rw[Nat.mod_eq_of_lt h,beq_eq_false_iff_ne.2 (by omega)]<;>rfl) (yu ?_);have h2:¬(1:Int)<((limbs j).length:Int):=by rw[lim_len1 (by omega) hjb];decide
 refine zf 61 (.bool false) rfl (by rw[decide_eq_false h2]<;>rfl) (zm ?_);refine onx rfl (kd (j:=0) u22 sz25 rfl rfl rfl hjp (zu ?_));refine zd 67 (.bool false) rfl (by rw[decide_eq_false (by omega)]<;>rfl) (yi ?_);refine za rfl (kd (j:=0) u22 sz25 rfl rfl rfl hjp (zu ?_));have b1:(i^0).natAbs<B18^30:=by rw[Int.pow_zero];exact Nat.one_lt_pow (by decide) (by unfold B18;omega)
 have e0:i^0=1:=Int.pow_zero i;replace Bb10:Blk w12 gb10 24 #[.bool (decide (i^0<0)),.slice A1 (limbs (i^0)).length c1]:=by rw[e0];exact Bb10
 replace HF:=HF.on E;replace LW:=LW.step E XLW;replace E:=erx (Mut [(some gb10),(some gb5)]) w12;refine yw (ι:=Nat×Option Addr×Nat) (fun (k,A1,c1)=>[(2,.pointer (some ⟨gb1,0,none⟩)),(4,.pointer (some ⟨gb5,0,none⟩)),(6,.pointer (some ⟨gb10,0,none⟩)),(72,.int .u64 (j.toNat:Int)),(73,.int .u64 ((k:Nat):Int))]) (fun (k,A1,c1) w'=>Ext (Mut [(some gb10),(some gb5)]) w12 w'∧Blk w' gb10 24 (#[.bool (decide (i^k<0)),.slice A1 (limbs (i^k)).length c1])∧Blk w' gb5 24 (#[.bool false,.slice none 0 0])∧(k≤j.toNat∧(i^k).natAbs<B18^30∧Own w' w.heap.size A1 c1 (limbs (i^k)))) (fun (k,A1,c1)=>j.toNat-k) (0,A1,c1) ⟨rfl,rfl,rfl,rfl,rfl,trivial⟩ ⟨Ext.refl _ _,(by exact Bb10),(by exact Bb5),⟨Nat.zero_le _,b1,by rw[e0];exact ((HF.on E).here.2).mono S1⟩⟩ ?_;have LTb10:=(ze Bb10.lt);have LTb5:=(ze Bb5.lt);rintro ⟨k,A1,c1⟩ w14 ⟨M13,Bb10,Bb5,⟨hk,hb1,hown⟩⟩;have XM13:Gro (Mut [(some gb10),(some gb5)]) (Mut [(some gb10),(some gb5)]) w12:=(Mut.grow (Mut.grow Mut.none_ (fun k e=>Or.inl ((Mut.tail Mut.head) k e))) (fun k e=>Or.inl (Mut.head k e)));replace E:=E.trans M13;replace HF:=HF.on E;replace LW:=LW.step E XLW;replace E:=erx (Mut [(some gb10),(some gb5)]) w14;clear LTb10;clear LTb5;replace HF:=HF.on E;replace LW:=LW.step E XLW;replace M13:=M13.step E XM13;replace E:=erx (Mut [(some gb10),(some gb5)]) w14;replace HF:=HF.and (Per.ownN hown (NotIn.cons (zmv hown Bb10 (by decide)) (NotIn.cons (zmv hown Bb5 (by decide)) NotIn.nil)));refine zl ?_;refine zg rfl (fun hlt=>?_) (fun hlt=>?_)
 ·
  have hlt:=of_decide_eq_true hlt;refine yi ?_;refine za rfl (zb en94 rfl ((mulI A1 _ c1 c _ hb1 hi ((HF.on E).here.2).nums (HF.on E).here.1.1.1.1.1.1.1.2).mono ?_));rintro e w15 ⟨A3,c3,rfl,o3,hb⟩;refine ⟨_,rfl,?_⟩;have XC:∀q9,(Mut [(some gb10),(some gb5)]) q9→q9<w14.heap.size:=(Mut.grow (Mut.grow Mut.none_ (ze Bb5.lt)) (ze Bb10.lt));have SC:=Nat.le_trans LW.size E.size;have Ec:=Ext.of_below hb No;replace Bb10:=Bb10.extN Ec NotIn.nil;replace Bb5:=Bb5.extN Ec NotIn.nil;replace E:=E.trans Ec.no;have S3:=SC;replace HF:=HF.on E;replace LW:=LW.step E XLW;replace M13:=M13.step E XM13;replace E:=erx (Mut [(some gb10),(some gb5)]) w15;replace HF:=HF.and (Per.ownX o3 XC);refine zn ?_;refine yq ?_;intro gb16 w17 Bb16 Eb16 Gb16;have Db16_b10:Apart (some gb16) (some gb10):=Apart.of_lt (ze Bb10.lt) Gb16;have Db10_b16:=Db16_b10.symm;have Db16_b5:Apart (some gb16) (some gb5):=Apart.of_lt (ze Bb5.lt) Gb16;have Db5_b16:=Db16_b5.symm;replace Bb10:=Bb10.extN Eb16 NotIn.nil;replace Bb5:=Bb5.extN Eb16 NotIn.nil;obtain ⟨Gb16,HF,E,XLW⟩:=alx HF LW E XLW Eb16 Gb16;replace XM13:=Mut.grow XM13 (fun k e=>Or.inr (Nat.le_trans M13.size ((ym Gb16) k e)));refine zk (yb ku rfl rfl Bb16 rfl rfl (Nat.le_of_ble_eq_true rfl) ?_);intro w18 Bx Eb16;replace Bb16:=Bx;replace Bb10:=Bb10.extN Eb16 (NotIn.cons Db10_b16 NotIn.nil);replace Bb5:=Bb5.extN Eb16 (NotIn.cons Db5_b16 NotIn.nil);replace E:=E.step1 Eb16 Mut.head;refine zz ?_;refine zg rfl (fun q=>?_) (fun q=>?_)
  ·
   have e1:B18^30≤(i^j.toNat).natAbs:=by
    have h7:¬(i^k*i).natAbs<B18^30:=fun h9=>by rw[ztv h9] at q;exact absurd q (by decide)
    have h8:=pow_mono (i:=i) (by omega) (show k+1≤j.toNat by omega);rw[Int.pow_succ] at h8;omega
   have e2:outE true (i^k*i)=7:=qjk (by
    rcases Nat.lt_or_ge (i^k*i).natAbs (B18^30) with h9 | h9
    · rw[ztv h9] at q;exact absurd q (by decide)
    · exact h9)
   refine zm ?_;refine zxx ?_;refine stp ?_;refine stpdq299 ?_;intro w19 Bx Eb5;replace Bb5:=Bx;replace Bb16:=Bb16.extN Eb5 (NotIn.cons Db16_b5 NotIn.nil);replace Bb10:=Bb10.extN Eb5 (NotIn.cons Db10_b5 NotIn.nil);replace E:=E.step1 Eb5 (Mut.tail (Mut.tail Mut.head));refine zz ?_;refine zq 5 (.int .i64 7) rfl ((by rw[e2]:(.int .i64 (outE true (i^k*i)):Value)=_)) (stp ?_);exact by rw[outV_big e1,qjk e1];exact ylz (LW.step E XLW).toBelow
  ·
   have h9:(i^k*i).natAbs<B18^30:=outE_zero (by simpa using q);have eV:outV true (i^k*i)=i^(k+1):=by rw[ztk h9,Int.pow_succ]
   refine zx ?_;refine stpdq296 ?_;intro w20 Bx Eb10;replace Bb10:=Bx;replace Bb16:=Bb16.extN Eb10 (NotIn.cons Db16_b10 NotIn.nil);replace Bb5:=Bb5.extN Eb10 (NotIn.cons Db5_b10 NotIn.nil);replace E:=E.step1 Eb10 (Mut.tail Mut.head);refine zx ?_;refine kl ?_;refine zm ?_;rw[eV] at Bb10;exact zo (k+1,A3,c3) (by show j.toNat-(k+1)<j.toNat-k;omega) ⟨rfl,rfl,rfl,rfl,rfl,trivial⟩ ⟨M13.step E XM13,(by exact Bb10),(by exact Bb5),by omega,by rw[Int.pow_succ];exact h9,by rw[←eV];exact ((HF.on E).here.2).mono S3⟩
 ·
  have hge:=of_decide_eq_false hlt;obtain rfl:k=j.toNat:=by omega
  refine yi ?_;refine stpdq299 ?_;intro w21 Bx Eb5;replace Bb5:=Bx;replace Bb10:=Bb10.extN Eb5 (NotIn.cons Db10_b5 NotIn.nil);replace E:=E.step1 Eb5 (Mut.tail Mut.head);obtain ⟨HF,LW,XLW,E⟩:=frg HF LW E XLW (Y:=Mut [(some gb10)]) (Mut.keep (Mut.skip Mut.nil_)) (Per.blkN Bb5 (NotIn.cons Db5_b10 NotIn.nil));refine zu ?_;exact ⟨A1,c1,by rw[ztk hb1,ztv hb1];rfl,by rw[ztk hb1];exact (HF.on E).here.1.2,(LW.step E XLW).toBelow⟩
end
end Go.Proofs.YtmnmebdmpigddaaGreatDoor
namespace Go.Proofs.YtmnmebdmpigddaaGreatDoor
open Go.RowKit
theorem stpdq300 {P Q:Prop} (k:Q) (h:(Unit→Q)→P:=by
 intro zK;refine zk (yb ku rfl rfl Bb8 rfl rfl (Nat.le_of_ble_eq_true rfl) ?_);exact zK ()):P:=h fun _=>k
theorem stpdq290 {P Q:Prop} (k:Q) (h:(Unit→Q)→P:=by
 intro zK;refine zu ?_;refine za rfl (zb en95 rfl ((div_two hM hm0 (by omega) (by omega) A1 A4 c1 c4 _ (HF.on E).here.1.1.1.1.2 (HF.on E).here.1.2).mono ?_));exact zK ()):P:=h fun _=>k
theorem stpdq287 {P Q:Prop} (k:Q) (h:(Unit→Q)→P:=by
 intro zK;refine zf 25 (.bool false) rfl (by rw[decide_eq_false (by omega)]<;>rfl) (zz ?_);refine za rfl (zb en91 rfl ((trunc_num _ a hf).mono ?_));exact zK ()):P:=h fun _=>k
theorem stpdq258 {P Q:Prop} (k:Q) (h:(Unit→Q)→P:=by
 intro zK;refine za rfl (ow_f2i (z:=m0) Tryz.underlying3 (by rw[u111];rfl) rfl hfz (za rfl (zb en72 rfl ((qux m0 _ (by rw[hm0];split<;>omega) (by rw[hm0];split<;>omega)).mono ?_))));exact zK ()):P:=h fun _=>k
theorem stpdq247 {P Q:Prop} (k:Q) (h:(Unit→Q)→P:=by
 intro zK;refine zl ?_;refine zkx ?_;refine qd ?_;refine xn ?_;refine zn ?_;refine zd 18 (.bool false) rfl (by rw[kp,xu hf]<;>rfl) (zx ?_);refine za rfl (zb en89 rfl ((jj _ a ha).mono ?_));exact zK ()):P:=h fun _=>k
theorem zjk {P Q:Prop} (k:Q) (h:(Unit→Q)→P:=by
 intro zK;refine zk (yb ku rfl rfl Bb1 rfl rfl (Nat.le_of_ble_eq_true rfl) ?_);exact zK ()):P:=h fun _=>k
theorem dqz146 {P:Prop} (h:P:=by
 exact ⟨_,_,_,_,_,rfl,zr24,rfl⟩):P:=h
theorem dqz140 {P:Prop} (h:P:=by
 obtain ⟨⟨A4,c4⟩,e0,_⟩:=K.dep 6 rfl rfl rfl;exact ⟨vs 6,rfl,by rw[e0];rfl,by rw[e0];rfl⟩):P:=h
theorem dqz112 {P:Prop} (h:P:=by
 intro vs X wq K;obtain ⟨⟨A4,c4⟩,e5,k5⟩:=K.dep 5 rfl rfl rfl;refine gm 59 _ rfl e5 ?_;exact ow rfl rfl ⟨Below.refl _ _,Left.of rfl⟩):P:=h
theorem dqz98 {P:Prop} (h:P:=by
 intro vs X wq K;obtain ⟨⟨A4,c4⟩,e4,k4⟩:=K.dep 4 rfl rfl rfl;refine gm 64 _ rfl e4 ?_;exact qiv rfl ⟨Below.refl _ _,⟨⟨A4,c4⟩,rfl,(k4.map (fun _ h=>h))⟩⟩):P:=h
theorem dqz96 {P:Prop} (h:P:=by
 intro vs X wq K;obtain ⟨⟨A4,c4⟩,e5,k5⟩:=K.dep 5 rfl rfl rfl;refine gm 59 _ rfl e5 ?_;exact ow rfl rfl ⟨Below.refl _ _,⟨⟨A4,c4⟩,rfl,(k5.map (fun _ h=>h))⟩⟩):P:=h
theorem dqz57 {P:Prop} (h:P:=by
 replace Bb1:=Bx;replace Bb8:=Bb8.extN Eb1 (NotIn.cons Db8_b1 NotIn.nil);replace E:=E.step1 Eb1 (Mut.tail Mut.head);obtain ⟨HF,LW,XLW,E⟩:=frg HF LW E XLW (Y:=Mut [(some gb8)]) (Mut.keep (Mut.skip Mut.nil_)) (Per.blkN Bb1 (NotIn.cons Db1_b8 NotIn.nil));refine zu ?_;exact ⟨A5,c5,rfl,((HF.on E).here.1.1.1.2).mono hS,(LW.step E XLW).toBelow⟩):P:=h
theorem dqz56 {P:Prop} (h:P:=by
 refine qq ?_;intro vs X wq K;have LE:=K.1;have XN:=K.2.1;obtain ⟨⟨A3,c3⟩,e3,k3⟩:=K.dep 3 rfl rfl rfl;refine gm 63 _ rfl e3 (zb en93 rfl ((two_pow k A2 A3 c2 c3 _ (by omega) (HF.on (E.drew.trans (LE.mono OY))).here.1.2 k3.here).mono ?_));rintro e w2 ⟨A4,c4,rfl,o4,hb⟩;exact ⟨_,rfl,hb,⟨(A4,c4),rfl,Per.own o4 XN⟩⟩):P:=h
theorem dqz45 {P:Prop} (h:P:=by
 refine qq ?_;intro vs X wq K;have XN:=K.2.1;refine zb en72 rfl ((qux ((k:Nat):Int) _ (by omega) (by omega)).mono ?_);rintro e w2 ⟨A3,c3,rfl,o3,hb⟩;exact ⟨_,rfl,hb,⟨(A3,c3),rfl,Per.own o3 XN⟩⟩):P:=h
attribute [local irreducible] OW RS CW EW
theorem yqq {z:Int} (h:z.natAbs<9223372036854775809):z.natAbs<B18^30:=Nat.lt_of_lt_of_le (Nat.lt_of_lt_of_le h (by decide)) (Nat.le_trans (two_mono2 (k:=64) (K:=1024) rfl rfl (by decide)) B18_30)
theorem two_natAbs (k:Nat):((2:Int)^k).natAbs=2^k:=by rw[Int.natAbs_pow];rfl
theorem two_posI (k:Nat):(0:Int)<2^k:=Int.pow_pos (by decide)
theorem two_neg (k:Nat):decide ((2:Int)^k<0)=false:=decide_eq_false (by have:=two_posI k;omega)
theorem two_30 {k:Nat} (h:k≤1023):((2:Int)^k).natAbs<B18^30:=by
 rw[two_natAbs];exact Nat.lt_of_lt_of_le (Nat.pow_lt_pow_right (by decide) (show k<1024 by omega)) B18_30
theorem two_pow (k:Nat) (A B:Option Addr) (c d:Nat) (w:World) (hk:k≤1023) (hx:Nums w A (limbs 2)) (hy:Nums w B (limbs ((k:Nat):Int))) :
 Calls Tryz.prog 93 #[.agg #[.bool (decide ((2:Int)<0)),.slice A (limbs 2).length c],.agg #[.bool (decide (((k:Nat):Int)<0)),.slice B (limbs ((k:Nat):Int)).length d]] w (yd w ((2:Int)^k) 0):=by
 rcases Nat.eq_zero_or_pos k with h0 | h0
 · have h:=pow_zero 2 ((k:Nat):Int) A B c d w (yqq (by decide)) (yqq (by omega)) hx hy (by omega);rw[h0] at h ⊢;exact h
 · have h:=pow_l1 2 ((k:Nat):Int) A B c d w (yqq (by decide)) (yqq (by omega)) hx hy (by omega) (by omega) (by decide) (by decide);rw[Int.toNat_natCast,ztk (two_30 hk),ztv (two_30 hk)] at h;exact h
theorem dq_whole {a M k:Nat} (hM:M=qc a*2^k) {n1:Bool} {m0:Int} (h0:m0=if ng a then -((M:Nat):Int) else ((M:Nat):Int)) (h1:n1=decide (m0<0)):dq n1 false M (2^k)=vw a:=by
 have hp:=jn k;have e1:M/2^k=qc a:=by rw[hM];exact Nat.mul_div_cancel _ hp
 have e2:M%2^k=0:=by rw[hM];exact Nat.mul_mod_left _ _
 unfold dq vw;rw[e1,e2,h1,h0];by_cases hz:qc a=0
 · rw[hz] at hM ⊢;rw[Nat.zero_mul] at hM;subst hM;cases ng a<;>simp
 · have hMp:0<M:=by rw[hM];exact Nat.mul_pos (by omega) hp
   cases ng a with
   | true=>simp only[if_true];rw[decide_eq_true (by omega)];rfl
   | false=>simp only[Bool.false_eq_true,if_false];rw[decide_eq_false (by omega)];rfl
theorem pos_zero {x P:Nat} (hP:0<P) (h:0=x*P):x=0:=by
 rcases Nat.eq_zero_or_pos x with h' | h'
 · exact h'
 · have:=Nat.mul_pos h' hP;omega
theorem val_gen_hi {m e W P n k M:Nat} (hP:P=2^1074) (h:m*2^e=W*P*2^n) (hc:1074+n≤e) (hk:k=e-(1074+n)) (hM:M=m):W=M*2^k:=by
 have h1:P*2^n=2^(1074+n):=by rw[hP,Nat.pow_add]
 rw[Nat.mul_assoc,h1,yrk hc] at h;rw[hM,hk];exact (Nat.eq_of_mul_eq_mul_right (jn _) h).symm
theorem val_gen_lo {m e W P n k M:Nat} (hP:P=2^1074) (h:m*2^e=W*P*2^n) (hc:e≤1074+n) (hk:k=1074+n-e) (hM:M=m):M=W*2^k:=by
 have h1:P*2^n=2^(1074+n):=by rw[hP,Nat.pow_add]
 rw[Nat.mul_assoc,h1,yrk hc W] at h;rw[hM,hk];exact Nat.eq_of_mul_eq_mul_right (jn _) h
theorem val_hi {m e W n k M:Nat} (h:m*2^e=W*2^1074*2^n) (hc:1074+n≤e) (hk:k=e-(1074+n)) (hM:M=m):W=M*2^k:=val_gen_hi rfl h hc hk hM
theorem val_lo {m e W n k M:Nat} (h:m*2^e=W*2^1074*2^n) (hc:e≤1074+n) (hk:k=1074+n-e) (hM:M=m):M=W*2^k:=val_gen_lo rfl h hc hk hM
theorem div_two {a M k:Nat} {m0:Int} (hM:M=qc a*2^k) (h0:m0=if ng a then -((M:Nat):Int) else ((M:Nat):Int)) (hMb:M<9223372036854775808) (hk:k≤1023) (A B:Option Addr) (c d:Nat) (w:World) (hx:Nums w A (limbs m0)) (hy:Nums w B (limbs ((2:Int)^k))) :
 Calls Tryz.prog 95 #[.agg #[.bool (decide (m0<0)),.slice A (limbs m0).length c],.agg #[.bool (decide ((2:Int)^k<0)),.slice B (limbs ((2:Int)^k)).length d]] w fun e w'=>∃A5 c5 B6 c6 r,e= .returned (.tuple #[.agg #[.bool (decide (vw a<0)),.slice A5 (limbs (vw a)).length c5],.agg #[.bool (decide (r<0)),.slice B6 (limbs r).length c6],.int .i64 0])∧Own w' w.heap.size A5 c5 (limbs (vw a))∧Below w.heap.size w w':=by
 have hma:m0.natAbs=M:=by rw[h0];split<;>omega
 have h:=divmod_ok A B c d (limbs m0) (limbs ((2:Int)^k)) w (decide (m0<0)) (decide ((2:Int)^k<0)) hx hy (vb (yqq (by omega))) (vb (two_30 hk)) (qkv (by have:=two_posI k;omega));rw[qo m0,qo ((2:Int)^k),gz qj,gz qj,←qo,←qo,hma,two_natAbs,two_neg,dq_whole hM h0 rfl] at h;rw[two_neg];exact h.mono fun e w' ⟨A5,c5,B6,c6,he,o1,o2,hb,_⟩=>⟨A5,c5,B6,c6,_,he,o1,hb⟩
section
variable (w:World) (a:Nat) (ha:a<18446744073709551616)
theorem trunc_num (hf:rg a<9218868437227405312):Calls Tryz.prog 91 #[.float .f64 a] w (RetB w (.float .f64 (zhz .zero a))):=by
 refine zc Tryz.func91 rfl Tryz.ntmps91 rfl ?_;have LW:=erx (No) w;have XLW:=grx (No) w;have E:=erx (No) w;refine zz ?_;refine za rfl (ow_round ex142 rfl ((isN_read a).trans (xu hf)) (zl ?_));exact xi
include ha
theorem whole_nan (hn:isN a=true):Calls Tryz.prog 43 #[.int .u64 ((a:Nat):Int)] w (RetB w (.tuple #[.agg #[.bool false,.slice none 0 0],.int .i64 1])):=by
 have _:=ha;refine zc Tryz.func43 rfl Tryz.ntmps43 rfl ?_;have LW:=erx (No) w;have XLW:=grx (No) w;have E:=erx (No) w;refine zm ?_;refine yq ?_;intro gb1 w2 Bb1 Eb1 Gb1;have Gb1:_≤gb1:=Nat.le_trans E.size Gb1;have GLb1:=Nat.le_trans LW.size Gb1;replace E:=E.trans Eb1.no;replace E:=E.cons (some gb1);replace XLW:=Mut.grow XLW (fun k e=>Or.inr (Nat.le_trans LW.size ((ym Gb1) k e)));refine zl ?_;refine zkx ?_;refine qd ?_;refine xn ?_;refine zn ?_;refine zd 18 (.bool true) rfl (by rw[kp,hn]<;>rfl) (zn ?_);refine zxx ?_;refine zjk ?_;intro w3 Bx Eb1;replace Bb1:=Bx;replace E:=E.step1 Eb1 Mut.head;refine zp ?_;exact xi
theorem whole_inf (hi:rg a=9218868437227405312):Calls Tryz.prog 43 #[.int .u64 ((a:Nat):Int)] w (RetB w (.tuple #[.agg #[.bool false,.slice none 0 0],.int .i64 7])):=by
 have hn:isN a=false:=decide_eq_false (by omega);refine zc Tryz.func43 rfl Tryz.ntmps43 rfl ?_;have LW:=erx (No) w;have XLW:=grx (No) w;have E:=erx (No) w;refine zm ?_;refine yq ?_;intro gb1 w2 Bb1 Eb1 Gb1;have Gb1:_≤gb1:=Nat.le_trans E.size Gb1;have GLb1:=Nat.le_trans LW.size Gb1;replace E:=E.trans Eb1.no;replace E:=E.cons (some gb1);replace XLW:=Mut.grow XLW (fun k e=>Or.inr (Nat.le_trans LW.size ((ym Gb1) k e)));refine zl ?_;refine zkx ?_;refine qd ?_;refine xn ?_;refine zn ?_;refine zd 18 (.bool false) rfl (by rw[kp,hn]<;>rfl) (zx ?_);refine za rfl (zb en89 rfl ((jj _ a ha).mono ?_));rintro e w3 ⟨rfl,hb⟩;refine ⟨_,rfl,?_⟩;have Ec:=Ext.of_below hb No;replace Bb1:=Bb1.extN Ec NotIn.nil;replace E:=E.trans Ec.no;refine zf 25 (.bool true) rfl (by rw[decide_eq_true hi]<;>rfl) (zl ?_);refine zxx ?_;refine zjk ?_;intro w4 Bx Eb1;replace Bb1:=Bx;replace E:=E.step1 Eb1 Mut.head;refine zp ?_;exact xi
section
variable (hf:rg a<9218868437227405312)
include hf
theorem whole_zero (h0:qc a=0):Calls Tryz.prog 43 #[.int .u64 ((a:Nat):Int)] w (yd w (vw a) 0):=by
 obtain ⟨q,hq1,hq2,hq3⟩:=yox hf;have hq0:q=0:=qyz.1 (zero_p hq1 h0);obtain ⟨r1,r2,r3⟩:=jk (ng a) q (by omega);obtain ⟨M,hMd⟩:∃M,M=0:=⟨_,rfl⟩;obtain ⟨k,hk⟩:∃k,k=53:=⟨_,rfl⟩;obtain ⟨m0,hm0⟩:∃m0:Int,m0=if ng a then -((M:Nat):Int) else ((M:Nat):Int):=⟨_,rfl⟩
 have hM:M=qc a*2^k:=by rw[h0,Nat.zero_mul,hMd]
 have hwz:qc (Ieee.double.word (ng a) q)=0:=(yiv (ng a) (by omega) hq1).trans h0;have hfz:floatToIntVal .f64 (Ieee.double.word (ng a) q) .i64=some m0:=by
  rw[f2i_i64 (by rw[r1];omega) (by rw[hwz];decide),hwz,r2,hm0,hMd]
 refine zc Tryz.func43 rfl Tryz.ntmps43 rfl ?_;obtain ⟨HF,LW,XLW,E⟩:=wk0 w;refine zm ?_;refine yq ?_;intro gb1 w2 Bb1 Eb1 Gb1;obtain ⟨Gb1,HF,E,XLW⟩:=alx HF LW E XLW Eb1 Gb1;refine stpdq247 ?_;rintro e w3 ⟨rfl,hb⟩;refine ⟨_,rfl,?_⟩;have Ec:=Ext.of_below hb No;replace Bb1:=Bb1.extN Ec NotIn.nil;replace E:=E.trans Ec.no;refine stpdq287 ?_;rintro e w4 ⟨rfl,hb⟩;refine ⟨_,rfl,?_⟩;have Ec:=Ext.of_below hb No;replace Bb1:=Bb1.extN Ec NotIn.nil;replace E:=E.trans Ec.no;refine zf 29 (.float .f64 (Ieee.double.word (ng a) q)) rfl (by rw[hq3]<;>rfl) (za rfl (zb en90 rfl ((Frexp_zero _ (Ieee.double.word (ng a) q) r3 (by rw[r1];exact hq0)).mono ?_)));rintro e w5 ⟨rfl,hb⟩;refine ⟨_,rfl,?_⟩;have Ec:=Ext.of_below hb No;replace Bb1:=Bb1.extN Ec NotIn.nil;replace E:=E.trans Ec.no;refine zz ?_;refine za rfl (zb en92 rfl ((Ldexp_zero _ (Ieee.double.word (ng a) q) r3 (by rw[r1];exact hq0) 53).mono ?_));rintro e w6 ⟨rfl,hb⟩;refine ⟨_,rfl,?_⟩;have Ec:=Ext.of_below hb No;replace Bb1:=Bb1.extN Ec NotIn.nil;replace E:=E.trans Ec.no;refine stpdq258 ?_;rintro e w7 ⟨A1,c1,rfl,o1,hb⟩;refine ⟨_,rfl,?_⟩;have XC:∀q9,(Mut [(some gb1)]) q9→q9<w6.heap.size:=(Mut.grow Mut.none_ (ze Bb1.lt));have Ec:=Ext.of_below hb No;replace Bb1:=Bb1.extN Ec NotIn.nil;replace E:=E.trans Ec.no;obtain ⟨HF,LW,E⟩:=fra HF LW E XLW (Per.own o1 XC);refine yq ?_;intro gb8 w9 Bb8 Eb8 Gb8;have Db8_b1:Apart (some gb8) (some gb1):=Apart.of_lt (ze Bb1.lt) Gb8;have Db1_b8:=Db8_b1.symm;replace Bb1:=Bb1.extN Eb8 NotIn.nil;obtain ⟨Gb8,HF,E,XLW⟩:=alx HF LW E XLW Eb8 Gb8;refine stpdq300 ?_;intro w10 Bx Eb8;replace Bb8:=Bx;replace Bb1:=Bb1.extN Eb8 (NotIn.cons Db1_b8 NotIn.nil);replace E:=E.step1 Eb8 Mut.head;refine zx ?_;refine za rfl (zb en72 rfl ((qux 2 _ (by decide) (by decide)).mono ?_));rintro e w11 ⟨A2,c2,rfl,o2,hb⟩;refine ⟨_,rfl,?_⟩;have XC:∀q9,(Mut [(some gb8),(some gb1)]) q9→q9<w10.heap.size:=(Mut.grow (Mut.grow Mut.none_ (ze Bb1.lt)) (ze Bb8.lt));have Ec:=Ext.of_below hb No;replace Bb8:=Bb8.extN Ec NotIn.nil;replace Bb1:=Bb1.extN Ec NotIn.nil;replace E:=E.trans Ec.no;obtain ⟨HF,LW,E⟩:=fra HF LW E XLW (Per.own o2 XC);refine yq ?_;intro gb12 w13 Bb12 Eb12 Gb12;have Db12_b8:Apart (some gb12) (some gb8):=Apart.of_lt (ze Bb8.lt) Gb12;have Db8_b12:=Db12_b8.symm;have Db12_b1:Apart (some gb12) (some gb1):=Apart.of_lt (ze Bb1.lt) Gb12;have Db1_b12:=Db12_b1.symm;replace Bb8:=Bb8.extN Eb12 NotIn.nil;replace Bb1:=Bb1.extN Eb12 NotIn.nil;obtain ⟨Gb12,HF,E,XLW⟩:=alx HF LW E XLW Eb12 Gb12;refine zk (yb ku rfl rfl Bb12 rfl rfl (Nat.le_of_ble_eq_true rfl) ?_);intro w14 Bx Eb12;replace Bb12:=Bx;replace Bb8:=Bb8.extN Eb12 (NotIn.cons Db8_b12 NotIn.nil);replace Bb1:=Bb1.extN Eb12 (NotIn.cons Db1_b12 NotIn.nil);replace E:=E.step1 Eb12 Mut.head;obtain ⟨HF,LW,XLW,E⟩:=frg HF LW E XLW (Y:=Mut [(some gb8),(some gb1)]) (Mut.skip (Mut.keep (Mut.keep Mut.nil_))) (Per.blkN Bb12 (NotIn.cons Db12_b8 (NotIn.cons Db12_b1 NotIn.nil)));refine zl ?_;refine za rfl (jg (z:=(-53)) rfl rfl (by kernel_rfl) (stp23 ?_));have OY:∀q9,(Mut (xz [])) q9→q9<(World.drew w14).heap.size→(Mut [(some gb8),(some gb1)]) q9:=fun k h _=>(Mut.none_) k h;refine qm (Mut [(some gb8),(some gb1)]) (Mut.grow (Mut.grow Mut.none_ (ze Bb1.lt)) (ze Bb8.lt)) [⟨8,9,24,#[.bool false,.slice none 0 0]⟩] [] (zcx [Fx.of (.agg #[.bool (decide ((2:Int)<0)),.slice A2 (limbs 2).length c2]),
  Fx.of (.int .i64 (-53)),
  Fx.of (.int .i64 ((k:Nat):Int)),
  ⟨(Option Addr×Nat),fun (A3,c3)=>.agg #[.bool (decide (((k:Nat):Int)<0)),.slice A3 (limbs ((k:Nat):Int)).length c3],fun (A3,c3) b=>(Nums b A3 (limbs ((k:Nat):Int)))⟩,
  ⟨(Option Addr×Nat),fun (A4,c4)=>.tuple #[.agg #[.bool (decide ((2:Int)^k<0)),.slice A4 (limbs ((2:Int)^k)).length c4],.int .i64 0],fun (A4,c4) b=>(Nums b A4 (limbs ((2:Int)^k)))⟩,
  ⟨(Option Addr×Nat),fun (A4,c4)=>.tuple #[.agg #[.bool (decide ((2:Int)^k<0)),.slice A4 (limbs ((2:Int)^k)).length c4],.int .i64 0],fun (A4,c4) b=>(Nums b A4 (limbs ((2:Int)^k)))⟩,
  ⟨(Option Addr×Nat),fun (A4,c4)=>.agg #[.bool (decide ((2:Int)^k<0)),.slice A4 (limbs ((2:Int)^k)).length c4],fun (A4,c4) b=>(Nums b A4 (limbs ((2:Int)^k)))⟩,
  Fx.of (.int .i64 0),
  Fx.of undef,
  Fx.of undef,
  Fx.of (.int .i64 0)]) mixed rfl trivial (fun _ h=>by cases h) ?_ ?_
 · refine ⟨arm,arm,?_,?_,?_,?_,?_,?_,?_,?_,arm,trivial⟩
   · refine qq ?_;intro vs X wq K;exact ow_neg (z:=53) rfl (by kernel_rfl) ⟨Below.refl _ _,Left.of (by rw[hk];rfl)⟩
   · exact dqz45
   · exact dqz56
   · exact dqz98
   · exact dqz96
   · exact dqz112
   · exact dqz146
   · refine ⟨_,_,_,_,_,rfl,rfl,rfl,ku,fun vs X wq K=>?_⟩;exact dqz140
 intro vs w15 LE AO AL AF AA;have LBb8:=Bb8;have LBb1:=Bb1;replace Bb8:=Bb8.drew.extN LE NotIn.nil;replace Bb1:=Bb1.drew.extN LE NotIn.nil;replace E:=E.drew.trans (LE.mono OY);obtain ⟨⟨A4,c4⟩,e6,k6⟩:=AL.2.2.2.2.2.2.1;obtain ⟨HF,LW,E⟩:=fra HF LW E XLW ((k6.map (fun _ h=>h):Per (Mut [(some gb8),(some gb1)]) w15 (fun b=>Nums b A4 (limbs ((2:Int)^k)))));obtain ⟨gb16,v0,y0,qb16,Gb16,Bb16,ey,ev0⟩:=AF.1;cases ey
 obtain rfl:vs 6=v0:=Option.some.inj ev0;rw[e6] at Bb16;have Db16_b8:Apart (some gb16) (some gb8):=Apart.of_lt (ze LBb8.lt) Gb16;have Db8_b16:=Db16_b8.symm;have Db16_b1:Apart (some gb16) (some gb1):=Apart.of_lt (ze LBb1.lt) Gb16;have Db1_b16:=Db16_b1.symm;obtain ⟨HF,LW,E⟩:=fra HF LW E XLW ((Per.blkN Bb16 (NotIn.cons Db16_b8 (NotIn.cons Db16_b1 NotIn.nil)):Per (Mut [(some gb8),(some gb1)]) w15 (fun b=>Blk b gb16 24 #[.bool (decide ((2:Int)^k<0)),.slice A4 (limbs ((2:Int)^k)).length c4])));have e8:=qb16;refine ja (τ:=[(2,_),(3,_),(7,_),(11,.pointer (some ⟨gb16,0,none⟩))]) ⟨rfl,rfl,rfl,congrArg some e8,trivial⟩ ?_;clear AL AF AA LE AO OY e6 e8 k6 LBb8 LBb1;refine stpdq290 ?_;rintro e w17 ⟨A5,c5,B6,c6,r,rfl,o5,hb⟩;refine ⟨_,rfl,?_⟩;have XC:∀q9,(Mut [(some gb8),(some gb1)]) q9→q9<w15.heap.size:=(Mut.grow (Mut.grow Mut.none_ (ze Bb1.lt)) (ze Bb8.lt));have SC:=Nat.le_trans LW.size E.size;have Ec:=Ext.of_below hb No;replace Bb8:=Bb8.extN Ec NotIn.nil;replace Bb1:=Bb1.extN Ec NotIn.nil;replace E:=E.trans Ec.no;have hS:=SC;obtain ⟨HF,LW,E⟩:=fra HF LW E XLW (Per.ownX o5 XC);refine zx ?_;refine yq ?_;intro gb18 w19 Bb18 Eb18 Gb18;have Db18_b8:Apart (some gb18) (some gb8):=Apart.of_lt (ze Bb8.lt) Gb18;have Db8_b18:=Db18_b8.symm;have Db18_b1:Apart (some gb18) (some gb1):=Apart.of_lt (ze Bb1.lt) Gb18;have Db1_b18:=Db18_b1.symm;replace Bb8:=Bb8.extN Eb18 NotIn.nil;replace Bb1:=Bb1.extN Eb18 NotIn.nil;obtain ⟨Gb18,HF,E,XLW⟩:=alx HF LW E XLW Eb18 Gb18;refine yq ?_;intro gb20 w21 Bb20 Eb20 Gb20;have Db20_b18:Apart (some gb20) (some gb18):=Apart.of_lt (ze Bb18.lt) Gb20;have Db18_b20:=Db20_b18.symm;have Db20_b8:Apart (some gb20) (some gb8):=Apart.of_lt (ze Bb8.lt) Gb20;have Db8_b20:=Db20_b8.symm;have Db20_b1:Apart (some gb20) (some gb1):=Apart.of_lt (ze Bb1.lt) Gb20;have Db1_b20:=Db20_b1.symm;replace Bb18:=Bb18.extN Eb20 NotIn.nil;replace Bb8:=Bb8.extN Eb20 NotIn.nil;replace Bb1:=Bb1.extN Eb20 NotIn.nil;obtain ⟨Gb20,HF,E,XLW⟩:=alx HF LW E XLW Eb20 Gb20;refine zk (yb ku rfl rfl Bb18 rfl rfl (Nat.le_of_ble_eq_true rfl) ?_);intro w22 Bx Eb18;replace Bb18:=Bx;replace Bb20:=Bb20.extN Eb18 (NotIn.cons Db20_b18 NotIn.nil);replace Bb8:=Bb8.extN Eb18 (NotIn.cons Db8_b18 NotIn.nil);replace Bb1:=Bb1.extN Eb18 (NotIn.cons Db1_b18 NotIn.nil);replace E:=E.step1 Eb18 (Mut.tail Mut.head);obtain ⟨HF,LW,XLW,E⟩:=frg HF LW E XLW (Y:=Mut [(some gb20),(some gb8),(some gb1)]) (Mut.keep (Mut.skip (Mut.keep (Mut.keep Mut.nil_)))) (Per.blkN Bb18 (NotIn.cons Db18_b20 (NotIn.cons Db18_b8 (NotIn.cons Db18_b1 NotIn.nil))));refine zk (yb ku rfl rfl Bb20 rfl rfl (Nat.le_of_ble_eq_true rfl) ?_);intro w23 Bx Eb20;replace Bb20:=Bx;replace Bb8:=Bb8.extN Eb20 (NotIn.cons Db8_b20 NotIn.nil);replace Bb1:=Bb1.extN Eb20 (NotIn.cons Db1_b20 NotIn.nil);replace E:=E.step1 Eb20 Mut.head;obtain ⟨HF,LW,XLW,E⟩:=frg HF LW E XLW (Y:=Mut [(some gb8),(some gb1)]) (Mut.skip (Mut.keep (Mut.keep Mut.nil_))) (Per.blkN Bb20 (NotIn.cons Db20_b8 (NotIn.cons Db20_b1 NotIn.nil)));refine zl ?_;refine zjk ?_;intro w24 Bx Eb1;exact dqz57
/-! ### a whole number that is not nought -/
theorem whole_num (h0:qc a≠0):Calls Tryz.prog 43 #[.int .u64 ((a:Nat):Int)] w (yd w (vw a) 0):=by
 obtain ⟨q,hq1,hq2,hq3⟩:=yox hf;have hqf:q<9218868437227405312:=by omega
 have hq0:q≠0:=fun e=>by
  subst e;rw[zck] at hq1;exact h0 (pos_zero (jn 1074) hq1)
 obtain ⟨r1,r2,r3⟩:=jk (ng a) q (by omega);obtain ⟨T,hT⟩:∃T,T=Ieee.double.word (ng a) q:=⟨_,rfl⟩;have hT1:rg T=q:=by rw[hT,r1]
 have hT2:ng T=ng a:=by rw[hT,r2]
 obtain ⟨F,hF⟩:∃F,F=frF T:=⟨_,rfl⟩;have hmn:=mg_nr hq0;have hFp:rg F=4602678819172646912+(mg (nr q)-4503599627370496)∧ng F=ng a∧F<18446744073709551616:=by
  rw[hF,frF,hT1,hT2];exact jk _ _ (by omega)
 obtain ⟨fq1,fq2⟩:=fullQ (r:=q) hq0;have hFv:vl (rg F)=mg (nr q)*2^1021:=by
  rw[hFp.1,←frF_pos hqf];exact (frF_parts hqf hq0).2.2
 have fq3:vl (1074*4503599627370496+mg (nr q))=vl (rg F)*2^53:=by rewrite [fq1,hFv];exact qtz (p:=1074) (q:=1021) (s:=53) (by decide) _
 obtain ⟨M,hMd⟩:∃M,M=mg (nr q):=⟨_,rfl⟩;obtain ⟨m0,hm0⟩:∃m0:Int,m0=if ng a then -((M:Nat):Int) else ((M:Nat):Int):=⟨_,rfl⟩
 have fw:=jk (ng F) (1074*4503599627370496+mg (nr q)) (by omega);have hwM:qc (Ieee.double.word (ng F) (1074*4503599627370496+mg (nr q)))=M:=by rw[hMd];exact yiv (ng F) fq2 fq1
 have hfz:floatToIntVal .f64 (Ieee.double.word (ng F) (1074*4503599627370496+mg (nr q))) .i64=some m0:=by
  rw[f2i_i64 (by rw[fw.1];exact fq2) (by rw[hwM];omega),hwM,fw.2.1,hFp.2.1,hm0]
 have hE:frE T=((ex (nr q):Nat):Int)-1021-((nd q:Nat):Int):=by
  have:=frE_pos hqf;rw[←this];unfold frE;rw[hT1,(yrz (r:=q) (by omega)).1]
 have hval:=nr_value hq0;rw[hq1] at hval;have hxn:ex (nr q)≤2045:=by have:=ysq hq0 hqf;unfold ex;split<;>omega
 have hnd:nd q≤52:=by unfold nd;split<;>omega
 refine zc Tryz.func43 rfl Tryz.ntmps43 rfl ?_;obtain ⟨HF,LW,XLW,E⟩:=wk0 w;refine zm ?_;refine yq ?_;intro gb1 w2 Bb1 Eb1 Gb1;obtain ⟨Gb1,HF,E,XLW⟩:=alx HF LW E XLW Eb1 Gb1;refine stpdq247 ?_;rintro e w3 ⟨rfl,hb⟩;refine ⟨_,rfl,?_⟩;have Ec:=Ext.of_below hb No;replace Bb1:=Bb1.extN Ec NotIn.nil;replace E:=E.trans Ec.no;refine stpdq287 ?_;rintro e w4 ⟨rfl,hb⟩;refine ⟨_,rfl,?_⟩;have Ec:=Ext.of_below hb No;replace Bb1:=Bb1.extN Ec NotIn.nil;replace E:=E.trans Ec.no;refine zf 29 (.float .f64 (Ieee.double.word (ng a) q)) rfl (by rw[hq3]<;>rfl) (zf 29 (.float .f64 T) rfl (by rw[hT]<;>rfl) (za rfl (zb en90 rfl ((qxv _ T (by rw[hT];exact r3) (by rw[hT1];exact hq0) (by rw[hT1];exact hqf)).mono ?_))));rintro e w5 ⟨rfl,hb⟩;refine ⟨_,rfl,?_⟩;have Ec:=Ext.of_below hb No;replace Bb1:=Bb1.extN Ec NotIn.nil;replace E:=E.trans Ec.no;refine zf 30 (.tuple #[.float .f64 F,.int .i64 (frE T)]) rfl (by rw[hF]<;>rfl) (zz ?_);refine za rfl (zb en92 rfl ((qxk _ F hFp.2.2 (by rw[hFp.1];omega) (by rw[hFp.1];omega) 53 (1074*4503599627370496+mg (nr q)) (by decide) fq2 fq3).mono ?_));rintro e w6 ⟨rfl,hb⟩;refine ⟨_,rfl,?_⟩;have Ec:=Ext.of_below hb No;replace Bb1:=Bb1.extN Ec NotIn.nil;replace E:=E.trans Ec.no;refine stpdq258 ?_;rintro e w7 ⟨A1,c1,rfl,o1,hb⟩;refine ⟨_,rfl,?_⟩;have XC:∀q9,(Mut [(some gb1)]) q9→q9<w6.heap.size:=(Mut.grow Mut.none_ (ze Bb1.lt));have Ec:=Ext.of_below hb No;replace Bb1:=Bb1.extN Ec NotIn.nil;replace E:=E.trans Ec.no;obtain ⟨HF,LW,E⟩:=fra HF LW E XLW (Per.own o1 XC);refine yq ?_;intro gb8 w9 Bb8 Eb8 Gb8;have Db8_b1:Apart (some gb8) (some gb1):=Apart.of_lt (ze Bb1.lt) Gb8;have Db1_b8:=Db8_b1.symm;replace Bb1:=Bb1.extN Eb8 NotIn.nil;obtain ⟨Gb8,HF,E,XLW⟩:=alx HF LW E XLW Eb8 Gb8;refine stpdq300 ?_;intro w10 Bx Eb8;replace Bb8:=Bx;replace Bb1:=Bb1.extN Eb8 (NotIn.cons Db1_b8 NotIn.nil);replace E:=E.step1 Eb8 Mut.head;refine zx ?_;refine za rfl (zb en72 rfl ((qux 2 _ (by decide) (by decide)).mono ?_));rintro e w11 ⟨A2,c2,rfl,o2,hb⟩;refine ⟨_,rfl,?_⟩;have XC:∀q9,(Mut [(some gb8),(some gb1)]) q9→q9<w10.heap.size:=(Mut.grow (Mut.grow Mut.none_ (ze Bb1.lt)) (ze Bb8.lt));have Ec:=Ext.of_below hb No;replace Bb8:=Bb8.extN Ec NotIn.nil;replace Bb1:=Bb1.extN Ec NotIn.nil;replace E:=E.trans Ec.no;obtain ⟨HF,LW,E⟩:=fra HF LW E XLW (Per.own o2 XC);refine yq ?_;intro gb12 w13 Bb12 Eb12 Gb12;have Db12_b8:Apart (some gb12) (some gb8):=Apart.of_lt (ze Bb8.lt) Gb12;have Db8_b12:=Db12_b8.symm;have Db12_b1:Apart (some gb12) (some gb1):=Apart.of_lt (ze Bb1.lt) Gb12;have Db1_b12:=Db12_b1.symm;replace Bb8:=Bb8.extN Eb12 NotIn.nil;replace Bb1:=Bb1.extN Eb12 NotIn.nil;obtain ⟨Gb12,HF,E,XLW⟩:=alx HF LW E XLW Eb12 Gb12;refine zk (yb ku rfl rfl Bb12 rfl rfl (Nat.le_of_ble_eq_true rfl) ?_);intro w14 Bx Eb12;replace Bb12:=Bx;replace Bb8:=Bb8.extN Eb12 (NotIn.cons Db8_b12 NotIn.nil);replace Bb1:=Bb1.extN Eb12 (NotIn.cons Db1_b12 NotIn.nil);replace E:=E.step1 Eb12 Mut.head;obtain ⟨HF,LW,XLW,E⟩:=frg HF LW E XLW (Y:=Mut [(some gb8),(some gb1)]) (Mut.skip (Mut.keep (Mut.keep Mut.nil_))) (Per.blkN Bb12 (NotIn.cons Db12_b8 (NotIn.cons Db12_b1 NotIn.nil)));refine zl ?_;refine yl ?_;refine qd ?_;refine zd 41 (.bool (decide (1074+nd q≤ex (nr q)))) rfl (kb (by rw[hE];omega)) (zg rfl (fun hc=>?_) (fun hc=>?_))
 ·
  have hc:=of_decide_eq_true hc;obtain ⟨k,hk⟩:∃k,k=ex (nr q)-(1074+nd q):=⟨_,rfl⟩;have hW:qc a=M*2^k:=val_hi hval hc hk hMd;have hprod:m0*(2:Int)^k=vw a:=by
   rw[vw,hW,hm0];split
   · rw[Int.neg_mul,Int.natCast_mul,Int.natCast_pow];rfl
   · rw[Int.natCast_mul,Int.natCast_pow];rfl
  have hwl:=zmq hf;refine zd 6 (.int .i64 ((k:Nat):Int)) rfl (by rw[hE];congr 1;omega) (stp ?_);have OY:∀q9,(Mut (xz [])) q9→q9<(World.drew w14).heap.size→(Mut [(some gb8),(some gb1)]) q9:=fun k h _=>(Mut.none_) k h;refine qm (Mut [(some gb8),(some gb1)]) (Mut.grow (Mut.grow Mut.none_ (ze Bb1.lt)) (ze Bb8.lt)) [⟨7,8,24,#[.bool false,.slice none 0 0]⟩] [] (zcx [Fx.of (.agg #[.bool (decide ((2:Int)<0)),.slice A2 (limbs 2).length c2]),
   Fx.of (.int .i64 ((k:Nat):Int)),
   ⟨(Option Addr×Nat),fun (A3,c3)=>.agg #[.bool (decide (((k:Nat):Int)<0)),.slice A3 (limbs ((k:Nat):Int)).length c3],fun (A3,c3) b=>(Nums b A3 (limbs ((k:Nat):Int)))⟩,
   ⟨(Option Addr×Nat),fun (A4,c4)=>.tuple #[.agg #[.bool (decide ((2:Int)^k<0)),.slice A4 (limbs ((2:Int)^k)).length c4],.int .i64 0],fun (A4,c4) b=>(Nums b A4 (limbs ((2:Int)^k)))⟩,
   ⟨(Option Addr×Nat),fun (A4,c4)=>.tuple #[.agg #[.bool (decide ((2:Int)^k<0)),.slice A4 (limbs ((2:Int)^k)).length c4],.int .i64 0],fun (A4,c4) b=>(Nums b A4 (limbs ((2:Int)^k)))⟩,
   ⟨(Option Addr×Nat),fun (A4,c4)=>.agg #[.bool (decide ((2:Int)^k<0)),.slice A4 (limbs ((2:Int)^k)).length c4],fun (A4,c4) b=>(Nums b A4 (limbs ((2:Int)^k)))⟩,
   Fx.of (.int .i64 0),
   Fx.of undef,
   Fx.of undef,
   Fx.of (.int .i64 0)]) mixed rfl trivial (fun _ h=>by cases h) ?_ ?_
  · refine ⟨arm,arm,?_,?_,?_,?_,?_,?_,?_,arm,trivial⟩
    · exact dqz45
    · refine qq ?_;intro vs X wq K;have LE:=K.1;have XN:=K.2.1;obtain ⟨⟨A3,c3⟩,e2,k2⟩:=K.dep 2 rfl rfl rfl;refine gm 45 _ rfl e2 (zb en93 rfl ((two_pow k A2 A3 c2 c3 _ (by omega) (HF.on (E.drew.trans (LE.mono OY))).here.1.2 k2.here).mono ?_));rintro e w2 ⟨A4,c4,rfl,o4,hb⟩;exact ⟨_,rfl,hb,⟨(A4,c4),rfl,Per.own o4 XN⟩⟩
    · intro vs X wq K;obtain ⟨⟨A4,c4⟩,e3,k3⟩:=K.dep 3 rfl rfl rfl;refine gm 46 _ rfl e3 ?_;exact qiv rfl ⟨Below.refl _ _,⟨⟨A4,c4⟩,rfl,(k3.map (fun _ h=>h))⟩⟩
    · intro vs X wq K;obtain ⟨⟨A4,c4⟩,e4,k4⟩:=K.dep 4 rfl rfl rfl;refine gm 42 _ rfl e4 ?_;exact ow rfl rfl ⟨Below.refl _ _,⟨⟨A4,c4⟩,rfl,(k4.map (fun _ h=>h))⟩⟩
    · intro vs X wq K;obtain ⟨⟨A4,c4⟩,e4,k4⟩:=K.dep 4 rfl rfl rfl;refine gm 42 _ rfl e4 ?_;exact ow rfl rfl ⟨Below.refl _ _,Left.of rfl⟩
    · exact dqz146
    · refine ⟨_,_,_,_,_,rfl,rfl,rfl,ku,fun vs X wq K=>?_⟩;obtain ⟨⟨A4,c4⟩,e0,_⟩:=K.dep 5 rfl rfl rfl;exact ⟨vs 5,rfl,by rw[e0];rfl,by rw[e0];rfl⟩
  intro vs w15 LE AO AL AF AA;have LBb8:=Bb8;have LBb1:=Bb1;replace Bb8:=Bb8.drew.extN LE NotIn.nil;replace Bb1:=Bb1.drew.extN LE NotIn.nil;replace E:=E.drew.trans (LE.mono OY);obtain ⟨⟨A4,c4⟩,e5,k5⟩:=AL.2.2.2.2.2.1;obtain ⟨HF,LW,E⟩:=fra HF LW E XLW ((k5.map (fun _ h=>h):Per (Mut [(some gb8),(some gb1)]) w15 (fun b=>Nums b A4 (limbs ((2:Int)^k)))));obtain ⟨gb16,v0,y0,qb16,Gb16,Bb16,ey,ev0⟩:=AF.1;cases ey
  obtain rfl:vs 5=v0:=Option.some.inj ev0;rw[e5] at Bb16;have Db16_b8:Apart (some gb16) (some gb8):=Apart.of_lt (ze LBb8.lt) Gb16;have Db8_b16:=Db16_b8.symm;have Db16_b1:Apart (some gb16) (some gb1):=Apart.of_lt (ze LBb1.lt) Gb16;have Db1_b16:=Db16_b1.symm;obtain ⟨HF,LW,E⟩:=fra HF LW E XLW ((Per.blkN Bb16 (NotIn.cons Db16_b8 (NotIn.cons Db16_b1 NotIn.nil)):Per (Mut [(some gb8),(some gb1)]) w15 (fun b=>Blk b gb16 24 #[.bool (decide ((2:Int)^k<0)),.slice A4 (limbs ((2:Int)^k)).length c4])));have e7:=qb16;refine ja (τ:=[(2,_),(3,_),(6,_),(7,_),(8,_),(9,.pointer (some ⟨gb16,0,none⟩))]) ⟨rfl,rfl,rfl,rfl,rfl,congrArg some e7,trivial⟩ ?_;clear AL AF AA LE AO OY e5 e7 k5 LBb8 LBb1;have hmul:∀(A B:Option Addr) (c d:Nat) (w:World),Nums w A (limbs m0)→Nums w B (limbs ((2:Int)^k))→Calls Tryz.prog 94 #[.agg #[.bool (decide (m0<0)),.slice A (limbs m0).length c],.agg #[.bool (decide ((2:Int)^k<0)),.slice B (limbs ((2:Int)^k)).length d]] w (yd w (vw a) 0):=by
   intro A B c d w hx hy;have h:=mulI A B c d w (yqq (by rw[hm0];split<;>omega)) (two_30 (by omega)) hx hy;rw[hprod,ztk hwl,ztv hwl] at h;exact h
  refine zu ?_;refine za rfl (zb en94 rfl ((hmul A1 A4 c1 c4 _ (HF.on E).here.1.1.1.1.2 (HF.on E).here.1.2).mono ?_));rintro e w17 ⟨A5,c5,rfl,o5,hb⟩;refine ⟨_,rfl,?_⟩;have XC:∀q9,(Mut [(some gb8),(some gb1)]) q9→q9<w15.heap.size:=(Mut.grow (Mut.grow Mut.none_ (ze Bb1.lt)) (ze Bb8.lt));have SC:=Nat.le_trans LW.size E.size;have Ec:=Ext.of_below hb No;replace Bb8:=Bb8.extN Ec NotIn.nil;replace Bb1:=Bb1.extN Ec NotIn.nil;replace E:=E.trans Ec.no;have hS:=SC;obtain ⟨HF,LW,E⟩:=fra HF LW E XLW (Per.ownX o5 XC);refine zn ?_;refine stpdq300 ?_;intro w18 Bx Eb8;replace Bb8:=Bx;replace Bb1:=Bb1.extN Eb8 (NotIn.cons Db1_b8 NotIn.nil);replace E:=E.step1 Eb8 Mut.head;obtain ⟨HF,LW,XLW,E⟩:=frg HF LW E XLW (Y:=Mut [(some gb1)]) (Mut.skip (Mut.keep Mut.nil_)) (Per.blkN Bb8 (NotIn.cons Db8_b1 NotIn.nil));refine zu ?_;refine zjk ?_;intro w19 Bx Eb1;replace Bb1:=Bx;replace E:=E.step1 Eb1 Mut.head;refine zl ?_;exact ⟨A5,c5,rfl,((HF.on E).here.1.2).mono hS,(LW.step E XLW).toBelow⟩
 ·
  have hc:=of_decide_eq_false hc;obtain ⟨k,hk⟩:∃k,k=1074+nd q-ex (nr q):=⟨_,rfl⟩;have hM:M=qc a*2^k:=val_lo hval (by omega) hk hMd;have hk52:k≤52:=by
   rcases Nat.lt_or_ge 52 k with h | h
   · exfalso
     have h1:2^53≤2^k:=Nat.pow_le_pow_right (by decide) (by omega);have h2:1*2^k≤qc a*2^k:=Nat.mul_le_mul_right _ (by omega);omega
   · exact h
  refine qd ?_;refine zd 57 (.bool false) rfl (by rw[hE,decide_eq_false (by omega)]<;>rfl) (zx ?_);have OY:∀q9,(Mut (xz [])) q9→q9<(World.drew w14).heap.size→(Mut [(some gb8),(some gb1)]) q9:=fun k h _=>(Mut.none_) k h;refine qm (Mut [(some gb8),(some gb1)]) (Mut.grow (Mut.grow Mut.none_ (ze Bb1.lt)) (ze Bb8.lt)) [⟨8,9,24,#[.bool false,.slice none 0 0]⟩] [] (zcx [Fx.of (.agg #[.bool (decide ((2:Int)<0)),.slice A2 (limbs 2).length c2]),
   Fx.of (.int .i64 ((frE T)-53)),
   Fx.of (.int .i64 ((k:Nat):Int)),
   ⟨(Option Addr×Nat),fun (A3,c3)=>.agg #[.bool (decide (((k:Nat):Int)<0)),.slice A3 (limbs ((k:Nat):Int)).length c3],fun (A3,c3) b=>(Nums b A3 (limbs ((k:Nat):Int)))⟩,
   ⟨(Option Addr×Nat),fun (A4,c4)=>.tuple #[.agg #[.bool (decide ((2:Int)^k<0)),.slice A4 (limbs ((2:Int)^k)).length c4],.int .i64 0],fun (A4,c4) b=>(Nums b A4 (limbs ((2:Int)^k)))⟩,
   ⟨(Option Addr×Nat),fun (A4,c4)=>.tuple #[.agg #[.bool (decide ((2:Int)^k<0)),.slice A4 (limbs ((2:Int)^k)).length c4],.int .i64 0],fun (A4,c4) b=>(Nums b A4 (limbs ((2:Int)^k)))⟩,
   ⟨(Option Addr×Nat),fun (A4,c4)=>.agg #[.bool (decide ((2:Int)^k<0)),.slice A4 (limbs ((2:Int)^k)).length c4],fun (A4,c4) b=>(Nums b A4 (limbs ((2:Int)^k)))⟩,
   Fx.of (.int .i64 0),
   Fx.of undef,
   Fx.of undef,
   Fx.of (.int .i64 0)]) mixed rfl trivial (fun _ h=>by cases h) ?_ ?_
  · refine ⟨arm,arm,?_,?_,?_,?_,?_,?_,?_,?_,arm,trivial⟩
    · refine qq ?_;intro vs X wq K;exact ow_neg rfl (yx (by omega)) ⟨Below.refl _ _,Left.of ((by rw[hE,hk];congr 1;omega:(.int .i64 (0-((frE T)-53)):Value)=_))⟩
    · exact dqz45
    · exact dqz56
    · exact dqz98
    · exact dqz96
    · exact dqz112
    · exact dqz146
    · refine ⟨_,_,_,_,_,rfl,rfl,rfl,ku,fun vs X wq K=>?_⟩;exact dqz140
  intro vs w20 LE AO AL AF AA;have LBb8:=Bb8;have LBb1:=Bb1;replace Bb8:=Bb8.drew.extN LE NotIn.nil;replace Bb1:=Bb1.drew.extN LE NotIn.nil;replace E:=E.drew.trans (LE.mono OY);obtain ⟨⟨A4,c4⟩,e6,k6⟩:=AL.2.2.2.2.2.2.1;obtain ⟨HF,LW,E⟩:=fra HF LW E XLW ((k6.map (fun _ h=>h):Per (Mut [(some gb8),(some gb1)]) w20 (fun b=>Nums b A4 (limbs ((2:Int)^k)))));obtain ⟨gb21,v0,y0,qb21,Gb21,Bb21,ey,ev0⟩:=AF.1;cases ey
  obtain rfl:vs 6=v0:=Option.some.inj ev0;rw[e6] at Bb21;have Db21_b8:Apart (some gb21) (some gb8):=Apart.of_lt (ze LBb8.lt) Gb21;have Db8_b21:=Db21_b8.symm;have Db21_b1:Apart (some gb21) (some gb1):=Apart.of_lt (ze LBb1.lt) Gb21;have Db1_b21:=Db21_b1.symm;obtain ⟨HF,LW,E⟩:=fra HF LW E XLW ((Per.blkN Bb21 (NotIn.cons Db21_b8 (NotIn.cons Db21_b1 NotIn.nil)):Per (Mut [(some gb8),(some gb1)]) w20 (fun b=>Blk b gb21 24 #[.bool (decide ((2:Int)^k<0)),.slice A4 (limbs ((2:Int)^k)).length c4])));have e8:=qb21;refine ja (τ:=[(2,_),(3,_),(7,_),(11,.pointer (some ⟨gb21,0,none⟩))]) ⟨rfl,rfl,rfl,congrArg some e8,trivial⟩ ?_;clear AL AF AA LE AO OY e6 e8 k6 LBb8 LBb1;refine stpdq290 ?_;rintro e w22 ⟨A5,c5,B6,c6,r,rfl,o5,hb⟩;refine ⟨_,rfl,?_⟩;have XC:∀q9,(Mut [(some gb8),(some gb1)]) q9→q9<w20.heap.size:=(Mut.grow (Mut.grow Mut.none_ (ze Bb1.lt)) (ze Bb8.lt));have SC:=Nat.le_trans LW.size E.size;have Ec:=Ext.of_below hb No;replace Bb8:=Bb8.extN Ec NotIn.nil;replace Bb1:=Bb1.extN Ec NotIn.nil;replace E:=E.trans Ec.no;have hS:=SC;obtain ⟨HF,LW,E⟩:=fra HF LW E XLW (Per.ownX o5 XC);refine zx ?_;refine yq ?_;intro gb23 w24 Bb23 Eb23 Gb23;have Db23_b8:Apart (some gb23) (some gb8):=Apart.of_lt (ze Bb8.lt) Gb23;have Db8_b23:=Db23_b8.symm;have Db23_b1:Apart (some gb23) (some gb1):=Apart.of_lt (ze Bb1.lt) Gb23;have Db1_b23:=Db23_b1.symm;replace Bb8:=Bb8.extN Eb23 NotIn.nil;replace Bb1:=Bb1.extN Eb23 NotIn.nil;obtain ⟨Gb23,HF,E,XLW⟩:=alx HF LW E XLW Eb23 Gb23;refine yq ?_;intro gb25 w26 Bb25 Eb25 Gb25;have Db25_b23:Apart (some gb25) (some gb23):=Apart.of_lt (ze Bb23.lt) Gb25;have Db23_b25:=Db25_b23.symm;have Db25_b8:Apart (some gb25) (some gb8):=Apart.of_lt (ze Bb8.lt) Gb25;have Db8_b25:=Db25_b8.symm;have Db25_b1:Apart (some gb25) (some gb1):=Apart.of_lt (ze Bb1.lt) Gb25;have Db1_b25:=Db25_b1.symm;replace Bb23:=Bb23.extN Eb25 NotIn.nil;replace Bb8:=Bb8.extN Eb25 NotIn.nil;replace Bb1:=Bb1.extN Eb25 NotIn.nil;obtain ⟨Gb25,HF,E,XLW⟩:=alx HF LW E XLW Eb25 Gb25;refine zk (yb ku rfl rfl Bb23 rfl rfl (Nat.le_of_ble_eq_true rfl) ?_);intro w27 Bx Eb23;replace Bb23:=Bx;replace Bb25:=Bb25.extN Eb23 (NotIn.cons Db25_b23 NotIn.nil);replace Bb8:=Bb8.extN Eb23 (NotIn.cons Db8_b23 NotIn.nil);replace Bb1:=Bb1.extN Eb23 (NotIn.cons Db1_b23 NotIn.nil);replace E:=E.step1 Eb23 (Mut.tail Mut.head);obtain ⟨HF,LW,XLW,E⟩:=frg HF LW E XLW (Y:=Mut [(some gb25),(some gb8),(some gb1)]) (Mut.keep (Mut.skip (Mut.keep (Mut.keep Mut.nil_)))) (Per.blkN Bb23 (NotIn.cons Db23_b25 (NotIn.cons Db23_b8 (NotIn.cons Db23_b1 NotIn.nil))));refine zk (yb ku rfl rfl Bb25 rfl rfl (Nat.le_of_ble_eq_true rfl) ?_);intro w28 Bx Eb25;replace Bb25:=Bx;replace Bb8:=Bb8.extN Eb25 (NotIn.cons Db8_b25 NotIn.nil);replace Bb1:=Bb1.extN Eb25 (NotIn.cons Db1_b25 NotIn.nil);replace E:=E.step1 Eb25 Mut.head;obtain ⟨HF,LW,XLW,E⟩:=frg HF LW E XLW (Y:=Mut [(some gb8),(some gb1)]) (Mut.skip (Mut.keep (Mut.keep Mut.nil_))) (Per.blkN Bb25 (NotIn.cons Db25_b8 (NotIn.cons Db25_b1 NotIn.nil)));refine zl ?_;refine zjk ?_;intro w29 Bx Eb1;exact dqz57
theorem whole_fin:Calls Tryz.prog 43 #[.int .u64 ((a:Nat):Int)] w (yd w (vw a) 0):=by
 by_cases h0:qc a=0
 · exact whole_zero w a ha hf h0
 · exact whole_num w a ha hf h0
end
end
end Go.Proofs.YtmnmebdmpigddaaGreatDoor
namespace Go.Proofs.YtmnmebdmpigddaaGreatDoor
open Go.RowKit
theorem stpdq221 {P Q:Prop} (k:Q) (h:(Unit→Q)→P:=by
 intro zK;refine zp ?_;refine zkx ?_;refine yi ?_;refine xn ?_;refine stp ?_;refine zf 17 (.bool false) rfl (by rw[kp,hn]<;>rfl) (stp ?_);exact zK ()):P:=h fun _=>k
attribute [local irreducible] OW RS CW EW
noncomputable def cmpB (a:Nat) (i:Int):Int:=if ypx (vw a) i≠0 then ypx (vw a) i else if ynq a then (if ng a then -1 else 1) else 0
theorem cmp_trunc {a q:Nat} (hf:rg a<9218868437227405312) (h1:vl q=qc a*2^1074) (h2:q≤rg a):cmpF a (Ieee.double.word (ng a) q)=(if ynq a then (if ng a then -1 else 1) else 0)∧oa a (Ieee.double.word (ng a) q)=true:=by
 obtain ⟨w1,w2,w3⟩:=jk (ng a) q (by omega);have hn:isN (Ieee.double.word (ng a) q)=false:=xu (by rw[w1];omega);have ho:oa a (Ieee.double.word (ng a) q)=true:=by rw[oa,xu hf,hn];rfl
 refine ⟨?_,ho⟩;have hl:ynq a=decide (q<rg a):=by
  refine (vgx ?_).symm;rw[isWh_iff,←h1];constructor
  · intro h e;have:=vl_lt h;omega
  · intro h;rcases Nat.lt_or_ge q (rg a) with h' | h'
    · exact h'
    · exact absurd (congrArg vl (show rg a=q by omega)) h
 rw[cmpF,if_pos ho,hl];obtain ⟨p1,p2⟩:=yzq a;obtain ⟨p3,p4⟩:=yzq (Ieee.double.word (ng a) q);rw[w1,w2] at p3 p4;unfold ordI;cases hs:ng a with
 | true=>
  rw[hs] at p3;rw[p1 hs,p3 rfl];by_cases h:q<rg a
  · rw[decide_eq_true h,if_pos (by omega)];rfl
  · rw[decide_eq_false h,if_neg (by omega),if_neg (by omega)];rfl
 | false=>
  rw[hs] at p4;rw[p2 hs,p4 rfl];by_cases h:q<rg a
  · rw[decide_eq_true h,if_neg (by omega),if_pos (by omega)];rfl
  · rw[decide_eq_false h,if_neg (by omega),if_neg (by omega)];rfl
theorem f2i_one (s:Bool):floatToIntVal .f64 (Ieee.double.word s 4607182418800017408) .i64=some (if s then -1 else 1):=by cases s<;>decide +kernel
def infV (a:Nat):Int:=if ng a then -1 else 1
section
variable (w:World) (a:Nat) (ha:a<18446744073709551616)
include ha
section
variable (n1:Bool) (A:Option Addr) (c:Nat) (xs:List Nat) (hx:Nums w A xs) (hl:xs.length≤9223372036854775807)
include hx hl
theorem cmpbig_nan (hn:isN a=true):Calls Tryz.prog 118 #[.int .u64 ((a:Nat):Int),.agg #[.bool n1,.slice A xs.length c]] w (RetB w (.tuple #[.int .i64 0,.bool false])):=by
 have _:=And.intro ha (And.intro hx hl);refine zc Tryz.func118 rfl Tryz.ntmps118 rfl ?_;have LW:=erx (No) w;have XLW:=grx (No) w;have E:=erx (No) w;refine zi ?_;intro gb1 w2 Bb1 Eb1 Gb1;have Gb1:_≤gb1:=Nat.le_trans E.size Gb1;have GLb1:=Nat.le_trans LW.size Gb1;replace E:=E.trans Eb1.no;replace E:=E.cons (some gb1);replace XLW:=Mut.grow XLW (fun k e=>Or.inr (Nat.le_trans LW.size ((ym Gb1) k e)));replace LW:=LW.step E XLW;have SB:∀q9,No q9→Mut [(some gb1)] q9:=(Mut.skip Mut.nil_);replace XLW:=fun k h=>XLW k (SB k h);clear SB;replace E:=erx (No) w2;refine zp ?_;refine zkx ?_;refine yi ?_;refine xn ?_;refine stp ?_;refine zf 17 (.bool true) rfl (by rw[kp,hn]<;>rfl) (og ?_);exact xi
theorem cmpbig_bad (hn:isN a=false) (hg:zr n1 xs=false):Calls Tryz.prog 118 #[.int .u64 ((a:Nat):Int),.agg #[.bool n1,.slice A xs.length c]] w (RetB w (.tuple #[.int .i64 0,.bool false])):=by
 have _:=ha;refine zc Tryz.func118 rfl Tryz.ntmps118 rfl ?_;obtain ⟨HF,LW,XLW,E⟩:=wk0 w;replace HF:=HF.and (Per.nums0 hx);refine zi ?_;intro gb1 w2 Bb1 Eb1 Gb1;obtain ⟨HF,LW,E⟩:=frz HF LW E XLW Bb1 Eb1;refine stpdq221 ?_;refine onx rfl (zb yoq rfl ((yr n1 c _ A xs hl (HF.on E).here.1.2).mono ?_));rintro e w3 ⟨rfl,hb⟩;refine ⟨_,rfl,?_⟩;replace E:=blx E hb;refine zf 19 (.bool false) rfl (by rw[hg]<;>rfl) (jm ?_);exact xi
end
section
variable (i:Int) (A:Option Addr) (c:Nat) (hi:i.natAbs<B18^30) (hx:Nums w A (limbs i)) (hn:isN a=false)
include hi hx hn
theorem cmpbig_inf (hinf:rg a=9218868437227405312):Calls Tryz.prog 118 #[.int .u64 ((a:Nat):Int),.agg #[.bool (decide (i<0)),.slice A (limbs i).length c]] w (RetB w (.tuple #[.int .i64 (infV a),.bool true])):=by
 refine zc Tryz.func118 rfl Tryz.ntmps118 rfl ?_;obtain ⟨HF,LW,XLW,E⟩:=wk0 w;replace HF:=HF.and (Per.nums0 hx);refine zi ?_;intro gb1 w2 Bb1 Eb1 Gb1;obtain ⟨HF,LW,E⟩:=frz HF LW E XLW Bb1 Eb1;refine stpdq221 ?_;refine onx rfl (zb yoq rfl ((yhv A c _ hi (HF.on E).here.1.2).mono ?_));rintro e w3 ⟨rfl,hb⟩;refine ⟨_,rfl,?_⟩;replace E:=blx E hb;refine yu ?_;refine zh rfl en89 rfl (jj _ a ha) E fun w4 E=>(zf 23 (.bool true) rfl (by rw[decide_eq_true hinf]<;>rfl) (zl ?_));refine zh rfl en103 rfl (qox _ 4607182418800017408 (by decide) a ha) E fun w5 E=>(zf 25 (.float .f64 (Ieee.double.word (ng a) 4607182418800017408)) rfl (by rw[show rg 4607182418800017408=4607182418800017408 by decide]<;>rfl) (za rfl (ow_f2i (z:=infV a) Tryz.underlying3 (by rw[u111];rfl) rfl (f2i_one (ng a)) (zp ?_))));exact xi
theorem cmpbig_fin (hf:rg a<9218868437227405312):Calls Tryz.prog 118 #[.int .u64 ((a:Nat):Int),.agg #[.bool (decide (i<0)),.slice A (limbs i).length c]] w (RetB w (.tuple #[.int .i64 (cmpB a i),.bool true])):=by
 obtain ⟨q,hq1,hq2,hq3⟩:=yox hf;obtain ⟨t1,t2⟩:=cmp_trunc hf hq1 hq2;rw[←hq3] at t1 t2;have hbr:yy (zhz .zero a)=zhz .zero a:=bareN_num (xu (by rw[hq3,(jk (ng a) q (by omega)).1];omega));refine zc Tryz.func118 rfl Tryz.ntmps118 rfl ?_;obtain ⟨HF,LW,XLW,E⟩:=wk0 w;replace HF:=HF.and (Per.nums0 hx);refine zi ?_;intro gb1 w2 Bb1 Eb1 Gb1;obtain ⟨HF,LW,E⟩:=frz HF LW E XLW Bb1 Eb1;refine stpdq221 ?_;refine onx rfl (zb yoq rfl ((yhv A c _ hi (HF.on E).here.1.2).mono ?_));rintro e w3 ⟨rfl,hb⟩;refine ⟨_,rfl,?_⟩;replace E:=blx E hb;refine yu ?_;refine zh rfl en89 rfl (jj _ a ha) E fun w4 E=>(zf 23 (.bool false) rfl (by rw[decide_eq_false (by omega)]<;>rfl) (yi ?_));refine za rfl (zb en43 rfl ((whole_fin _ a ha hf).mono ?_));rintro e w5 ⟨A2,c2,rfl,o2,hb⟩;refine ⟨_,rfl,?_⟩;have XC:∀q9,(No) q9→q9<w4.heap.size:=Mut.none_;replace E:=blx E hb;obtain ⟨HF,LW,E⟩:=fra HF LW E XLW (Per.own o2 XC);refine zn ?_;refine yq ?_;intro gb6 w7 Bb6 Eb6 Gb6;obtain ⟨Gb6,HF,E,XLW⟩:=alx HF LW E XLW Eb6 Gb6;refine zk (yb ku rfl rfl Bb6 rfl rfl (Nat.le_of_ble_eq_true rfl) ?_);intro w8 Bx Eb6;replace Bb6:=Bx;replace E:=E.step1 Eb6 Mut.head;obtain ⟨HF,LW,XLW,E⟩:=frg HF LW E XLW (Y:=No) (Mut.skip Mut.nil_) (Per.blkN Bb6 NotIn.nil);refine yi ?_;refine zh rfl en40 rfl (cmpI_ A2 A c2 c _ (zmq hf) hi (HF.on E).here.1.2 (HF.on E).here.1.1.1.2) E fun w9 E=>(qd ?_);refine zg rfl (fun hc=>?_) (fun hc=>?_)
 ·
  have hc:=bne_iff_ne.1 hc;refine zz ?_;exact ⟨by rw[cmpB,if_pos hc];rfl,(LW.step E XLW).toBelow⟩
 ·
  have hc:ypx (vw a) i=0:=by simpa using hc
  refine zl ?_;refine za rfl (zb en91 rfl ((trunc_num _ a hf).mono ?_));rintro e w10 ⟨rfl,hb⟩;refine ⟨_,rfl,?_⟩;replace E:=blx E hb;refine zh rfl en87 rfl (ypz _ (zhz .zero a)) E fun w11 E=>(zf 42 (.int .u64 ((zhz .zero a:Nat):Int)) rfl (by rw[hbr]<;>rfl) (zh rfl en117 rfl (cmp_any_r _ a (zhz .zero a)) E fun w12 E=>(og ?_)));exact ⟨by rw[cmpB,if_neg (by rw[hc];decide),←t1];rfl,(LW.step E XLW).toBelow⟩
end
end
def zgx (a:Nat) (n1:Bool) (xs:List Nat):Bool:=!(isN a)&&zr n1 xs
noncomputable def yiq (a:Nat) (n1:Bool) (xs:List Nat):Int:=if zgx a n1 xs then (if rg a=9218868437227405312 then infV a else cmpB a (num n1 xs)) else 0
section
variable (w:World) (a:Nat) (ha:a<18446744073709551616) (n1:Bool) (A:Option Addr) (c:Nat) (xs:List Nat) (hx:Nums w A xs) (hl:xs.length≤9223372036854775807)
include ha hx hl
theorem cmpbig_any:Calls Tryz.prog 118 #[.int .u64 ((a:Nat):Int),.agg #[.bool n1,.slice A xs.length c]] w (RetB w (.tuple #[.int .i64 (yiq a n1 xs),.bool (zgx a n1 xs)])):=by
 cases hn:isN a with
 | true=>
  have h:zgx a n1 xs=false:=by rw[zgx,hn];rfl
  rw[yiq,h,if_neg (by decide)];exact cmpbig_nan w a ha n1 A c xs hx hl hn
 | false=>
  cases hg:zr n1 xs with
  | false=>
   have h:zgx a n1 xs=false:=by rw[zgx,hg,Bool.and_false]
   rw[yiq,h,if_neg (by decide)];exact cmpbig_bad w a ha n1 A c xs hx hl hn hg
  | true=>
   have h:zgx a n1 xs=true:=by rw[zgx,hn,hg];rfl
   rw[yiq,h,if_pos rfl];obtain ⟨i,rfl,rfl,hi⟩:=qlz hg;rw[ji];by_cases hinf:rg a=9218868437227405312
   · rw[if_pos hinf];exact cmpbig_inf w a ha i A c hi hx hn hinf
   · rw[if_neg hinf];have h1:=of_decide_eq_false hn;exact cmpbig_fin w a ha i A c hi hx hn (by omega)
end
end Go.Proofs.YtmnmebdmpigddaaGreatDoor
namespace Go.Proofs.YtmnmebdmpigddaaGreatDoor
open Go.RowKit
theorem stpdq309 {P Q:Prop} (k:Q) (h:(Unit→Q)→P:=by
 intro zK;refine zm ?_;refine onx rfl (qjz u9 rfl ?_);exact zK ()):P:=h fun _=>k
theorem stpdq291 {P Q:Prop} (k:Q) (h:(Unit→Q)→P:=by
 intro zK;refine za rfl (ow_loadP u24 rfl ku rfl (HF.on E).here.2 rfl rfl ?_);exact zK ()):P:=h fun _=>k
theorem qwk {P:Prop} (h:P:=by
 refine stp20 ?_;exact zcz):P:=h
theorem yev {P:Prop} (h:P:=by
 refine yi ?_;exact zcz):P:=h
theorem zrz {P:Prop} (h:P:=by
 refine yu ?_;exact zcz):P:=h
theorem dqz85 {P:Prop} (h:P:=by
 refine onx rfl (ycq rfl rfl (zx ?_));refine vr rfl (fun h3=>?_) (fun h3=>?_)
 ·
  refine yi ?_;exact zcz
 ·
  refine yhq ?_;exact dqz14):P:=h
theorem dqz14 {P:Prop} (h:P:=by
 refine zj 51 rfl (fun h4=>?_) (fun h4=>?_)
 ·
  refine zp ?_;refine zj 58 rfl (fun h5=>?_) (fun h5=>?_)
  ·
   replace h5:=eq_of_beq h5;refine zm ?_;refine onx rfl (qjz u9 rfl (yi ?_));exact zcz
  ·
   replace h5:=beq_eq_false_iff_ne.1 h5;refine yu ?_;exact zcz
 ·
  refine yhq ?_;exact zcz):P:=h
theorem zcz {P:Prop} (h:P:=by
 exact ⟨by refine congrArg (fun z=>Ending.returned (.bool z)) ?_;first | (simp_all[PV.good,gr0];done) | (simp_all[PV.good,gr0];omega),(LW.step E XLW).toBelow⟩):P:=h
attribute [local irreducible] OW RS CW EW
theorem gr0 {n:Nat} (h:0<n):n≠0:=by omega
theorem zik {s:ByteArray} (h:s.toList= []):s.size=0:=by
 have h1:=congrArg List.length h;rw[ByteArray.toList_eq] at h1;exact h1
section
variable (w:World) (k:Int) (yes neg:Bool) (A B:Option Addr) (xs:List Nat) (c bits ni d:Nat) (s:ByteArray) (hx:Nums w A xs) (hl:xs.length≤9223372036854775807)
include hx hl
theorem pgood_any:Calls Tryz.prog 28 #[.agg #[.int .i64 k,.bool yes,.bool neg,.slice A xs.length c,.int .u64 ((bits:Nat):Int),.string s,.slice B ni d]] w (RetB w (.bool (PV.good ⟨k,yes,neg,xs,bits,s,ni⟩))):=by
 refine zc Tryz.func28 rfl Tryz.ntmps28 rfl ?_;obtain ⟨HF,LW,XLW,E⟩:=wk0 w;replace HF:=HF.and (Per.nums0 hx);refine zi ?_;intro gb1 w2 Bb1 Eb1 Gb1;obtain ⟨HF,LW,E⟩:=frz HF LW E XLW Bb1 Eb1;refine vp ?_;refine vr rfl (fun h1=>?_) (fun h1=>?_)
 ·
  replace h1:=of_decide_eq_true h1;exact yev
 ·
  replace h1:=of_decide_eq_false h1;refine qd ?_;refine zj 12 rfl (fun h2=>?_) (fun h2=>?_)
  ·
   refine stp23 ?_;refine vr rfl (fun h3=>?_) (fun h3=>?_)
   ·
    replace h3:=eq_of_beq h3;subst h3;refine zl ?_;refine zj 26 rfl (fun h4=>?_) (fun h4=>?_)
    ·
     refine zn ?_;refine zj 29 rfl (fun h5=>?_) (fun h5=>?_)
     ·
      replace h5:=eq_of_beq h5;refine zu ?_;refine zj 34 rfl (fun h6=>?_) (fun h6=>?_)
      ·
       replace h6:=eq_of_beq h6;exact zrz
      ·
       replace h6:=beq_eq_false_iff_ne.1 h6;exact zrz
     ·
      replace h5:=beq_eq_false_iff_ne.1 h5;refine og ?_;exact zcz
    ·
     refine stp19 ?_;exact zcz
   ·
    replace h3:=beq_eq_false_iff_ne.1 h3;refine zl ?_;refine vr rfl (fun h7=>?_) (fun h7=>?_)
    ·
     replace h7:=eq_of_beq h7;subst h7;refine zx ?_;refine zj 42 rfl (fun h8=>?_) (fun h8=>?_)
     ·
      replace h8:=eq_of_beq h8;refine zu ?_;refine zj 47 rfl (fun h9=>?_) (fun h9=>?_)
      ·
       replace h9:=eq_of_beq h9;exact zrz
      ·
       replace h9:=beq_eq_false_iff_ne.1 h9;exact zrz
     ·
      replace h8:=beq_eq_false_iff_ne.1 h8;refine og ?_;exact zcz
    ·
     replace h7:=beq_eq_false_iff_ne.1 h7;refine zl ?_;refine vr rfl (fun h10=>?_) (fun h10=>?_)
     ·
      replace h10:=eq_of_beq h10;subst h10;refine zn ?_;refine stpdq291 ?_;refine zh rfl yoq rfl (yr neg c _ A xs hl (HF.on E).here.1.2) E fun w3 E=>(stp ?_);refine zj 57 rfl (fun h11=>?_) (fun h11=>?_)
      ·
       refine zu ?_;refine zj 62 rfl (fun h12=>?_) (fun h12=>?_)
       ·
        refine zu ?_;refine zj 67 rfl (fun h13=>?_) (fun h13=>?_)
        ·
         replace h13:=eq_of_beq h13;exact zrz
        ·
         replace h13:=beq_eq_false_iff_ne.1 h13;exact zrz
       ·
        refine og ?_;exact zcz
      ·
       refine zsk ?_;exact zcz
     ·
      replace h10:=beq_eq_false_iff_ne.1 h10;refine zl ?_;refine vr rfl (fun h14=>?_) (fun h14=>?_)
      ·
       replace h14:=eq_of_beq h14;subst h14;refine zx ?_;refine zj 75 rfl (fun h15=>?_) (fun h15=>?_)
       ·
        replace h15:=eq_of_beq h15;refine zu ?_;refine zj 80 rfl (fun h16=>?_) (fun h16=>?_)
        ·
         exact zrz
        ·
         exact zrz
       ·
        replace h15:=beq_eq_false_iff_ne.1 h15;refine og ?_;exact zcz
      ·
       replace h14:=beq_eq_false_iff_ne.1 h14;refine zl ?_;refine vr rfl (fun h17=>?_) (fun h17=>?_)
       ·
        replace h17:=eq_of_beq h17;subst h17;refine zx ?_;refine zj 88 rfl (fun h18=>?_) (fun h18=>?_)
        ·
         replace h18:=eq_of_beq h18;refine zu ?_;refine zj 93 rfl (fun h19=>?_) (fun h19=>?_)
         ·
          refine zu ?_;refine zj 98 rfl (fun h20=>?_) (fun h20=>?_)
          ·
           replace h20:=eq_of_beq h20;refine stpdq309 ?_;refine qd ?_;exact zcz
          ·
           replace h20:=beq_eq_false_iff_ne.1 h20;refine vp ?_;exact zcz
         ·
          refine zxz ?_;exact zcz
        ·
         replace h18:=beq_eq_false_iff_ne.1 h18;refine yhz ?_;exact zcz
       ·
        replace h17:=beq_eq_false_iff_ne.1 h17;refine zz ?_;exact zcz
  ·
   refine stp23 ?_;refine vr rfl (fun h21=>?_) (fun h21=>?_)
   ·
    replace h21:=eq_of_beq h21;subst h21;refine zl ?_;refine zj 26 rfl (fun h22=>?_) (fun h22=>?_)
    ·
     refine stp19 ?_;exact zcz
    ·
     refine stp19 ?_;exact zcz
   ·
    replace h21:=beq_eq_false_iff_ne.1 h21;refine zl ?_;refine vr rfl (fun h23=>?_) (fun h23=>?_)
    ·
     replace h23:=eq_of_beq h23;subst h23;exact qwk
    ·
     replace h23:=beq_eq_false_iff_ne.1 h23;refine zl ?_;refine vr rfl (fun h24=>?_) (fun h24=>?_)
     ·
      replace h24:=eq_of_beq h24;subst h24;refine zn ?_;refine stpdq291 ?_;refine zh rfl yoq rfl (yr neg c _ A xs hl (HF.on E).here.1.2) E fun w4 E=>(stp ?_);refine zj 57 rfl (fun h25=>?_) (fun h25=>?_)
      ·
       refine zu ?_;refine zj 62 rfl (fun h26=>?_) (fun h26=>?_)
       ·
        refine zu ?_;refine zj 67 rfl (fun h27=>?_) (fun h27=>?_)
        ·
         replace h27:=eq_of_beq h27;exact zrz
        ·
         replace h27:=beq_eq_false_iff_ne.1 h27;exact zrz
       ·
        refine og ?_;exact zcz
      ·
       refine zsk ?_;exact zcz
     ·
      replace h24:=beq_eq_false_iff_ne.1 h24;refine zl ?_;refine vr rfl (fun h28=>?_) (fun h28=>?_)
      ·
       replace h28:=eq_of_beq h28;subst h28;exact qwk
      ·
       replace h28:=beq_eq_false_iff_ne.1 h28;refine zl ?_;refine vr rfl (fun h29=>?_) (fun h29=>?_)
       ·
        replace h29:=eq_of_beq h29;subst h29;refine stp26 ?_;exact zcz
       ·
        replace h29:=beq_eq_false_iff_ne.1 h29;refine zz ?_;exact zcz
theorem rg0:Calls Tryz.prog 12 #[.agg #[.int .i64 0,.bool yes,.bool neg,.slice A xs.length c,.int .u64 ((bits:Nat):Int),.string s,.slice B ni d]] w (RetB w (.bool (PV.good ⟨0,yes,neg,xs,bits,s,ni⟩))):=by
 have _:=hx;have _:=hl;have hs0:s.toList= []→s.size=0:=zik;refine zc Tryz.func12 rfl Tryz.ntmps12 rfl ?_;obtain ⟨HF,LW,XLW,E⟩:=wk0 w;replace HF:=HF.and (Per.nums0 hx);refine zi ?_;intro gb1 w2 Bb1 Eb1 Gb1;obtain ⟨HF,LW,E⟩:=frz HF LW E XLW Bb1 Eb1;refine yhz ?_;refine vr rfl (fun h1=>?_) (fun h1=>?_)
 ·
  exact yev
 ·
  refine jt ?_;refine zj 24 rfl (fun h2=>?_) (fun h2=>?_)
  ·
   refine stp30 ?_;exact zcz
  ·
   refine zz ?_;refine zj 34 rfl (fun h3=>?_) (fun h3=>?_)
   ·
    exact qwk
   ·
    refine zl ?_;refine onx rfl (ycq rfl rfl (zx ?_));refine vr rfl (fun h4=>?_) (fun h4=>?_)
    ·
     exact yev
    ·
     refine yhq ?_;refine zj 51 rfl (fun h5=>?_) (fun h5=>?_)
     ·
      refine zp ?_;refine zj 58 rfl (fun h6=>?_) (fun h6=>?_)
      ·
       replace h6:=eq_of_beq h6;refine stpdq309 ?_;exact yev
      ·
       replace h6:=beq_eq_false_iff_ne.1 h6;exact zrz
     ·
      refine yhq ?_;exact zcz
theorem rg1:Calls Tryz.prog 12 #[.agg #[.int .i64 1,.bool yes,.bool neg,.slice A xs.length c,.int .u64 ((bits:Nat):Int),.string s,.slice B ni d]] w (RetB w (.bool (PV.good ⟨1,yes,neg,xs,bits,s,ni⟩))):=by
 have _:=hx;have _:=hl;have hs0:s.toList= []→s.size=0:=zik;refine zc Tryz.func12 rfl Tryz.ntmps12 rfl ?_;obtain ⟨HF,LW,XLW,E⟩:=wk0 w;replace HF:=HF.and (Per.nums0 hx);refine zi ?_;intro gb1 w2 Bb1 Eb1 Gb1;obtain ⟨HF,LW,E⟩:=frz HF LW E XLW Bb1 Eb1;refine yhz ?_;refine vr rfl (fun h1=>?_) (fun h1=>?_)
 ·
  exact yev
 ·
  refine stp23 ?_;refine zj 34 rfl (fun h2=>?_) (fun h2=>?_)
  ·
   exact qwk
  ·
   refine zl ?_;exact dqz85
theorem rg2:Calls Tryz.prog 12 #[.agg #[.int .i64 2,.bool yes,.bool neg,.slice A xs.length c,.int .u64 ((bits:Nat):Int),.string s,.slice B ni d]] w (RetB w (.bool (PV.good ⟨2,yes,neg,xs,bits,s,ni⟩))):=by
 have _:=hx;have _:=hl;have hs0:s.toList= []→s.size=0:=zik;refine zc Tryz.func12 rfl Tryz.ntmps12 rfl ?_;obtain ⟨HF,LW,XLW,E⟩:=wk0 w;replace HF:=HF.and (Per.nums0 hx);refine zi ?_;intro gb1 w2 Bb1 Eb1 Gb1;obtain ⟨HF,LW,E⟩:=frz HF LW E XLW Bb1 Eb1;refine yhz ?_;refine vr rfl (fun h1=>?_) (fun h1=>?_)
 ·
  exact yev
 ·
  refine jt ?_;refine zj 24 rfl (fun h2=>?_) (fun h2=>?_)
  ·
   refine stp30 ?_;exact zcz
  ·
   refine zz ?_;refine zj 34 rfl (fun h3=>?_) (fun h3=>?_)
   ·
    exact qwk
   ·
    refine zl ?_;refine onx rfl (ycq rfl rfl (zx ?_));refine vr rfl (fun h4=>?_) (fun h4=>?_)
    ·
     exact yev
    ·
     refine og ?_;refine stpdq291 ?_;refine zh rfl en42 rfl (qsq neg c _ A xs hl (HF.on E).here.1.2) E fun w3 E=>(zu ?_);exact zcz
theorem rg3:Calls Tryz.prog 12 #[.agg #[.int .i64 3,.bool yes,.bool neg,.slice A xs.length c,.int .u64 ((bits:Nat):Int),.string s,.slice B ni d]] w (RetB w (.bool (PV.good ⟨3,yes,neg,xs,bits,s,ni⟩))):=by
 have _:=hx;have _:=hl;have hs0:s.toList= []→s.size=0:=zik;refine zc Tryz.func12 rfl Tryz.ntmps12 rfl ?_;obtain ⟨HF,LW,XLW,E⟩:=wk0 w;replace HF:=HF.and (Per.nums0 hx);refine zi ?_;intro gb1 w2 Bb1 Eb1 Gb1;obtain ⟨HF,LW,E⟩:=frz HF LW E XLW Bb1 Eb1;refine yhz ?_;refine vr rfl (fun h1=>?_) (fun h1=>?_)
 ·
  exact yev
 ·
  refine jt ?_;refine zj 24 rfl (fun h2=>?_) (fun h2=>?_)
  ·
   refine stp30 ?_;exact zcz
  ·
   refine og ?_;exact dqz85
theorem rg4:Calls Tryz.prog 12 #[.agg #[.int .i64 4,.bool yes,.bool neg,.slice A xs.length c,.int .u64 ((bits:Nat):Int),.string s,.slice B ni d]] w (RetB w (.bool (PV.good ⟨4,yes,neg,xs,bits,s,ni⟩))):=by
 have _:=hx;have _:=hl;have hs0:s.toList= []→s.size=0:=zik;refine zc Tryz.func12 rfl Tryz.ntmps12 rfl ?_;obtain ⟨HF,LW,XLW,E⟩:=wk0 w;replace HF:=HF.and (Per.nums0 hx);refine zi ?_;intro gb1 w2 Bb1 Eb1 Gb1;obtain ⟨HF,LW,E⟩:=frz HF LW E XLW Bb1 Eb1;refine yhz ?_;refine vr rfl (fun h1=>?_) (fun h1=>?_)
 ·
  exact yev
 ·
  refine jt ?_;refine zj 24 rfl (fun h2=>?_) (fun h2=>?_)
  ·
   refine stp30 ?_;exact zcz
  ·
   refine zz ?_;refine zj 34 rfl (fun h3=>?_) (fun h3=>?_)
   ·
    exact qwk
   ·
    refine stp30 ?_;exact dqz14
theorem rgx (hk:k<0∨4<k):Calls Tryz.prog 12 #[.agg #[.int .i64 k,.bool yes,.bool neg,.slice A xs.length c,.int .u64 ((bits:Nat):Int),.string s,.slice B ni d]] w (RetB w (.bool (PV.good ⟨k,yes,neg,xs,bits,s,ni⟩))):=by
 have _:=hx;have _:=hl;have e:PV.good ⟨k,yes,neg,xs,bits,s,ni⟩=false:=by unfold PV.good;simp only[];rw[if_neg (by omega),if_neg (by omega),if_neg (by omega),if_neg (by omega),if_neg (by omega),Bool.and_false]
 rw[e];refine zc Tryz.func12 rfl Tryz.ntmps12 rfl ?_;obtain ⟨HF,LW,XLW,E⟩:=wk0 w;refine zi ?_;intro gb1 w2 Bb1 Eb1 Gb1;obtain ⟨HF,LW,E⟩:=frz HF LW E XLW Bb1 Eb1;refine zz ?_;by_cases q0:k<0
 ·
  refine zf 6 (.bool true) rfl (by rw[decide_eq_true q0]<;>rfl) (zsk ?_);exact xi
 ·
  refine zf 6 (.bool false) rfl (by rw[decide_eq_false q0]<;>rfl) (zu ?_);refine zf 11 (.bool true) rfl (by rw[decide_eq_true (by omega)]<;>rfl) (og ?_);exact xi
theorem rpgood_any:Calls Tryz.prog 12 #[.agg #[.int .i64 k,.bool yes,.bool neg,.slice A xs.length c,.int .u64 ((bits:Nat):Int),.string s,.slice B ni d]] w (RetB w (.bool (PV.good ⟨k,yes,neg,xs,bits,s,ni⟩))):=by
 by_cases hk:k<0∨4<k
 · exact rgx w k yes neg A B xs c bits ni d s hx hl hk
 · obtain rfl | rfl | rfl | rfl | rfl:k=0∨k=1∨k=2∨k=3∨k=4:=by omega
   · exact rg0 w yes neg A B xs c bits ni d s hx hl
   · exact rg1 w yes neg A B xs c bits ni d s hx hl
   · exact rg2 w yes neg A B xs c bits ni d s hx hl
   · exact rg3 w yes neg A B xs c bits ni d s hx hl
   · exact rg4 w yes neg A B xs c bits ni d s hx hl
end
end Go.Proofs.YtmnmebdmpigddaaGreatDoor
namespace Go.Proofs.YtmnmebdmpigddaaGreatDoor
open Go.RowKit
theorem stpdq310 {P Q:Prop} (k:Q) (h:(Unit→Q)→P:=by
 intro zK;refine zn ?_;refine gr (rs:=[.cell 2 28]) (vs:=[_]) rfl ⟨⟨_,rfl,ycz u28 rfl kt B2e rfl⟩,trivial⟩ ?_;exact zK ()):P:=h fun _=>k
theorem zv {P Q:Prop} (k:Q) (h:(Unit→Q)→P:=by
 intro zK;refine za rfl (zak yvq ?_);exact zK ()):P:=h fun _=>k
attribute [local irreducible] OW RS CW EW
theorem neg_twice {b:Nat} (hb:b<18446744073709551616):yy (qf (yy (qf b)))=yy b:=by
 have e1:isN (qf b)=isN b:=zqx hb;have hb2:=(zfx hb).2.2;by_cases h:isN b=true
 · have e2:isN (qf 9221120237041090560)=true:=by rw[zqx (by decide)];decide
   unfold yy;rw[if_pos (e1.trans h),if_pos e2,if_pos h]
 · have h2:¬isN (qf b)=true:=by rw[e1];exact h
   have h3:¬isN (qf (qf b))=true:=by rw[zqx hb2];exact h2
   unfold yy;rw[if_neg h2,if_neg h3,if_neg h];unfold qf;rw[Nat.xor_assoc,Nat.xor_self,Nat.xor_zero]
theorem zov (w:World) (b:Nat) (hb:b<18446744073709551616):Calls Tryz.prog 27 #[.int .u64 ((b:Nat):Int)] w (RetB w (.agg #[.int .i64 3,.bool false,.bool false,.slice none 0 0,.int .u64 ((yy b:Nat):Int),.string ⟨#[]⟩,.slice none 0 0])):=by
 refine zc Tryz.func27 rfl Tryz.ntmps27 rfl (zm ?_);refine zv ?_;rintro g2 wB B2 E2 G2;refine zl ?_;refine za rfl (zb en65 rfl ((qvz _ b hb).mono ?_));rintro e w1 ⟨rfl,hb⟩;refine ⟨_,rfl,?_⟩;have E3:=E2.trans (Ext.of_below hb No);have B3:=B2.ext (Ext.of_below hb No) (fun h=>h.elim);by_cases hn:isN b=true
 ·
  refine zf 4 (.bool true) rfl (by rw[hn]<;>rfl) (zz ?_);refine za rfl (qn (cs:=#[.int .i64 3,.bool false,.bool false,.slice none 0 0,.int .u64 9221120237041090560,.string ⟨#[]⟩,.slice none 0 0]) yvk yvq rfl rfl (zk (zw kt rfl rfl B3 rfl rfl rfl ?_)));rintro wC B2e E4;refine stpdq310 ?_;exact ⟨by unfold yy;rw[if_pos hn];rfl,((E3.noL w.heap.size).step E4 (fun q hq=>Or.inl (show w.heap.size≤q by have:=zvz hq;omega))).below (fun _ h=>h)⟩
 ·
  have hn':isN b=false:=by cases h9:isN b<;>simp_all
  refine zf 4 (.bool false) rfl (by rw[hn']<;>rfl) (yi ?_);refine za rfl (qn (cs:=#[.int .i64 3,.bool false,.bool false,.slice none 0 0,.int .u64 ((b:Nat):Int),.string ⟨#[]⟩,.slice none 0 0]) yvk yvq rfl rfl (zk (zw kt rfl rfl B3 rfl rfl rfl ?_)));rintro wC B2e E4;refine stpdq310 ?_;exact ⟨by unfold yy;rw[if_neg hn];rfl,((E3.noL w.heap.size).step E4 (fun q hq=>Or.inl (show w.heap.size≤q by have:=zvz hq;omega))).below (fun _ h=>h)⟩
end Go.Proofs.YtmnmebdmpigddaaGreatDoor
namespace Go.Proofs.YtmnmebdmpigddaaGreatDoor
open Go.RowKit
theorem qcq {P Q:Prop} (k:Q) (h:(Unit→Q)→P:=by
 intro zK;refine za rfl (vo (z:=0) rfl rfl (by kernel_rfl) ?_);exact zK ()):P:=h fun _=>k
theorem stpdq276 {P Q:Prop} (k:Q) (h:(Unit→Q)→P:=by
 intro zK;refine za rfl (ow_f2i (z:=((mg (nr (rg a)):Nat):Int)) u25 (by rw[u111];rfl) rfl fz (zl ?_));refine yl ?_;refine stpdq200 ?_;exact zK ()):P:=h fun _=>k
theorem stpdq250 {P Q:Prop} (k:Q) (h:(Unit→Q)→P:=by
 intro zK;refine xn ?_;refine zn ?_;refine zd 14 (.bool false) rfl (by rw[kp,xu hf]<;>rfl) (zx ?_);exact zK ()):P:=h fun _=>k
theorem zwv {P Q:Prop} (k:Q) (h:(Unit→Q)→P:=by
 intro zK;refine za rfl (xq (z:=0) rfl rfl (by kernel_rfl) ?_);exact zK ()):P:=h fun _=>k
theorem yjv {P Q:Prop} (k:Q) (h:(Unit→Q)→P:=by
 intro zK;refine za rfl (jh (z:=0) rfl rfl (by decide) (by kernel_rfl) ?_);exact zK ()):P:=h fun _=>k
theorem qeq {P Q:Prop} (k:Q) (h:(Unit→Q)→P:=by
 intro zK;refine yi ?_;refine zkx ?_;refine vp ?_;refine za rfl (veq rfl rfl (zm ?_));exact zK ()):P:=h fun _=>k
theorem stpdq223 {P Q:Prop} (k:Q) (h:(Unit→Q)→P:=by
 intro zK;refine zf 20 (.bool false) rfl (by rw[decide_eq_false (by omega)]<;>rfl) (zz ?_);refine za rfl (zb en113 rfl ((abs_any _ a ha).mono ?_));exact zK ()):P:=h fun _=>k
theorem stpdq200 {P Q:Prop} (k:Q) (h:(Unit→Q)→P:=by
 intro zK;refine za rfl (zgv (z:=(frE (rg a)-53).tmod 31) rfl rfl (by decide) rfl (yo ?_));refine za rfl (zgv (z:=((k:Nat):Int)) rfl rfl (by decide) (by rw[t1,hk]) (zl ?_));refine za rfl (zgv (z:=((mg (nr (rg a))%2147483647:Nat):Int)) rfl rfl (by decide) (qbk _ 2147483647) (stp ?_));refine za rfl (gq rfl rfl (by omega) (zmx 1 k (by omega)) (zf 41 (.int .u64 ((2^k:Nat):Int)) rfl (by rw[Nat.one_mul,Nat.mod_eq_of_lt (by omega)]<;>rfl) ?_));exact zK ()):P:=h fun _=>k
theorem dqz137 {P:Prop} (h:P:=by
 refine zp ?_;exact ⟨by rw[ynv,if_neg (by rw[hn];decide),h,if_pos hi];rfl,(LW.step E XLW).toBelow⟩):P:=h
theorem dqz51 {P:Prop} (h:P:=by
 refine zf 48 (.int .u64 ((vbz (rg a):Nat):Int)) rfl (by rw[xw rfl rfl,←hpr]<;>rfl) (za rfl (jp Tryz.underlying3 u25 rfl (yx (by omega)) (za rfl (xq rfl rfl (yx (by omega)) (zu ?_)))));exact ⟨by rw[ynv,if_neg (by rw[xu hf];decide),h,if_neg hni];rfl,(LW.step E XLW).toBelow⟩):P:=h
attribute [local irreducible] OW RS CW EW
theorem below_same {w w':World} (h:w=w'):Below w.heap.size w w':=by subst h;exact Below.refl _ _
theorem qkq (x y:Nat) (hx:x<18446744073709551616) (hy:y<18446744073709551616) (w:World) :
 Calls Tryz.prog 114 #[.int .u64 x,.int .u64 y] w fun e w'=>e= .returned (.tuple #[.int .u64 ((x*y/18446744073709551616:Nat):Int),.int .u64 ((x*y%18446744073709551616:Nat):Int)])∧Below w.heap.size w w':=
 (mul64_any x y hx hy w).mono fun _ _ ⟨h1,h2⟩=>⟨h1,below_same h2⟩
theorem tmod31 (x:Int):(x.tmod 31+31).tmod 31=x%31∧ -31<x.tmod 31∧x.tmod 31<31:=by
 rcases Int.lt_or_le x 0 with h | h
 · obtain ⟨y,rfl⟩:∃y:Int,x= -y:=⟨-x,by omega⟩;have e:(-y).tmod 31= -(y%31):=by rw[Int.neg_tmod,Int.tmod_eq_emod_of_nonneg (by omega)]
   rw[e,Int.tmod_eq_emod_of_nonneg (by omega)];omega
 · rw[Int.tmod_eq_emod_of_nonneg h,Int.tmod_eq_emod_of_nonneg (by omega)];omega
def ynv (a:Nat):Int:=if isN a then 0 else (if ng a then -1 else 1)*(if rg a=9218868437227405312 then 314159 else ((vbz (rg a):Nat):Int))
theorem hashM_zero:vbz 0=0:=by decide
theorem hashM_lt (r:Nat):vbz r<2147483647:=Nat.mod_lt _ (by decide)
theorem hash_prog {r:Nat} (hr:r<9223372036854775808) (h0:r≠0):mg (nr r)%2147483647*2^((frE r-53)%31).toNat%2147483647=vbz r:=by
 obtain ⟨h1,_⟩:=yrz hr;have:=hash_norm (a:=r) (by rw[h1];exact h0);rw[h1] at this;rw[←this,fm,h1,Nat.mul_mod,Nat.mod_mod,←Nat.mul_mod]
theorem rh114_1:Gives 114 #[.int .u64 0,.int .u64 512] (.tuple #[.int .u64 0,.int .u64 0]):=by
 intro w;refine zc Tryz.func114 rfl Tryz.ntmps114 rfl ?_;have LW:=erx (No) w;have XLW:=grx (No) w;have E:=erx (No) w;refine qd ?_;refine qck ?_;refine zl ?_;refine yjv ?_;refine zl ?_;refine za rfl (gf (z:=512) rfl rfl (by kernel_rfl) (zl ?_));refine yjv ?_;refine zp ?_;refine zwv ?_;refine zp ?_;refine zwv ?_;refine stp ?_;refine yjv ?_;refine qcq ?_;refine zl ?_;refine qck ?_;refine zl ?_;refine yjv ?_;refine yi ?_;refine zwv ?_;refine qcq ?_;refine zp ?_;refine zwv ?_;refine stp ?_;refine qcq ?_;refine stp ?_;refine yjv ?_;refine qcq ?_;refine zp ?_;refine zwv ?_;refine zx ?_;refine gr (rs:=[.tmp 4,.tmp 5]) (vs:=[.int .u64 0,.int .u64 0]) rfl ⟨rfl,rfl,trivial⟩ ?_;exact xi
theorem rh146_3:Gives 146 #[.int .u64 0,.int .u64 0,.int .u64 2147483647] (.tuple #[.int .u64 0,.int .u64 0]):=by
 intro w;refine zc Tryz.func146 rfl Tryz.ntmps146 rfl ?_;have LW:=erx (No) w;have XLW:=grx (No) w;have E:=erx (No) w;refine stp36 ?_;have OY:∀q9,(Mut (xz [])) q9→q9<(World.drew w).heap.size→(No) q9:=fun k h _=>(Mut.none_) k h;refine qm (No) Mut.none_ [] [] (zcx [Fx.of (.int .u64 0),
  Fx.of (.int .u64 2147483647),
  Fx.of (.int .u64 0),
  Fx.of (.int .u64 0),
  Fx.of (.int .u64 2147483647),
  Fx.of (.int .u64 0),
  Fx.of (.int .u64 0),
  Fx.of (.int .u64 0)]) mixed rfl trivial (fun _ h=>by cases h) ?_ ?_
 · refine ⟨arm,arm,?_,arm,arm,?_,arm,arm,trivial⟩
   · refine qq ?_;intro vs X wq K;exact qax (z:=0) rfl rfl (by decide) (by kernel_rfl) ⟨Below.refl _ _,Left.of rfl⟩
   · refine qq ?_;intro vs X wq K;exact zgv (z:=0) rfl rfl (by decide) (by kernel_rfl) ⟨Below.refl _ _,Left.of rfl⟩
 intro vs w1 LE AO AL AF AA;replace E:=E.drew.trans (LE.mono OY);obtain ⟨_,e6,k6⟩:=AL.2.2.2.2.2.2.1;obtain ⟨_,e7,k7⟩:=AL.2.2.2.2.2.2.2.1;refine ja (τ:=[(0,_),(1,_),(2,_),(6,.int .u64 0),(7,.int .u64 0)]) ⟨rfl,rfl,rfl,congrArg some e6,congrArg some e7,trivial⟩ ?_;clear AL AF AA LE AO OY e6 e7 k6 k7;refine zn ?_;refine gr (rs:=[.tmp 6,.tmp 7]) (vs:=[.int .u64 0,.int .u64 0]) rfl ⟨rfl,rfl,trivial⟩ ?_;exact xi
theorem rh115_3:Gives 115 #[.int .u64 0,.int .u64 0,.int .u64 2147483647] (.int .u64 0):=by
 intro w;refine zc Tryz.func115 rfl Tryz.ntmps115 rfl ?_;have LW:=erx (No) w;have XLW:=grx (No) w;have E:=erx (No) w;refine qd ?_;refine za rfl (zgv (z:=0) rfl rfl (by decide) (by kernel_rfl) (zm ?_));refine zh rfl en146 rfl (rh146_3 _) E fun w1 E=>(jm ?_);refine gr (rs:=[.tmp 6]) (vs:=[.int .u64 0]) rfl ⟨rfl,trivial⟩ ?_;exact xi
theorem hash_zero (w:World) (a:Nat) (ha:a<18446744073709551616) (hf:rg a<9218868437227405312) (h0:rg a=0):Calls Tryz.prog 62 #[.int .u64 ((a:Nat):Int)] w (RetB w (.int .i64 (ynv a))):=by
 have hp:pc a=0:=by unfold pc;split<;>omega
 have hlt:(xf a 0==some .lt)=false:=by rw[zzz (xu hf) (by decide),hp];decide
 have hF:ynv a=0:=by
  have e:(if rg a=9218868437227405312 then 314159 else ((vbz (rg a):Nat):Int))=0:=by rw[if_neg (by omega),h0,hashM_zero];rfl
  rw[ynv,if_neg (by rw[xu hf];decide),e,Int.mul_zero]
 have hr:rg a<18446744073709551616:=by omega
 refine zc Tryz.func62 rfl Tryz.ntmps62 rfl ?_;have LW:=erx (No) w;have XLW:=grx (No) w;have E:=erx (No) w;refine qeq ?_;refine zd 13 (.bool false) rfl (by rw[hlt]<;>rfl) (qd ?_);refine stpdq250 ?_;refine zh rfl en89 rfl (jj _ a ha) E fun w1 E=>(stpdq223 ?_);rintro e w2 ⟨rfl,hb⟩;refine ⟨_,rfl,?_⟩;replace E:=blx E hb;refine zh rfl en90 rfl (Frexp_zero _ (rg a) hr (by rw[rg_rg];exact h0)) E fun w3 E=>(zz ?_);refine zh rfl en92 rfl (Ldexp_zero _ (rg a) hr (by rw[rg_rg];exact h0) 53) E fun w4 E=>(za rfl (ow_f2i (z:=0) u25 (by rw[u111];rfl) rfl (by rw[h0];decide +kernel) (zl ?_)));refine za rfl (jg (z:=(-53)) rfl rfl (by kernel_rfl) (za rfl (zgv (z:=(-22)) rfl rfl (by decide) (by kernel_rfl) (za rfl (vo (z:=9) rfl rfl (by kernel_rfl) (za rfl (zgv (z:=9) rfl rfl (by decide) (by kernel_rfl) (zl ?_))))))));refine za rfl (zgv (z:=0) rfl rfl (by decide) (by kernel_rfl) (stp ?_));refine za rfl (gq (z:=512) rfl rfl (by decide) (by kernel_rfl) (zh rfl en114 rfl (rh114_1 _) E fun w5 E=>(vp ?_)));refine zh rfl en115 rfl (rh115_3 _) E fun w6 E=>(za rfl (jp (z:=0) Tryz.underlying3 u25 rfl (by kernel_rfl) (zwv ?_)));refine zu ?_;exact ⟨by rw[hF];rfl,(LW.step E XLW).toBelow⟩
section
variable (w:World) (a:Nat) (ha:a<18446744073709551616)
include ha
theorem hash_nan (hn:isN a=true):Calls Tryz.prog 62 #[.int .u64 ((a:Nat):Int)] w (RetB w (.int .i64 (ynv a))):=by
 have _:=ha;refine zc Tryz.func62 rfl Tryz.ntmps62 rfl ?_;have LW:=erx (No) w;have XLW:=grx (No) w;have E:=erx (No) w;refine qeq ?_;refine zd 13 (.bool false) rfl (by rw[ford_nan_no hn]<;>rfl) (qd ?_);refine xn ?_;refine zn ?_;refine zd 14 (.bool true) rfl (by rw[kp,hn]<;>rfl) (zz ?_);exact ⟨by rw[ynv,if_pos hn];rfl,(LW.step E XLW).toBelow⟩
theorem hash_inf (hi:rg a=9218868437227405312):Calls Tryz.prog 62 #[.int .u64 ((a:Nat):Int)] w (RetB w (.int .i64 (ynv a))):=by
 have hn:isN a=false:=decide_eq_false (by omega);refine zc Tryz.func62 rfl Tryz.ntmps62 rfl ?_;have LW:=erx (No) w;have XLW:=grx (No) w;have E:=erx (No) w;refine qeq ?_;refine zd 13 (.bool (ng a)) rfl (by rw[ford_neg hn (by omega)]<;>rfl) (zg rfl (fun h=>?_) (fun h=>?_))
 ·
  refine zz ?_;refine xn ?_;refine zn ?_;refine zd 14 (.bool false) rfl (by rw[kp,hn]<;>rfl) (zx ?_);refine zh rfl en89 rfl (jj _ a ha) E fun w1 E=>(zf 20 (.bool true) rfl (by rw[decide_eq_true hi]<;>rfl) (zp ?_));refine za rfl (xq (z:=(-314159)) rfl rfl (by kernel_rfl) ?_);exact dqz137
 ·
  refine yi ?_;refine xn ?_;refine zn ?_;refine zd 14 (.bool false) rfl (by rw[kp,hn]<;>rfl) (zx ?_);refine zh rfl en89 rfl (jj _ a ha) E fun w2 E=>(zf 20 (.bool true) rfl (by rw[decide_eq_true hi]<;>rfl) (zp ?_));refine za rfl (xq (z:=314159) rfl rfl (by kernel_rfl) ?_);exact dqz137
section
variable (hf:rg a<9218868437227405312)
include hf
section
variable (h0:rg a≠0)
include h0
theorem hash_num:Calls Tryz.prog 62 #[.int .u64 ((a:Nat):Int)] w (RetB w (.int .i64 (ynv a))):=by
 have hr:rg a<18446744073709551616:=by omega
 obtain ⟨f1,f2,f3⟩:=frF_parts hf h0;have f0:=(yrz (r:=frF (rg a)) (by omega)).1;have f00:=(yrz (r:=frF (rg a)) (by omega)).2;obtain ⟨fq1,fq2⟩:=fullQ (r:=rg a) h0;have fq3:vl (1074*4503599627370496+mg (nr (rg a)))=vl (frF (rg a))*2^53:=by rewrite [fq1,f3];exact qtz (p:=1074) (q:=1021) (s:=53) (by decide) _
 have hmg:=(mg_nr h0).2;have fw:=jk (ng (frF (rg a))) (1074*4503599627370496+mg (nr (rg a))) (by omega);have fz:floatToIntVal .f64 (Ieee.double.word (ng (frF (rg a))) (1074*4503599627370496+mg (nr (rg a)))) .u64=some ((mg (nr (rg a)):Nat):Int):=by
  have h1:=yiv (ng (frF (rg a))) fq2 fq1;have h2:=f2i_u64 (a:=Ieee.double.word (ng (frF (rg a))) (1074*4503599627370496+mg (nr (rg a)))) (by rw[fw.1];exact fq2) (by rw[fw.2.1];exact f00) (by rw[h1];omega);rw[h1] at h2;exact h2
 obtain ⟨b1,b2⟩:=frE_bound hf;obtain ⟨t1,t2,t3⟩:=tmod31 (frE (rg a)-53);obtain ⟨k,hk⟩:∃k:Nat,(frE (rg a)-53)%31=(k:Int):=⟨((frE (rg a)-53)%31).toNat,by omega⟩;have hk31:k<31:=by omega
 have hpr:=hash_prog (r:=rg a) (rg_lt a) h0;have hkt:((frE (rg a)-53)%31).toNat=k:=by omega
 rw[hkt] at hpr;have hp2:2^k≤1073741824:=(Nat.pow_le_pow_right (by decide) (show k≤30 by omega):2^k≤2^30);have hprod:mg (nr (rg a))%2147483647*2^k≤2147483647*1073741824:=Nat.mul_le_mul (Nat.le_of_lt (Nat.mod_lt _ (by decide))) hp2;have hml:=hashM_lt (rg a);have hni:¬rg a=9218868437227405312:=by omega
 refine zc Tryz.func62 rfl Tryz.ntmps62 rfl ?_;have LW:=erx (No) w;have XLW:=grx (No) w;have E:=erx (No) w;refine qeq ?_;refine zd 13 (.bool (ng a)) rfl (by rw[ford_neg (xu hf) h0]<;>rfl) (zg rfl (fun h=>?_) (fun h=>?_))
 ·
  refine zz ?_;refine stpdq250 ?_;refine zh rfl en89 rfl (jj _ a ha) E fun w1 E=>(stpdq223 ?_);rintro e w2 ⟨rfl,hb⟩;refine ⟨_,rfl,?_⟩;replace E:=blx E hb;refine zh rfl en90 rfl (qxv _ (rg a) hr (by rw[rg_rg];exact h0) (by rw[rg_rg];exact hf)) E fun w3 E=>(zz ?_);refine zh rfl en92 rfl (qxk _ (frF (rg a)) (by omega) (by rw[f0];exact f2) (by rw[f0];exact f1) 53 (1074*4503599627370496+mg (nr (rg a))) (by decide) fq2 (by rw[f0];exact fq3)) E fun w4 E=>(stpdq276 ?_);refine zh rfl en114 rfl (qkq (mg (nr (rg a))%2147483647) (2^k) (by omega) (by omega) _) E fun w5 E=>(vp ?_);refine zh rfl en115 rfl (qsk _ (mg (nr (rg a))%2147483647*2^k/18446744073709551616) (mg (nr (rg a))%2147483647*2^k%18446744073709551616) (by omega) (Nat.mod_lt _ (by decide))) E fun w6 E=>?_;exact dqz51
 ·
  refine yi ?_;refine stpdq250 ?_;refine zh rfl en89 rfl (jj _ a ha) E fun w7 E=>(stpdq223 ?_);rintro e w8 ⟨rfl,hb⟩;refine ⟨_,rfl,?_⟩;replace E:=blx E hb;refine zh rfl en90 rfl (qxv _ (rg a) hr (by rw[rg_rg];exact h0) (by rw[rg_rg];exact hf)) E fun w9 E=>(zz ?_);refine zh rfl en92 rfl (qxk _ (frF (rg a)) (by omega) (by rw[f0];exact f2) (by rw[f0];exact f1) 53 (1074*4503599627370496+mg (nr (rg a))) (by decide) fq2 (by rw[f0];exact fq3)) E fun w10 E=>(stpdq276 ?_);refine zh rfl en114 rfl (qkq (mg (nr (rg a))%2147483647) (2^k) (by omega) (by omega) _) E fun w11 E=>(vp ?_);refine zh rfl en115 rfl (qsk _ (mg (nr (rg a))%2147483647*2^k/18446744073709551616) (mg (nr (rg a))%2147483647*2^k%18446744073709551616) (by omega) (Nat.mod_lt _ (by decide))) E fun w12 E=>?_;exact dqz51
end
end
theorem hash_any:Calls Tryz.prog 62 #[.int .u64 ((a:Nat):Int)] w (RetB w (.int .i64 (ynv a))):=by
 cases hn:isN a with
 | true=>exact hash_nan w a ha hn
 | false=>
  have h1:=of_decide_eq_false hn;by_cases hi:rg a=9218868437227405312
  · exact hash_inf w a ha hi
  · by_cases h0:rg a=0
    · exact hash_zero w a ha (by omega) h0
    · exact hash_num w a ha (by omega) h0
end
end Go.Proofs.YtmnmebdmpigddaaGreatDoor
namespace Go.Proofs.YtmnmebdmpigddaaGreatDoor
open Go.RowKit
theorem zjz {P Q:Prop} (k:Q) (h:(Unit→Q)→P:=by
 intro zK;refine za rfl (ow_neg rfl (yx (by omega)) ?_);exact zK ()):P:=h fun _=>k
attribute [local irreducible] OW RS CW EW
theorem lim_posR {j:Int} (h0:j≠0):0<(limbs j).length:=by rw[qo];exact zfv qj (by omega)
theorem val_dropL {b:Nat} (L:List Nat) (j:Nat) (h:j<L.length):val b (L.drop j)=L.getD j 0+b*val b (L.drop (j+1)):=by
 rw[List.drop_eq_getElem_cons h,val,List.getD_eq_getElem?_getD,List.getElem?_eq_getElem h,Option.getD_some]
def upM (b:Nat) (L:List Nat) (k:Nat):Nat:=val b (L.drop (L.length-k))%2147483647
theorem upM_zero (b:Nat) (L:List Nat):upM b L 0=0:=by rw[upM,Nat.sub_zero,List.drop_length];rfl
theorem upM_lt (b:Nat) (L:List Nat) (k:Nat):upM b L k<2147483647:=Nat.mod_lt _ (by decide)
theorem upM_succ {b:Nat} {L:List Nat} {k:Nat} (h:k<L.length):upM b L (k+1)=(upM b L k*b+L.getD (L.length-1-k) 0)%2147483647:=by
 have key:∀V l:Nat,(V%2147483647*b+l)%2147483647=(V*b+l)%2147483647:=fun V l=>by rw[←Nat.mod_add_mod,Nat.mod_mul_mod,Nat.mod_add_mod]
 unfold upM;rw[val_dropL L (L.length-(k+1)) (by omega),show L.length-(k+1)+1=L.length-k by omega,show L.length-(k+1)=L.length-1-k by omega,Nat.add_comm,Nat.mul_comm b];exact (key _ _).symm
theorem upM_limbs (i:Int):upM B18 (limbs i) (limbs i).length=i.natAbs%2147483647:=by rw[upM,Nat.sub_self,List.drop_zero,qo,gz qj]
def hashI (i:Int):Int:=if i<0 then 0-((i.natAbs%2147483647:Nat):Int) else ((i.natAbs%2147483647:Nat):Int)
theorem ex_add64:Ext_ Tryz.prog 116 add64Entry:=⟨_,Tryz.func116,by kernel_rfl,by kernel_rfl,by kernel_rfl,by kernel_rfl⟩
theorem run_add64N (x y:Nat) (w:World):(add64Entry #[.int .u64 ((x:Nat):Int),.int .u64 ((y:Nat):Int),.int .u64 0]).run Tryz.prog w =
 .ok (.tuple #[.int .u64 (((x+y)%18446744073709551616:Nat):Int),.int .u64 (((x+y)/18446744073709551616:Nat):Int)]) w:=by
 rw[run_add64 _ _ 0 (by omega) (by omega) (by omega) (by omega),Int.add_zero,←Int.natCast_add];rfl
theorem hash_round {h l hi lo c s:Nat} (h1:hi*18446744073709551616+lo=h*B18) (h2:c*18446744073709551616+s=lo+l):((hi+c)*18446744073709551616+s)%2147483647=(h*B18+l)%2147483647:=by
 have e:(hi+c)*18446744073709551616+s=h*B18+l:=by rw[Nat.add_mul,Nat.add_assoc,h2,←Nat.add_assoc,h1]
 rw[e]
section
variable (i:Int) (A:Option Addr) (c:Nat) (w:World) (hi:i.natAbs<B18^30) (hx:Nums w A (limbs i))
include hi hx
theorem hashbig_zero (h0:i=0):Calls Tryz.prog 63 #[.agg #[.bool (decide (i<0)),.slice A (limbs i).length c]] w (RetB w (.int .i64 (hashI i))):=by
 have hl:((limbs i).length:Int)=0:=by rw[h0,vi];rfl
 refine zc Tryz.func63 rfl Tryz.ntmps63 rfl ?_;obtain ⟨HF,LW,XLW,E⟩:=wk0 w;replace HF:=HF.and (Per.nums0 hx);refine zi ?_;intro gb1 w2 Bb1 Eb1 Gb1;obtain ⟨HF,LW,E⟩:=frz HF LW E XLW Bb1 Eb1;refine zp ?_;refine zh rfl yoq rfl (yhv A c _ hi (HF.on E).here.1.2) E fun w3 E=>(zxz ?_);refine yl ?_;refine zx ?_;refine zbk (zp ?_);refine zd 16 (.bool false) rfl (by rw[hl];rfl) (jt ?_);refine zd 40 (.bool false) rfl (by rw[h0];rfl) (zl ?_);refine za rfl (jp (z:=0) Tryz.underlying3 u25 rfl (by kernel_rfl) (zu ?_));exact ⟨by rw[h0];rfl,(LW.step E XLW).toBelow⟩
theorem hashbig_num (h0:i≠0):Calls Tryz.prog 63 #[.agg #[.bool (decide (i<0)),.slice A (limbs i).length c]] w (RetB w (.int .i64 (hashI i))):=by
 have hl2:=ve hi;obtain ⟨bx,ox,rfl,hbx,hcx⟩:=hx.2 (lim_posR h0);have hsm:=ynk i;refine zc Tryz.func63 rfl Tryz.ntmps63 rfl ?_;obtain ⟨HF,LW,XLW,E⟩:=wk0 w;replace HF:=HF.and (Per.nums0 hx);refine zi ?_;intro gb1 w2 Bb1 Eb1 Gb1;obtain ⟨HF,LW,E⟩:=frz HF LW E XLW Bb1 Eb1;refine zp ?_;refine zh rfl yoq rfl (yhv (some ⟨bx,ox,none⟩) c _ hi (HF.on E).here.1.2) E fun w3 E=>(zxz ?_);refine yl ?_;refine zx ?_;replace HF:=HF.on E;replace LW:=LW.step E XLW;replace E:=erx (No) w3;refine yw (ι:=Nat) (fun k=>[(1,.pointer (some ⟨gb1,0,none⟩)),(3,.int .u64 ((upM B18 (limbs i) k:Nat):Int)),(4,.int .i64 (((limbs i).length:Int)-1-((k:Nat):Int)))]) (fun k w'=>Ext (No) w3 w'∧(k≤(limbs i).length)) (fun k=>(limbs i).length-k) 0 ⟨rfl,congrArg (fun z:Nat=>some (Value.int .u64 (z:Int))) (upM_zero _ _).symm,congrArg (fun z:Int=>some (Value.int .i64 z)) (by omega),trivial⟩ ⟨Ext.refl _ _,Nat.zero_le _⟩ ?_;rintro k w5 ⟨M4,hk⟩;have XM4:=grx (No) w3;replace E:=E.trans M4;replace HF:=HF.on E;replace LW:=LW.step E XLW;replace E:=erx (No) w5;refine zp ?_;refine zd 16 (.bool (decide (k<(limbs i).length))) rfl (kb (by omega)) ?_;have hup:=upM_lt B18 (limbs i) k;refine zg rfl (fun hl=>?_) (fun hl=>?_)
 ·
  have hl:=of_decide_eq_true hl;obtain ⟨h,hh⟩:∃h,h=upM B18 (limbs i) k:=⟨_,rfl⟩;obtain ⟨l,hll⟩:∃l,l=(limbs i).getD ((limbs i).length-1-k) 0:=⟨_,rfl⟩;have hlb:l<1000000000000000000:=by rw[hll];exact yzx (by decide) hsm _
  have hnx:upM B18 (limbs i) (k+1)=(h*B18+l)%2147483647:=by rw[upM_succ hl,←hh,←hll]
  rw[←hh] at hup;refine zd 3 (.int .u64 ((h:Nat):Int)) rfl (by rw[hh]<;>rfl) ?_;obtain ⟨p,hp⟩:∃p,p=h*1000000000000000000/18446744073709551616:=⟨_,rfl⟩;obtain ⟨q,hq⟩:∃q,q=h*1000000000000000000%18446744073709551616:=⟨_,rfl⟩;have hpq:p*18446744073709551616+q=h*B18:=xw hp hq;have hpb:p<2147483647:=by rw[hp];exact Nat.div_lt_of_lt_mul (Nat.lt_of_lt_of_le (Nat.mul_lt_mul_of_pos_right hup (by decide)) (by decide))
  have hqb:q<18446744073709551616:=zbz (by decide) hq;obtain ⟨t,ht⟩:∃t,t=(q+l)/18446744073709551616:=⟨_,rfl⟩;obtain ⟨s,hs⟩:∃s,s=(q+l)%18446744073709551616:=⟨_,rfl⟩;have hts:t*18446744073709551616+s=q+l:=xw ht hs;have hsb:s<18446744073709551616:=zbz (by decide) hs;have htb:t<2:=by rw[ht];exact Nat.div_lt_of_lt_mul (by omega)
  refine zp ?_;refine zh rfl en114 rfl (qkq h 1000000000000000000 (by omega) (by decide) _) E fun w6 E=>(zf 21 (.tuple #[.int .u64 ((p:Nat):Int),.int .u64 ((q:Nat):Int)]) rfl (by rw[hp,hq]<;>rfl) (jt ?_));refine za rfl (kd (j:=(limbs i).length-1-k) u22 sz25 rfl rfl (by omega) (by omega) ?_);obtain ⟨b9,o9,hA9,_,hc9⟩:=((HF.on E).here.1.2).2 (lim_posR h0);obtain ⟨rfl,rfl⟩:b9=bx∧o9=ox:=by simpa using hA9.symm
  refine za rfl (vq u25 rfl rfl (hc9 ((limbs i).length-1-k) (by omega)) (zf 30 (.int .u64 ((l:Nat):Int)) rfl (by rw[nth_nat,hll]<;>rfl) (za rfl (ow_ext (args:=[.int .u64 ((q:Nat):Int),.int .u64 ((l:Nat):Int),.int .u64 0]) ex_add64 rfl (run_add64N q l _) (zf 31 (.tuple #[.int .u64 ((s:Nat):Int),.int .u64 ((t:Nat):Int)]) rfl (by rw[hs,ht]<;>rfl) (zz ?_))))));refine kl ?_;refine stp ?_;refine zf 36 (.int .u64 ((p+t:Nat):Int)) rfl (by rw[Int.natCast_add]<;>rfl) (zh rfl en115 rfl (qsk _ (p+t) s (by omega) hsb) E fun w7 E=>(zf 38 (.int .u64 ((upM B18 (limbs i) (k+1):Nat):Int)) rfl (by rw[hash_round hpq hts,←hnx]<;>rfl) (zl ?_)));refine yl ?_;refine zm ?_;exact zo (k+1) (by omega) ⟨rfl,rfl,congrArg (fun z:Int=>some (Value.int .i64 z)) (by omega),trivial⟩ ⟨M4.step E XM4,by omega⟩
 ·
  have hl:=of_decide_eq_false hl;have hke:k=(limbs i).length:=by omega
  have hend:upM B18 (limbs i) k=i.natAbs%2147483647:=by rw[hke,upM_limbs]
  refine zd 3 (.int .u64 ((i.natAbs%2147483647:Nat):Int)) rfl (by rw[hend]<;>rfl) (vp ?_);refine zg rfl (fun hn=>?_) (fun hn=>?_)
  ·
   refine zn ?_;refine zdz ?_;refine zjz ?_;refine zl ?_;exact ⟨by rw[hashI,if_pos (of_decide_eq_true hn)];rfl,(LW.step E XLW).toBelow⟩
  ·
   refine zu ?_;refine zdz ?_;refine zu ?_;exact ⟨by rw[hashI,if_neg (of_decide_eq_false hn)];rfl,(LW.step E XLW).toBelow⟩
theorem hashbigI:Calls Tryz.prog 63 #[.agg #[.bool (decide (i<0)),.slice A (limbs i).length c]] w (RetB w (.int .i64 (hashI i))):=by
 by_cases h0:i=0
 · exact hashbig_zero i A c w hi hx h0
 · exact hashbig_num i A c w hi hx h0
/-! ### the document's -/
end
/-! ### numbers that are not in form -/
section
variable (n1:Bool) (A:Option Addr) (c:Nat) (xs:List Nat) (w:World) (hx:Nums w A xs) (hl:xs.length≤9223372036854775807) (hg:zr n1 xs=false)
include hx hl hg
theorem hashbig_bad:Calls Tryz.prog 63 #[.agg #[.bool n1,.slice A xs.length c]] w (RetB w (.int .i64 0)):=by
 refine zc Tryz.func63 rfl Tryz.ntmps63 rfl ?_;obtain ⟨HF,LW,XLW,E⟩:=wk0 w;replace HF:=HF.and (Per.nums0 hx);refine zi ?_;intro gb1 w2 Bb1 Eb1 Gb1;obtain ⟨HF,LW,E⟩:=frz HF LW E XLW Bb1 Eb1;refine zp ?_;refine zh rfl yoq rfl (yr n1 c _ A xs hl (HF.on E).here.1.2) E fun w3 E=>(zf 9 (.bool false) rfl (by rw[hg]<;>rfl) (vp ?_));exact xi
end
noncomputable def hashO (n1:Bool) (xs:List Nat):Int:=if zr n1 xs then hashI (num n1 xs) else 0
section
variable (n1:Bool) (A:Option Addr) (c:Nat) (xs:List Nat) (w:World) (hx:Nums w A xs) (hl:xs.length≤9223372036854775807)
include hx hl
theorem hashbig_any:Calls Tryz.prog 63 #[.agg #[.bool n1,.slice A xs.length c]] w (RetB w (.int .i64 (hashO n1 xs))):=by
 cases hg:zr n1 xs with
 | false=>
  rw[hashO,if_neg (by rw[hg];decide)];exact hashbig_bad n1 A c xs w hx hl hg
 | true=>
  rw[hashO,if_pos hg];obtain ⟨i,rfl,rfl,hi⟩:=qlz hg;rw[ji];exact hashbigI i A c w hi hx
end
end Go.Proofs.YtmnmebdmpigddaaGreatDoor
namespace Go.Proofs.YtmnmebdmpigddaaGreatDoor
open Go.RowKit
theorem dqz50 {P:Prop} (h:P:=by
 have LW:=erx (No) w;have XLW:=grx (No) w;have E:=erx (No) w;refine yu ?_;refine zg rfl (fun h=>?_) (fun h=>?_)
 ·
  refine yi ?_;exact ⟨by rw[h];rfl,(LW.step E XLW).toBelow⟩
 ·
  refine qd ?_;exact ⟨by rw[h];rfl,(LW.step E XLW).toBelow⟩):P:=h
theorem yix {P:Prop} (h:P:=by
 rintro e w2 ⟨rfl,hb⟩;exact ⟨_,rfl,hb,Left.of rfl⟩):P:=h
attribute [local irreducible] OW RS CW EW
def ywq (j:Nat):Nat:=(Go.Pinned.pow10Rows.getD j (0,0)).1
def ywz (j:Nat):Nat:=(Go.Pinned.pow10Rows.getD j (0,0)).2
theorem tab_all:Go.Pinned.pow10Rows.all (fun x=>Nat.blt x.1 18446744073709551616&&Nat.blt x.2 18446744073709551616)=true:=by kernel_rfl
theorem tab_length:Go.Pinned.pow10Rows.length=696:=by kernel_rfl
theorem tab_row {j:Nat} (hj:j<696):Go.Pinned.pow10Rows[j]? =some (ywq j,ywz j)∧ywq j<18446744073709551616∧ywz j<18446744073709551616:=by
 have hl:j<Go.Pinned.pow10Rows.length:=by rw[tab_length];exact hj
 have h:=List.all_eq_true.1 tab_all _ (List.getElem_mem hl);rw[Bool.and_eq_true] at h;have e:Go.Pinned.pow10Rows[j]? =some Go.Pinned.pow10Rows[j]:=List.getElem?_eq_getElem hl;have e1:Go.Pinned.pow10Rows.getD j (0,0)=Go.Pinned.pow10Rows[j]:=by rw[List.getD_eq_getElem?_getD,e];rfl
 unfold ywq ywz;rw[e1,e];exact ⟨rfl,Nat.le_of_ble_eq_true h.1,Nat.le_of_ble_eq_true h.2⟩
def PowT (w:World):Prop:=∀j,j<696→w.cell? ⟨13,j*2,none⟩=some (.int .u64 ((ywq j:Nat):Int))∧w.cell? ⟨13,j*2+1,none⟩=some (.int .u64 ((ywz j:Nat):Int))
theorem PowT.lt {w:World} (h:PowT w):13<w.heap.size:=World.block_lt_of_cell? w _ (h 0 (by decide)).1
theorem Per.powT {X:Nat→Prop} {w:World} (h:PowT w) (hx:¬X 13):Per X w PowT:=fun b hb j hj=>
 ⟨(hb.cell (p:=⟨13,j*2,none⟩) h.lt hx).trans (h j hj).1,(hb.cell (p:=⟨13,j*2+1,none⟩) h.lt hx).trans (h j hj).2⟩
section
variable (w:World)
theorem prescale_any (gpre:Nat) (c0 c1 c2:Value) (e lp:Int) (j:Nat) (hj:j<696) (hB:Blk w gpre 257 #[c0,c1,c2]) (hT:PowT w) (hne:gpre≠13) (he:-10000≤e∧e≤10000) (hlp:-10000≤lp∧lp≤10000) :
 Calls Tryz.prog 253 #[.pointer (some ⟨gpre,0,none⟩),.int .i64 e,.int .i64 (((j:Nat):Int)-348),.int .i64 lp] w fun en w'=>en= .returned (.tuple #[])∧Blk w' gpre 257 #[.int .u64 ((ywq j:Nat):Int),.int .u64 ((ywz j:Nat):Int),.int .i64 (0-(e+lp+3))]∧Ext (Mut [some gpre]) w w':=by
 refine zc Tryz.func253 rfl Tryz.ntmps253 rfl ?_;have Bpre:=hB;have HF:Per (Mut [(some gpre)]) w (fun _=>True):=Per.true_;have LW:=erx (Mut [(some gpre)]) w;have XLW:=grx (Mut [(some gpre)]) w;have E:=erx (Mut [(some gpre)]) w;obtain ⟨HF,LW,E⟩:=fra HF LW E XLW (Per.powT hT (fun h=>h.elim (fun e=>hne (Option.some.inj e).symm) (fun e=>e.elim)));refine zx ?_;refine yl ?_;refine za rfl (ziq (j:=j) Tryz.underlying277 sz276 rfl rfl (by omega) hj (stp ?_));refine za rfl (vq u25 rfl rfl (by rw[Nat.zero_add];exact ((HF.on E).here.2 j hj).1) (zm ?_));refine zk (yb sz25 rfl rfl Bpre rfl rfl (Nat.le_of_ble_eq_true rfl) ?_);intro w1 Bx Epre;replace Bpre:=Bx;replace E:=E.step1 Epre Mut.head;clear Epre;refine zl ?_;refine yl ?_;refine za rfl (ziq (j:=j) Tryz.underlying277 sz276 rfl rfl (by omega) hj (stp ?_));refine za rfl (vq u25 rfl rfl (by rw[Nat.zero_add];exact ((HF.on E).here.2 j hj).2) (zm ?_));refine zk (yb sz25 rfl rfl Bpre rfl rfl (Nat.le_of_ble_eq_true rfl) ?_);intro w2 Bx Epre;replace Bpre:=Bx;replace E:=E.step1 Epre Mut.head;clear Epre;refine zl ?_;refine yo ?_;refine yo ?_;refine zjz ?_;refine zm ?_;refine zk (yb sz3 rfl rfl Bpre rfl rfl (Nat.le_of_ble_eq_true rfl) ?_);intro w3 Bx Epre;replace Bpre:=Bx;replace E:=E.step1 Epre Mut.head;clear Epre;obtain ⟨HF,LW,XLW,E⟩:=frg HF LW E XLW (Y:=No) (Mut.skip Mut.nil_) (Per.blkN Bpre NotIn.nil);clear Bpre;refine stp ?_;refine yeq rfl ?_;exact ⟨rfl,by first | exact (HF.on E).here.2 | exact Bpre,(LW.step E XLW)⟩
end
/-! ### uscale -/
theorem sub_modM {M x y:Nat} (hM:0<M) (hy:y≤M):((x:Int)-(y:Int))%(M:Int)=(((x+M-y)%M:Nat):Int):=by
 refine qzz (Nat.mod_lt _ hM) ?_;rw[Nat.mod_add_mod,Nat.sub_add_cancel (by omega),Nat.add_mod_right]
theorem sub_wrap {x y:Nat} (hy:y≤18446744073709551616):IntKind.u64.wrap (((x:Nat):Int)-((y:Nat):Int))=(((x+18446744073709551616-y)%18446744073709551616:Nat):Int):=by
 rw[IntKind.wrap_u64];exact sub_modM (by decide) hy
theorem and_63 {s:Nat} (h:s<64):IntKind.i64.wrap (BitVec.ofInt IntKind.i64.bits ((s:Nat):Int) &&& BitVec.ofInt IntKind.i64.bits 63).toNat=((s:Nat):Int):=by
 have key:∀s:Fin 64,IntKind.i64.wrap (BitVec.ofInt IntKind.i64.bits (s.val:Int) &&& BitVec.ofInt IntKind.i64.bits 63).toNat=(s.val:Int):=by decide +kernel
 exact key ⟨s,h⟩
theorem bne_nat (m n:Nat):(((m:Nat):Int) !=((n:Nat):Int))=decide (m≠n):=by
 by_cases h:m=n
 · subst h;simp
 · rw[decide_eq_true h];exact bne_iff_ne.2 (by omega)
def b2n (b:Bool):Nat:=if b then 1 else 0
theorem b2n_le (b:Bool):b2n b≤1:=by cases b<;>decide
section
variable (w:World)
theorem bool2u (b:Bool):Calls Tryz.prog 224 #[.bool b] w (RetB w (.int .u64 ((b2n b:Nat):Int))):=by
 refine zc Tryz.func224 rfl Tryz.ntmps224 rfl ?_;exact dqz50
theorem bool2i (b:Bool):Calls Tryz.prog 229 #[.bool b] w (RetB w (.int .i64 ((b2n b:Nat):Int))):=by
 refine zc Tryz.func229 rfl Tryz.ntmps229 rfl ?_;exact dqz50
def uHi (x hi:Nat):Nat:=x*hi/18446744073709551616
def uMid (x hi:Nat):Nat:=x*hi%18446744073709551616
def uSub (x hi lo:Nat):Nat:=(uHi x hi+18446744073709551616-b2n (decide (uMid x hi<uHi x lo)))%18446744073709551616
def uLow (x hi lo:Nat):Nat:=(uMid x hi+18446744073709551616-uHi x lo)%18446744073709551616
def uscF (x hi lo s:Nat):Nat:=
 if uHi x hi/2^s*2^s%18446744073709551616≠uHi x hi then uHi x hi/2^s ||| 1
 else uSub x hi lo/2^s ||| b2n (decide (1<uLow x hi lo))
theorem uHi_lt {x hi:Nat} (hx:x<18446744073709551616) (hh:hi<18446744073709551616):uHi x hi<18446744073709551616:=
 Nat.div_lt_of_lt_mul (Nat.lt_of_le_of_lt (Nat.mul_le_mul_left x (Nat.le_of_lt hh)) (Nat.mul_lt_mul_of_pos_right hx (by decide)))
theorem uscale_any (gp x hi lo s:Nat) (hx:x<18446744073709551616) (hh:hi<18446744073709551616) (hl:lo<18446744073709551616) (hs:s<64) (hB:Blk w gp 257 #[.int .u64 ((hi:Nat):Int),.int .u64 ((lo:Nat):Int),.int .i64 ((s:Nat):Int)]) :
 Calls Tryz.prog 254 #[.int .u64 ((x:Nat):Int),.pointer (some ⟨gp,0,none⟩)] w (RetB w (.int .u64 ((uscF x hi lo s:Nat):Int))):=by
 have h1:=uHi_lt hx hh;have h2:=uHi_lt hx hl;have h3:uMid x hi<18446744073709551616:=Nat.mod_lt _ (by decide);have h4:uSub x hi lo<18446744073709551616:=Nat.mod_lt _ (by decide);have hd:∀m,m/2^s≤m:=fun m=>Nat.div_le_self _ _;refine zc Tryz.func254 rfl Tryz.ntmps254 rfl ?_;obtain ⟨HF,LW,XLW,E⟩:=wk0 w;replace HF:=HF.and (Per.blk hB (fun h=>h.elim));refine vp ?_;refine zh rfl en114 rfl (qkq x hi hx hh _) E fun w1 E=>(zf 16 (.tuple #[.int .u64 ((uHi x hi:Nat):Int),.int .u64 ((uMid x hi:Nat):Int)]) rfl (by rw[uHi,uMid]<;>rfl) (jt ?_));refine za rfl (gf rfl rfl (and_63 hs) (yi ?_));refine za rfl (jh rfl rfl (by omega) (xj _ s hs) (stp ?_));refine za rfl (gq rfl rfl (by omega) (zmx _ s hs) (zx ?_));refine zd 30 (.bool (decide (uHi x hi/2^s*2^s%18446744073709551616≠uHi x hi))) rfl (by rw[bne_nat]<;>rfl) (zg rfl (fun hc=>?_) (fun hc=>?_))
 ·
  have hc:=of_decide_eq_true hc;refine zx ?_;refine za rfl (jh rfl rfl (by omega) (xj _ s hs) (za rfl (zaz rfl rfl (kg (n:=1) (Nat.lt_of_le_of_lt (hd _) h1) (by decide)) (zl ?_))));exact ⟨by rw[uscF,if_pos hc];rfl,(LW.step E XLW).toBelow⟩
 ·
  have hc:=of_decide_eq_false hc;refine qd ?_;refine zh rfl en114 rfl (qkq x lo hx hl _) E fun w2 E=>(zf 41 (.tuple #[.int .u64 ((uHi x lo:Nat):Int),.int .u64 ((x*lo%18446744073709551616:Nat):Int)]) rfl (by rw[uHi]<;>rfl) (jt ?_));refine zf 47 (.bool (decide (uMid x hi<uHi x lo))) rfl (kb (by omega)) (zh rfl en224 rfl (bool2u _ (decide (uMid x hi<uHi x lo))) E fun w3 E=>(za rfl (jg rfl rfl (sub_wrap (Nat.le_trans (b2n_le _) (by decide))) (zf 49 (.int .u64 ((uSub x hi lo:Nat):Int)) rfl (by rw[uSub]<;>rfl) (zx ?_)))));have OY:∀q9,(Mut (xz [])) q9→q9<(World.drew w3).heap.size→(No) q9:=fun k h _=>(Mut.none_) k h;refine qm (No) Mut.none_ [] [] (zcx [Fx.of (.int .u64 ((uSub x hi lo:Nat):Int)),
   Fx.of (.int .i64 ((s:Nat):Int)),
   Fx.of (.int .u64 ((uSub x hi lo/2^s:Nat):Int)),
   Fx.of (.int .u64 ((uMid x hi:Nat):Int)),
   Fx.of (.int .u64 ((uHi x lo:Nat):Int)),
   Fx.of (.int .u64 ((uLow x hi lo:Nat):Int)),
   Fx.of (.bool (decide (1<uLow x hi lo))),
   Fx.of (.int .u64 ((b2n (decide (1<uLow x hi lo)):Nat):Int)),
   Fx.of (.int .u64 ((uSub x hi lo/2^s ||| b2n (decide (1<uLow x hi lo)):Nat):Int)),
   Fx.of (.int .u64 ((uSub x hi lo/2^s ||| b2n (decide (1<uLow x hi lo)):Nat):Int))]) mixed rfl trivial (fun _ h=>by cases h) ?_ ?_
  · refine ⟨arm,arm,?_,arm,arm,?_,?_,?_,?_,arm,trivial⟩
    · refine qq ?_;intro vs X wq K;exact jh rfl rfl (by omega) (xj _ s hs) ⟨Below.refl _ _,Left.of rfl⟩
    · refine qq ?_;intro vs X wq K;exact jg rfl rfl (sub_wrap (Nat.le_of_lt h2)) ⟨Below.refl _ _,Left.of rfl⟩
    · refine qq ?_;intro vs X wq K;exact ow_gtr rfl rfl ⟨Below.refl _ _,Left.of (kb (by omega))⟩
    · refine qq ?_;intro vs X wq K;refine zb en224 rfl ((bool2u _ (decide (1<uLow x hi lo))).mono ?_);exact yix
    · refine qq ?_;intro vs X wq K;exact zaz rfl rfl (kg (Nat.lt_of_le_of_lt (hd _) h4) (Nat.lt_of_le_of_lt (b2n_le _) (by decide))) ⟨Below.refl _ _,Left.of rfl⟩
  intro vs w4 LE AO AL AF AA;replace E:=E.drew.trans (LE.mono OY);obtain ⟨_,e9,k9⟩:=AL.2.2.2.2.2.2.2.2.2.1;refine ja (τ:=[(4,.int .u64 ((uSub x hi lo/2^s ||| b2n (decide (1<uLow x hi lo)):Nat):Int))]) ⟨congrArg some e9,trivial⟩ ?_;clear AL AF AA LE AO OY e9 k9;refine zn ?_;exact ⟨by rw[uscF,if_neg hc];rfl,(LW.step E XLW).toBelow⟩
end
end Go.Proofs.YtmnmebdmpigddaaGreatDoor
namespace Go.Proofs.YtmnmebdmpigddaaGreatDoor
open Go.RowKit
theorem qev {P Q:Prop} (k:Q) (h:(Unit→Q)→P:=by
 intro zK;refine za rfl (jp Tryz.underlying3 u5 rfl (yx (by omega)) (yo ?_));exact zK ()):P:=h fun _=>k
theorem je {P Q:Prop} (k:Q) (h:(Unit→Q)→P:=by
 intro zK;refine zu ?_;refine yo ?_;refine zm ?_;exact zK ()):P:=h fun _=>k
attribute [local irreducible] OW RS CW EW
def zhx (x:Nat):Nat:=if x=0 then 0 else x.log2+1
theorem lenB_le {x k:Nat} (h:x<2^k):zhx x≤k:=by
 unfold zhx;split
 · omega
 · rename_i h0
   have:=(Nat.log2_lt h0).2 h;omega
theorem lenB_shr {x k:Nat} (h:2^k≤x):zhx x=zhx (x/2^k)+k:=by
 have hp:=jn k;have h1:x≠0:=by omega
 have h2:x/2^k≠0:=by have:=Nat.div_pos h hp;omega
 unfold zhx;rw[if_neg h1,if_neg h2];have e:x.log2=(x/2^k).log2+k:=by
  refine (Nat.log2_eq_iff h1).2 ⟨?_,?_⟩
  · have:=Nat.log2_self_le h2;rw[Nat.pow_add];exact Nat.le_trans (Nat.mul_le_mul_right _ this) (Nat.div_mul_le_self _ _)
  · have:=@Nat.lt_log2_self (x/2^k);have h3:x<(x/2^k+1)*2^k:=by
     have:=Nat.div_add_mod x (2^k);have h4:=Nat.mod_lt x hp;rw[Nat.add_mul,Nat.one_mul,Nat.mul_comm];omega
    rw[show (x/2^k).log2+k+1=(x/2^k).log2+1+k by omega,Nat.pow_add];exact Nat.lt_of_lt_of_le h3 (Nat.mul_le_mul_right _ this)
 omega
def lenTab:ByteArray:=⟨#[0,1,2,2,3,3,3,3,4,4,4,4,4,4,4,4,5,5,5,5,5,5,5,5,5,5,5,5,5,5,5,5,6,6,6,6,6,6,6,6,6,6,6,6,6,6,6,6,6,6,6,6,6,6,6,6,6,6,6,6,6,6,6,6,7,7,7,7,7,7,7,7,7,7,7,7,7,7,7,7,7,7,7,7,7,7,7,7,7,7,7,7,7,7,7,7,7,7,7,7,7,7,7,7,7,7,7,7,7,7,7,7,7,7,7,7,7,7,7,7,7,7,7,7,7,7,7,7,8,8,8,8,8,8,8,8,8,8,8,8,8,8,8,8,8,8,8,8,8,8,8,8,8,8,8,8,8,8,8,8,8,8,8,8,8,8,8,8,8,8,8,8,8,8,8,8,8,8,8,8,8,8,8,8,8,8,8,8,8,8,8,8,8,8,8,8,8,8,8,8,8,8,8,8,8,8,8,8,8,8,8,8,8,8,8,8,8,8,8,8,8,8,8,8,8,8,8,8,8,8,8,8,8,8,8,8,8,8,8,8,8,8,8,8,8,8,8,8,8,8,8,8,8,8,8,8]⟩
theorem lenTab_at {u:Nat} (h:u<256):(lenTab.data[u]?).map (·.toNat)=some (zhx u):=by
 have key:∀v:Fin 256,(lenTab.data[v.val]?).map (·.toNat)=some (zhx v.val):=by decide +kernel
 exact key ⟨u,h⟩
section
variable (w:World)
theorem len64_any (x:Nat) (hx:x<18446744073709551616):Calls Tryz.prog 196 #[.int .u64 ((x:Nat):Int)] w (RetB w (.int .i64 ((zhx x:Nat):Int))):=by
 refine zc Tryz.func196 rfl Tryz.ntmps196 rfl ?_;have LW:=erx (No) w;have XLW:=grx (No) w;have E:=erx (No) w;refine vp ?_;replace LW:=LW.step E XLW;replace E:=erx (No) w;refine yh (ι:=Nat×Nat) (fun (y,n)=>[(0,.int .u64 ((y:Nat):Int)),(2,.int .i64 ((n:Nat):Int))]) (fun (y,n) w'=>Ext (No) w w'∧(zhx x=zhx y+n∧y<4294967296∧n≤32)) ?_ ?_
 ·
  have M1:=erx (No) w;have XM1:=grx (No) w;refine zg rfl (fun h=>?_) (fun h=>?_)
  ·
   have h:=of_decide_eq_true h;refine zn ?_;refine za rfl (jh rfl rfl (by decide) (xj x 32 (by decide)) (zl ?_));exact zt (x/2^32,32) ⟨rfl,rfl,trivial⟩ ⟨M1.step E XM1,lenB_shr (by show 4294967296≤x;omega),(Nat.div_lt_iff_lt_mul (jn 32)).2 (by show x<18446744073709551616;omega),Nat.le_refl _⟩
  ·
   have h:=of_decide_eq_false h;refine stp ?_;exact zt (x,0) ⟨rfl,rfl,trivial⟩ ⟨M1.step E XM1,rfl,by show x<4294967296;omega,by decide⟩
 ·
  rintro ⟨y,n⟩ w2 ⟨M1,⟨hy1,hy2,hy3⟩⟩;replace E:=E.trans M1;replace LW:=LW.step E XLW;replace E:=erx (No) w2;refine zp ?_;replace LW:=LW.step E XLW;replace E:=erx (No) w2;refine yh (ι:=Nat×Nat) (fun (z,m)=>[(0,.int .u64 ((z:Nat):Int)),(2,.int .i64 ((m:Nat):Int))]) (fun (z,m) w'=>Ext (No) w2 w'∧(zhx x=zhx z+m∧z<65536∧m≤48)) ?_ ?_
  ·
   have M3:=erx (No) w2;have XM3:=grx (No) w2;refine zg rfl (fun h=>?_) (fun h=>?_)
   ·
    have h:=of_decide_eq_true h;have hs:=lenB_shr (x:=y) (k:=16) (by show 65536≤y;omega);refine zn ?_;refine za rfl (jh rfl rfl (by decide) (xj y 16 (by decide)) (je ?_));exact zt (y/2^16,n+16) ⟨rfl,congrArg (fun z:Int=>some (Value.int .i64 z)) (by omega),trivial⟩ ⟨M3.step E XM3,by show zhx x=zhx (y/2^16)+(n+16);omega,(Nat.div_lt_iff_lt_mul (jn 16)).2 hy2,by show n+16≤48;omega⟩
   ·
    have h:=of_decide_eq_false h;refine stp ?_;exact zt (y,n) ⟨rfl,rfl,trivial⟩ ⟨M3.step E XM3,hy1,by show y<65536;omega,by show n≤48;omega⟩
  ·
   rintro ⟨z,m⟩ w4 ⟨M3,⟨hz1,hz2,hz3⟩⟩;replace E:=E.trans M3;replace LW:=LW.step E XLW;replace E:=erx (No) w4;refine zp ?_;replace LW:=LW.step E XLW;replace E:=erx (No) w4;refine yh (ι:=Nat×Nat) (fun (u,k)=>[(0,.int .u64 ((u:Nat):Int)),(2,.int .i64 ((k:Nat):Int))]) (fun (u,k) w'=>Ext (No) w4 w'∧(zhx x=zhx u+k∧u<256∧k≤56)) ?_ ?_
   ·
    have M5:=erx (No) w4;have XM5:=grx (No) w4;refine zg rfl (fun h=>?_) (fun h=>?_)
    ·
     have h:=of_decide_eq_true h;have hs:=lenB_shr (x:=z) (k:=8) (by show 256≤z;omega);refine zn ?_;refine za rfl (jh rfl rfl (by decide) (xj z 8 (by decide)) (je ?_));exact zt (z/2^8,m+8) ⟨rfl,congrArg (fun z:Int=>some (Value.int .i64 z)) (by omega),trivial⟩ ⟨M5.step E XM5,by show zhx x=zhx (z/2^8)+(m+8);omega,(Nat.div_lt_iff_lt_mul (jn 8)).2 hz2,by show m+8≤56;omega⟩
    ·
     have h:=of_decide_eq_false h;refine stp ?_;exact zt (z,m) ⟨rfl,rfl,trivial⟩ ⟨M5.step E XM5,hz1,by show z<256;omega,by show m≤56;omega⟩
   ·
    rintro ⟨u,k⟩ w6 ⟨M5,⟨hu1,hu2,hu3⟩⟩;replace E:=E.trans M5;replace LW:=LW.step E XLW;replace E:=erx (No) w6;have hul:=lenB_le (x:=u) (k:=8) hu2;refine zx ?_;refine za rfl (jp u5 u25 rfl (yak (by omega)) (za rfl (yn (j:=u) (b:=zhx u) u9 rfl rfl rfl (lenTab_at hu2) (qev ?_))));refine zu ?_;exact ⟨by rw[hu1,Int.natCast_add,Int.add_comm];rfl,(LW.step E XLW).toBelow⟩
end
end Go.Proofs.YtmnmebdmpigddaaGreatDoor
namespace Go.Proofs.YtmnmebdmpigddaaGreatDoor
open Go.RowKit
theorem qcz {P Q:Prop} (k:Q) (h:(Unit→Q)→P:=by
 intro zK;refine za rfl (xq rfl rfl (yx (by omega)) ?_);exact zK ()):P:=h fun _=>k
theorem dqz153 {P:Prop} (h:P:=by
 by_cases h:m=0
 · subst h;rfl
 · rw[decide_eq_false h];exact beq_eq_false_iff_ne.2 (by omega)):P:=h
theorem shr_int (m:Int) (k:Nat) (hk:k<64):m.fdiv (2^(min ((k:Nat):Int).toNat IntKind.i64.bits))=m/((2^k:Nat):Int):=by
 rw[Int.toNat_natCast,show min k IntKind.i64.bits=k from Nat.min_eq_left (by show k≤64;omega),Int.fdiv_eq_ediv_of_nonneg _ (Int.le_of_lt (Int.pow_pos (by decide)))];rw[show (2:Int)^k=((2^k:Nat):Int) by simp]
def l2p (p:Int):Int:=p*108853/32768
def roundU (u:Nat):Nat:=(u+1+(u/2^2 &&& 1))/2^2
theorem zhk (u:Nat):u &&& 1≤1:=Nat.and_le_right
def packA (m:Nat):Nat:=m &&& 9223372036854775808
def yxq (m:Nat):Nat:=m &&& 18442240474082181119
def packI (m:Nat):Nat:=packA m ||| 9218868437227405312
def packN (m k:Nat):Nat:=yxq m ||| (k*2^52%18446744073709551616)
def yxz (m k:Nat):Nat:=
 if m &&& 4503599627370496=0 then m
 else if 2047≤k then packI m
 else packN m k
def vak (m k:Nat):Value:=
 if m &&& 4503599627370496=0 then .nilIface
 else if 2047≤k then .iface 183 (.int .i64 1)
 else .nilIface
theorem clear_bit {m:Nat} (hm:m<18446744073709551616):IntKind.u64.wrap (BitVec.ofInt IntKind.u64.bits (m:Int) &&& ~~~BitVec.ofInt IntKind.u64.bits 4503599627370496).toNat=((m &&& 18442240474082181119:Nat):Int):=by
 have e:~~~BitVec.ofInt IntKind.u64.bits 4503599627370496=BitVec.ofInt IntKind.u64.bits ((18442240474082181119:Nat):Int):=by decide +kernel
 rw[e];exact ks hm (by decide)
theorem inf_or {m:Nat} (hm:m<18446744073709551616):IntKind.u64.wrap (BitVec.ofInt IntKind.u64.bits ((packA m:Nat):Int) ||| BitVec.ofInt IntKind.u64.bits 9218868437227405312).toNat=((packI m:Nat):Int):=
 kg (m:=packA m) (n:=9218868437227405312) (Nat.lt_of_le_of_lt Nat.and_le_left hm) (by decide)
theorem exp_or {m k:Nat} (hm:m<18446744073709551616):IntKind.u64.wrap (BitVec.ofInt IntKind.u64.bits ((yxq m:Nat):Int) ||| BitVec.ofInt IntKind.u64.bits ((k*2^52%18446744073709551616:Nat):Int)).toNat=((packN m k:Nat):Int):=
 kg (m:=yxq m) (n:=k*2^52%18446744073709551616) (Nat.lt_of_le_of_lt Nat.and_le_left hm) (Nat.mod_lt _ (by decide))
theorem eq_zero (m:Nat):(((m:Nat):Int)==0)=decide (m=0):=by
 exact dqz153
attribute [local irreducible] OW RS CW EW
section
variable (w:World)
theorem l2p_any (p:Int) (hp:-10000≤p∧p≤10000):Calls Tryz.prog 252 #[.int .i64 p] w (RetB w (.int .i64 (l2p p))):=by
 refine zc Tryz.func252 rfl Tryz.ntmps252 rfl ?_;have LW:=erx (No) w;have XLW:=grx (No) w;have E:=erx (No) w;refine yi ?_;refine qcz ?_;refine za rfl (jh rfl rfl (by decide) (shr_int _ 15 (by decide)) ?_);exact yfx
theorem round_any (u:Nat) (hu:u<144115188075855872):Calls Tryz.prog 257 #[.int .u64 ((u:Nat):Int)] w (RetB w (.int .u64 ((roundU u:Nat):Int))):=by
 have h1:=zhk (u/2^2);have h2:u/2^2≤u:=Nat.div_le_self _ _;refine zc Tryz.func257 rfl Tryz.ntmps257 rfl ?_;have LW:=erx (No) w;have XLW:=grx (No) w;have E:=erx (No) w;refine yi ?_;refine kl ?_;refine stp ?_;refine za rfl (jh rfl rfl (by decide) (xj _ 2 (by decide)) (za rfl (gf rfl rfl (ks (n:=1) (by omega) (by decide)) (kl ?_))));refine za rfl (jh rfl rfl (by decide) (xj _ 2 (by decide)) ?_);exact yfx
theorem pack_any (m k:Nat) (hm:m<18446744073709551616) (hk:1≤k∧k≤10000):Calls Tryz.prog 259 #[.int .u64 ((m:Nat):Int),.int .i64 (((k:Nat):Int)-1075)] w (RetB w (.tuple #[.float .f64 (yxz m k),vak m k])):=by
 refine zc Tryz.func259 rfl Tryz.ntmps259 rfl ?_;have LW:=erx (No) w;have XLW:=grx (No) w;have E:=erx (No) w;refine zz ?_;refine za rfl (gf rfl rfl (ks (n:=4503599627370496) hm (by decide)) (zn ?_));refine zd 8 (.bool (decide (m &&& 4503599627370496=0))) rfl (by rw[eq_zero]<;>rfl) (zg rfl (fun h=>?_) (fun h=>?_))
 ·
  have h:=of_decide_eq_true h;refine zn ?_;refine za rfl (va (b:=m) ex225 rfl (zp ?_));exact ⟨by rw[yxz,vak,if_pos h,if_pos h];rfl,(LW.step E XLW).toBelow⟩
 ·
  have h:=of_decide_eq_false h;refine qd ?_;refine zd 12 (.bool (decide (2047≤k))) rfl (kb (by omega)) (zg rfl (fun h'=>?_) (fun h'=>?_))
  ·
   have h':=of_decide_eq_true h';refine zn ?_;refine za rfl (gf rfl rfl (ks (n:=9223372036854775808) hm (by decide)) (zf 14 (.int .u64 ((packA m:Nat):Int)) rfl (by rw[packA]<;>rfl) (za rfl (zaz rfl rfl (inf_or hm) (za rfl (va (b:=packI m) ex225 rfl (za rfl (ow_mkI (by kernel_rfl) rfl (zp ?_)))))))));exact ⟨by rw[yxz,vak,if_neg h,if_neg h,if_pos h',if_pos h'];rfl,(LW.step E XLW).toBelow⟩
  ·
   have h':=of_decide_eq_false h';refine zu ?_;refine za rfl (zyz rfl rfl (clear_bit hm) (stp ?_));refine yo ?_;refine za rfl (jp u25 Tryz.underlying3 rfl (wrap_u64 (by omega)) (zf 22 (.int .u64 ((k:Nat):Int)) rfl (by congr 1;omega) (zf 19 (.int .u64 ((yxq m:Nat):Int)) rfl (by rw[yxq]<;>rfl) (za rfl (gq rfl rfl (by decide) (zmx k 52 (by decide)) (za rfl (zaz rfl rfl (exp_or hm) (za rfl (va (b:=packN m k) ex225 rfl (zl ?_))))))))));exact ⟨by rw[yxz,vak,if_neg h,if_neg h,if_neg h',if_neg h'];rfl,(LW.step E XLW).toBelow⟩
end
/-! ### parseFloat64 -/
def eF (d j:Nat):Int:=min 1074 (53-((zhx d:Nat):Int)-l2p (((j:Nat):Int)-348))
def sF (d j:Nat):Nat:=(61-((zhx d:Nat):Int)-l2p (((j:Nat):Int)-348)-eF d j).toNat
def xF (d:Nat):Nat:=d*2^(64-zhx d)%18446744073709551616
def uF (d j:Nat):Nat:=uscF (xF d) (ywq j) (ywz j) (sF d j)
def kF (d j:Nat):Nat:=b2n (decide (36028797018963966≤uF d j))
def vF (d j:Nat):Nat:=uF d j/2^kF d j ||| (uF d j &&& 1)
def mF (d j sign:Nat):Nat:=sign ||| roundU (vF d j)
def qmz (d j sign:Nat):Nat:=if 64≤sF d j then sign ||| 0 else yxz (mF d j sign) ((1075-eF d j).toNat+kF d j)
def qmq (d j sign:Nat):Value:=if 64≤sF d j then .nilIface else vak (mF d j sign) ((1075-eF d j).toNat+kF d j)
theorem lenB_pos {d:Nat} (h:0<d):1≤zhx d:=by unfold zhx;rw[if_neg (by omega)];omega
theorem or_lt {a b k:Nat} (ha:a<2^k) (hb:b<2^k):a ||| b<2^k:=Nat.or_lt_two_pow ha hb
theorem div_lt_56 {a s:Nat} (h:a<18446744073709551616) (hs:8≤s):a/2^s<72057594037927936:=by
 refine Nat.lt_of_le_of_lt (Nat.div_le_div_left (Nat.pow_le_pow_right (by decide) hs) (by decide)) ((Nat.div_lt_iff_lt_mul (jn 8)).2 h)
theorem uscF_lt {x hi lo s:Nat} (hx:x<18446744073709551616) (hh:hi<18446744073709551616) (hs:8≤s):uscF x hi lo s<72057594037927936:=by
 have h1:=div_lt_56 (uHi_lt hx hh) hs;have h2:=div_lt_56 (a:=uSub x hi lo) (Nat.mod_lt _ (by decide)) hs;unfold uscF;split
 · exact or_lt (k:=56) h1 (by decide)
 · exact or_lt (k:=56) h2 (Nat.lt_of_le_of_lt (b2n_le _) (by decide))
theorem vF_lt {d j:Nat} (h:uF d j<72057594037927936):vF d j<72057594037927936:=
 or_lt (k:=56) (Nat.lt_of_le_of_lt (Nat.div_le_self _ _) h) (Nat.lt_of_le_of_lt (zhk _) (by decide))
theorem roundU_lt {u:Nat} (h:u<72057594037927936):roundU u<18446744073709551616:=by
 have h1:=zhk (u/2^2);refine Nat.lt_of_le_of_lt (Nat.div_le_self _ _) (by omega)
theorem pk255_1:Gives 255 #[.int .u64 9007199254740992] (.int .u64 36028797018963966):=by
 intro w;refine zc Tryz.func255 rfl Tryz.ntmps255 rfl ?_;have LW:=erx (No) w;have XLW:=grx (No) w;have E:=erx (No) w;refine yi ?_;refine za rfl (gq (z:=36028797018963968) rfl rfl (by decide) (by kernel_rfl) (za rfl (jg (z:=36028797018963966) rfl rfl (by kernel_rfl) (zx ?_))));refine gr (rs:=[.tmp 2]) (vs:=[.int .u64 36028797018963966]) rfl ⟨rfl,trivial⟩ ?_;exact xi
section
variable (w:World)
theorem prescale_nat (gpre:Nat) (c0 c1 c2:Value) (e lp:Int) (j S:Nat) (hj:j<696) (hB:Blk w gpre 257 #[c0,c1,c2]) (hT:PowT w) (hne:gpre≠13) (he:-10000≤e∧e≤10000) (hlp:-10000≤lp∧lp≤10000) (hS:((S:Nat):Int)=0-(e+lp+3)) :
 Calls Tryz.prog 253 #[.pointer (some ⟨gpre,0,none⟩),.int .i64 e,.int .i64 (((j:Nat):Int)-348),.int .i64 lp] w fun en w'=>en= .returned (.tuple #[])∧Blk w' gpre 257 #[.int .u64 ((ywq j:Nat):Int),.int .u64 ((ywz j:Nat):Int),.int .i64 ((S:Nat):Int)]∧Ext (Mut [some gpre]) w w':=by
 rw[hS];exact prescale_any w gpre c0 c1 c2 e lp j hj hB hT hne he hlp
theorem fast_any (d j sign:Nat) (hd:0<d∧d<18446744073709551616) (hj:3≤j∧j≤658) (hs:sign<18446744073709551616) (hT:PowT w) :
 Calls Tryz.prog 227 #[.int .u64 ((d:Nat):Int),.int .i64 (((j:Nat):Int)-348),.int .u64 ((sign:Nat):Int)] w (RetB w (.tuple #[.float .f64 (qmz d j sign),qmq d j sign])):=by
 have hB1:=lenB_pos hd.1;have hB2:zhx d≤64:=lenB_le (k:=64) hd.2;obtain ⟨B,hB⟩:∃B,B=zhx d:=⟨_,rfl⟩;obtain ⟨L,hL⟩:∃L,L=l2p (((j:Nat):Int)-348):=⟨_,rfl⟩;have hL':-2000≤L∧L≤2000:=by rw[hL,l2p];omega
 obtain ⟨E0,hE0⟩:∃E0,E0=eF d j:=⟨_,rfl⟩;have hE1:E0=min 1074 (53-((B:Nat):Int)-L):=by rw[hE0,eF,hB,hL]
 obtain ⟨S,hS⟩:∃S,S=sF d j:=⟨_,rfl⟩;have hS1:((S:Nat):Int)=61-((B:Nat):Int)-L-E0:=by rw[hS,sF,←hB,←hL,←hE0];omega
 rw[←hB] at hB1 hB2;have hx:xF d<18446744073709551616:=Nat.mod_lt _ (by decide);obtain ⟨_,ht1,ht2⟩:=tab_row (j:=j) (by omega);have hu:uF d j<72057594037927936:=uscF_lt hx ht1 (by rw[←hS];omega);have hk:kF d j≤1:=b2n_le _;have hv:=vF_lt hu;have hr:=roundU_lt hv;refine zc Tryz.func227 rfl Tryz.ntmps227 rfl ?_;obtain ⟨HF,LW,XLW,E⟩:=wk0 w;replace HF:=HF.and (Per.powT hT (fun h=>h.elim));refine qd ?_;refine za rfl (zb en196 rfl ((len64_any _ d hd.2).mono ?_));rintro e w1 ⟨rfl,hb⟩;refine ⟨_,rfl,?_⟩;replace E:=blx E hb;clear hb;refine zf 15 (.int .i64 ((B:Nat):Int)) rfl (by rw[hB]<;>rfl) (zl ?_);refine za rfl (zb en252 rfl ((l2p_any _ (((j:Nat):Int)-348) (by omega)).mono ?_));rintro e w2 ⟨rfl,hb⟩;refine ⟨_,rfl,?_⟩;replace E:=blx E hb;clear hb;refine zf 17 (.int .i64 L) rfl (by rw[hL]<;>rfl) (zl ?_);refine yl ?_;refine stp ?_;refine yl ?_;refine za rfl (ow_min rfl rfl (zf 22 (.int .i64 E0) rfl (by congr 1;rw[hE1];split<;>omega) (zu ?_)));refine za rfl (zak zr257 ?_);intro gb3 w4 Bb3 Eb3 Gb3;obtain ⟨Gb3,HF,E,XLW⟩:=alx HF LW E XLW Eb3 Gb3;refine zl ?_;refine yl ?_;refine yl ?_;refine zm ?_;refine za rfl (zb en253 rfl ((prescale_nat _ gb3 _ _ _ _ _ j S (by omega) Bb3 (HF.on E).here.2 (by have:=hT.lt;omega) (by omega) (by omega) (by omega)).mono ?_));rintro e w5 ⟨rfl,hB,hE⟩;refine ⟨_,rfl,?_⟩;replace Bb3:=hB;clear hB;replace E:=E.step1 hE Mut.head;clear hE;refine zz ?_;refine zd 32 (.bool (decide (64≤S))) rfl (kb (by omega)) (zg rfl (fun h=>?_) (fun h=>?_))
 ·
  have h:=of_decide_eq_true h;have h':64≤sF d j:=hS▸h;refine zn ?_;refine za rfl (zaz rfl rfl (kg (n:=0) hs (by decide)) (za rfl (va (b:=sign ||| 0) ex225 rfl (zp ?_))));exact ⟨by rw[qmz,qmq,if_pos h',if_pos h'];rfl,(LW.step E XLW).toBelow⟩
 ·
  have h:=of_decide_eq_false h;have h':¬64≤sF d j:=hS▸h;obtain ⟨HF,LW,XLW,E⟩:=frg HF LW E XLW (Y:=No) (Mut.skip Mut.nil_) (Per.blkN Bb3 NotIn.nil);refine zl ?_;refine yl ?_;refine zf 38 (.int .i64 ((64-B:Nat):Int)) rfl (by congr 1;omega) (za rfl (gq rfl rfl (by omega) (zmx d (64-B) (by omega)) (zf 39 (.int .u64 ((xF d:Nat):Int)) rfl (by rw[xF,hB]<;>rfl) (za rfl (zb en254 rfl ((uscale_any _ gb3 (xF d) (ywq j) (ywz j) S hx ht1 ht2 (by omega) (HF.on E).here.2).mono ?_))))));rintro e w6 ⟨rfl,hb⟩;refine ⟨_,rfl,?_⟩;replace E:=blx E hb;clear hb;refine zf 40 (.int .u64 ((uF d j:Nat):Int)) rfl (by rw[uF,hS]<;>rfl) (zl ?_);refine za rfl (zb en255 rfl ((pk255_1 _).mono ?_));rintro e w7 ⟨rfl,hb⟩;refine ⟨_,rfl,?_⟩;replace E:=blx E hb;clear hb;refine stp ?_;refine zf 43 (.bool (decide (36028797018963966≤uF d j))) rfl (kb (by omega)) (za rfl (zb en229 rfl ((bool2i _ (decide (36028797018963966≤uF d j))).mono ?_)));rintro e w8 ⟨rfl,hb⟩;refine ⟨_,rfl,?_⟩;replace E:=blx E hb;clear hb;refine zf 44 (.int .i64 ((kF d j:Nat):Int)) rfl (by rw[kF]<;>rfl) (zp ?_);refine za rfl (jh rfl rfl (by omega) (xj _ (kF d j) (by omega)) (stp ?_));refine za rfl (gf rfl rfl (ks (n:=1) (by omega) (by decide)) (za rfl (zaz rfl rfl (kg (Nat.lt_of_le_of_lt (Nat.div_le_self _ _) (by omega)) (Nat.lt_of_le_of_lt (zhk _) (by decide))) (zf 50 (.int .u64 ((vF d j:Nat):Int)) rfl (by rw[vF]<;>rfl) (zp ?_)))));refine yl ?_;refine zp ?_;refine za rfl (zb en257 rfl ((round_any _ (vF d j) (by omega)).mono ?_));rintro e w9 ⟨rfl,hb⟩;refine ⟨_,rfl,?_⟩;replace E:=blx E hb;clear hb;refine za rfl (zaz rfl rfl (kg hs hr) (zf 57 (.int .u64 ((mF d j sign:Nat):Int)) rfl (by rw[mF]<;>rfl) (stp ?_)));refine zjz ?_;refine zf 59 (.int .i64 ((((1075-E0).toNat+kF d j:Nat):Int)-1075)) rfl (by congr 1;omega) (za rfl (zb en259 rfl ((pack_any _ (mF d j sign) ((1075-E0).toNat+kF d j) (or_lt (k:=64) hs hr) (by omega)).mono ?_)));rintro e w10 ⟨rfl,hb⟩;refine ⟨_,rfl,?_⟩;replace E:=blx E hb;clear hb;refine yi ?_;exact ⟨by rw[qmz,qmq,if_neg h',if_neg h',←hE0];rfl,(LW.step E XLW).toBelow⟩
end
end Go.Proofs.YtmnmebdmpigddaaGreatDoor
namespace Go.Proofs.YtmnmebdmpigddaaGreatDoor
open Go.RowKit
def Tame (b:Nat):Prop:=b≤9218868437227405312
theorem and_bit_lt {m i:Nat} (h:m<2^i):m &&& 2^i=0:=by
 apply Nat.eq_of_testBit_eq
 intro j;rw[Nat.testBit_and,Nat.testBit_two_pow,Nat.zero_testBit];by_cases hj:i=j
 · subst hj;rw[Nat.testBit_lt_two_pow h];rfl
 · rw[decide_eq_false hj,Bool.and_false]
theorem packC_lt {m:Nat} (h:m<9007199254740992):yxq m<4503599627370496:=by
 have e:m=m &&& (2^53-1):=by rw[Nat.and_two_pow_sub_one_eq_mod,Nat.mod_eq_of_lt h]
 have e2:yxq m=m%2^52:=by
  unfold yxq;rw[←Nat.and_two_pow_sub_one_eq_mod];conv=>lhs;rw[e]
  rw[Nat.and_assoc];have:(2^53-1) &&& 18442240474082181119=2^52-1:=by decide +kernel
  rw[this]
 rw[e2];exact Nat.mod_lt _ (by decide)
theorem packF_tame {m k:Nat} (hm:m≤9007199254740992):Tame (yxz m k):=by
 unfold yxz;split
 · unfold Tame;omega
 · rename_i h
   have hlt:m<9007199254740992:=by
    rcases Nat.lt_or_eq_of_le hm with h' | h'
    · exact h'
    · subst h';exact absurd (by decide +kernel) h
   split
   · have e:packA m=0:=and_bit_lt (i:=63) (by show m<9223372036854775808;omega);unfold packI;rw[e];exact Nat.le_refl _
   · rename_i hk
     have hc:=packC_lt hlt;have hk':k*2^52%18446744073709551616=2^52*k:=by
      rw[Nat.mul_comm];exact Nat.mod_eq_of_lt (by show 4503599627370496*k<18446744073709551616;omega)
     unfold packN;rw[hk',Nat.or_comm,←Nat.two_pow_add_eq_or_of_lt hc];show 4503599627370496*k+yxq m≤9218868437227405312
     omega
theorem zero_or (a:Nat):0 ||| a=a:=Nat.zero_or a
theorem roundU_le {u:Nat} (h:u<36028797018963968):roundU u≤9007199254740992:=by
 have h1:=zhk (u/2^2);unfold roundU;show (u+1+(u/4 &&& 1))/4≤9007199254740992
 have h2:u/4 &&& 1≤1:=h1;omega
theorem vF_lt' {d j:Nat} (h:uF d j<72057594037927936):vF d j<36028797018963968:=by
 unfold vF;refine or_lt (k:=55) ?_ (Nat.lt_of_le_of_lt (zhk _) (by decide));unfold kF b2n;by_cases hc:36028797018963966≤uF d j
 · rw[decide_eq_true hc,if_pos rfl];show uF d j/2<36028797018963968
   omega
 · rw[decide_eq_false hc,if_neg (by decide)];show uF d j/1<36028797018963968
   omega
theorem uF_lt {d j:Nat} (hd:0<d∧d<18446744073709551616) (hj:3≤j∧j≤658):uF d j<72057594037927936:=by
 obtain ⟨_,ht1,_⟩:=tab_row (j:=j) (by omega);have hB1:=lenB_pos hd.1;have hB2:zhx d≤64:=lenB_le (k:=64) hd.2;refine uscF_lt (Nat.mod_lt _ (by decide)) ht1 ?_;unfold sF eF;have:-2000≤l2p (((j:Nat):Int)-348)∧l2p (((j:Nat):Int)-348)≤2000:=by rw[l2p];omega
 omega
structure SliceA (g b o n c:Nat) (vs:List Value) (w:World):Prop where
 head:w.cell? ⟨g,0,none⟩=some (.slice (some ⟨b,o,none⟩) n c)
 cells:∀i v,vs[i]? =some v→w.cell? ⟨b,o+i,none⟩=some v
theorem Per.cellA {X:Nat→Prop} {w:World} {p:Addr} {v:Value} (h:w.cell? p=some v) (hX:∀k,X k→w.heap.size≤k):Per X w (fun z=>z.cell? p=some v):=fun _ hb=>
 (hb.cell (World.block_lt_of_cell? w _ h) (fun hx=>Nat.lt_irrefl _ (Nat.lt_of_lt_of_le (World.block_lt_of_cell? w _ h) (hX _ hx)))).trans h
def tenRow:List Nat:=[4607182418800017408,4621819117588971520,4636737291354636288,4652007308841189376,4666723172467343360,4681608360884174848,4696837146684686336,4711630319722168320,4726483295884279808,4741671816366391296,4756540486875873280,4771362005757984768,4786511204640096256,4801453603149578240,4816244402031689728,4831355200913801216,4846369599423283200,4861130398305394688,4876203697187506176,4891288408196988160,4906019910204099648,4921056587992461136,4936209963552724370]
def zrk (j:Nat):Nat:=tenRow.getD j 0
theorem tenRow_at {j:Nat} (h:j<23):(tenRow.map (fun f=>Value.float .f64 f))[j]? =some (.float .f64 (zrk j)):=by
 have key:∀i:Fin 23,(tenRow[i.val]?)=some (zrk i.val):=by decide +kernel
 rw[List.getElem?_map,key ⟨j,h⟩];rfl
theorem tenF_pos {j:Nat} (h:j<23):rg (zrk j)<9218868437227405312∧rg (zrk j)≠0∧ng (zrk j)=false:=by
 have key:∀i:Fin 23,rg (zrk i.val)<9218868437227405312∧rg (zrk i.val)≠0∧ng (zrk i.val)=false:=by decide +kernel
 exact key ⟨j,h⟩
def pows:List Int:=[1,3,6,9,13,16,19,23,26]
def lcB (k:Nat):ByteArray:=⟨(Go.Pinned.cheatRows.getD k (0,[])).2.toArray⟩
theorem lc_row {k:Nat} (h:Shl k):(Go.Pinned.cheatRows.getD k (0,[])).1=lcD k∧(Go.Pinned.cheatRows.getD k (0,[])).2.map (·.toNat)=lcS k∧k<61:=by
 rcases h with rfl | rfl | rfl | rfl | rfl | rfl | rfl | rfl | rfl | rfl | rfl<;>exact ⟨by decide +kernel,by decide +kernel,by decide⟩
structure CheatA (b o c:Nat) (w:World):Prop where
 head:w.cell? ⟨16,0,none⟩=some (.slice (some ⟨b,o,none⟩) 61 c)
 delta:∀k,Shl k→w.cell? ⟨b,o+k*2,none⟩=some (.int .i64 ((lcD k:Nat):Int))
 cut:∀k,Shl k→w.cell? ⟨b,o+k*2+1,none⟩=some (.string (lcB k))
structure Tabs (bp op cp bf of cf bl ol cl:Nat) (w:World):Prop where
 pow:PowT w
 man:w.cell? ⟨8,0,none⟩=some (.int .u64 52)
 exp:w.cell? ⟨8,1,none⟩=some (.int .u64 11)
 bias:w.cell? ⟨8,2,none⟩=some (.int .i64 (-1023))
 opt:w.cell? ⟨7,0,none⟩=some (.bool true)
 powtab:SliceA 11 bp op 9 cp (pows.map (fun z=>Value.int .i64 z)) w
 ten:SliceA 12 bf of 23 cf (tenRow.map (fun f=>Value.float .f64 f)) w
 cheat:CheatA bl ol cl w
structure TabsB (bp bf bl n:Nat):Prop where
 pow:13<n
 info:8<n
 opt:7<n
 pt:11<n
 tn:12<n
 ch:16<n
 bp:bp<n
 bf:bf<n
 bl:bl<n
theorem Tabs.below {w:World} {bp op cp bf of cf bl ol cl:Nat} (h:Tabs bp op cp bf of cf bl ol cl w):TabsB bp bf bl w.heap.size:=
 have lt {p:Addr} {v:Value} (e:w.cell? p=some v):p.block<w.heap.size:=World.block_lt_of_cell? w _ e;⟨h.pow.lt,lt h.man,lt h.opt,lt h.powtab.head,lt h.ten.head,lt h.cheat.head,lt (h.powtab.cells 0 _ rfl),lt (h.ten.cells 0 _ rfl),lt (h.cheat.delta 1 (.inl rfl))⟩
theorem TabsB.le {bp bf bl n m:Nat} (h:TabsB bp bf bl n) (hm:n≤m):TabsB bp bf bl m:=
 ⟨Nat.lt_of_lt_of_le h.pow hm,Nat.lt_of_lt_of_le h.info hm,Nat.lt_of_lt_of_le h.opt hm,Nat.lt_of_lt_of_le h.pt hm,Nat.lt_of_lt_of_le h.tn hm,Nat.lt_of_lt_of_le h.ch hm,Nat.lt_of_lt_of_le h.bp hm,Nat.lt_of_lt_of_le h.bf hm,Nat.lt_of_lt_of_le h.bl hm⟩
theorem Per.cellB {X:Nat→Prop} {w:World} {p:Addr} {v:Value} {n:Nat} (h:w.cell? p=some v) (hp:p.block<n) (hX:∀k,X k→n≤k):Per X w (fun z=>z.cell? p=some v):=fun _ hb=>
 (hb.cell (World.block_lt_of_cell? w _ h) (fun hx=>Nat.lt_irrefl _ (Nat.lt_of_lt_of_le hp (hX _ hx)))).trans h
theorem Per.tabsB {X:Nat→Prop} {w:World} {bp op cp bf of cf bl ol cl n:Nat} (h:Tabs bp op cp bf of cf bl ol cl w) (hn:TabsB bp bf bl n) (hX:∀k,X k→n≤k):Per X w (Tabs bp op cp bf of cf bl ol cl):=fun z hz=>
 ⟨Per.powT h.pow (fun hx=>Nat.lt_irrefl _ (Nat.lt_of_lt_of_le hn.pow (hX _ hx))) z hz,Per.cellB h.man hn.info hX z hz,Per.cellB h.exp hn.info hX z hz,Per.cellB h.bias hn.info hX z hz,Per.cellB h.opt hn.opt hX z hz,
  ⟨Per.cellB h.powtab.head hn.pt hX z hz,fun i v hv=>Per.cellB (h.powtab.cells i v hv) hn.bp hX z hz⟩,⟨Per.cellB h.ten.head hn.tn hX z hz,fun i v hv=>Per.cellB (h.ten.cells i v hv) hn.bf hX z hz⟩,
  ⟨Per.cellB h.cheat.head hn.ch hX z hz,fun k hk=>Per.cellB (h.cheat.delta k hk) hn.bl hX z hz,fun k hk=>Per.cellB (h.cheat.cut k hk) hn.bl hX z hz⟩⟩
theorem Per.tabs {X:Nat→Prop} {w:World} {bp op cp bf of cf bl ol cl:Nat} (h:Tabs bp op cp bf of cf bl ol cl w) (hX:∀k,X k→w.heap.size≤k):Per X w (Tabs bp op cp bf of cf bl ol cl):=Per.tabsB h h.below hX
theorem near_sgn (m:Nat):Sgn false (FloatKind.f64.nearest ((m:Nat):Int)):=by
 have e:FloatKind.f64.nearest ((m:Nat):Int)=Ieee.double.write (.number false m 0):=by
  show Ieee.double.write (.number (decide (((m:Nat):Int)<0)) ((m:Nat):Int).natAbs 0)=_
  rw[decide_eq_false (by omega)];rfl
 rw[e];have h:=ypk (d:=.number false m 0) rfl;exact ⟨h.1,ydx _ _ _,h.2⟩
theorem neg_sgn {b:Nat} {n:Bool} (h:Sgn n b):Sgn (!n) (b ^^^ 9223372036854775808):=by
 obtain ⟨h1,h2,h3⟩:=zfx h.lt;have e:b ^^^ 9223372036854775808=qf b:=rfl;rw[e];exact ⟨by rw[isN,h1];exact h.num,by rw[h2,h.sg],h3⟩
end Go.Proofs.YtmnmebdmpigddaaGreatDoor
namespace Go.Proofs.YtmnmebdmpigddaaGreatDoor
open Go.RowKit
theorem stpdq312 {P Q:Prop} (k:Q) (h:(Unit→Q)→P:=by
 intro zK;refine za rfl (vq u111 rfl rfl (by rw[Nat.mul_one];exact (HF.on E).here.2.ten.cells _ _ (tenRow_at (by omega))) ?_);exact zK ()):P:=h fun _=>k
theorem stpdq274 {P Q:Prop} (k:Q) (h:(Unit→Q)→P:=by
 intro zK;refine za rfl (vq u265 rfl rfl (HF.on E).here.2.ten.head (stp ?_));exact zK ()):P:=h fun _=>k
theorem dqz169 {P:Prop} (h:P:=by
 exact ⟨by rw[exF_none h h1 (by omega) (by omega),hf];rfl,(LW.step E XLW).toBelow⟩):P:=h
theorem dqz162 {P:Prop} (h:P:=by
 exact ⟨by rw[hx];rfl,(LW.step E XLW).toBelow⟩):P:=h
attribute [local irreducible] OW RS CW EW
def f0 (m:Nat) (neg:Bool):Nat:=if neg then FloatKind.f64.nearest ((m:Nat):Int) ^^^ 9223372036854775808 else FloatKind.f64.nearest ((m:Nat):Int)
theorem f0_sgn (m:Nat) (neg:Bool):Sgn neg (f0 m neg):=by
 cases neg
 · rw[f0,if_neg (by decide)];exact near_sgn m
 · rw[f0,if_pos rfl];exact neg_sgn (near_sgn m)
def exG (f:Nat) (p:Int):Nat:=if 22<p then zsx (fop .mul f (zrk (p-22).toNat)) else f
def exQ (p:Int):Nat:=if 22<p then 22 else p.toNat
def exF (m:Nat) (p:Int) (neg:Bool):Nat×Bool:=
 if m/2^52≠0 then (0,false)
 else if p=0 then (f0 m neg,true)
 else if 0<p∧p≤37 then
  if (xf (exG (f0 m neg) p) 4831355200913801216==some .gt)=true∨(xf (exG (f0 m neg) p) 14054727237768577024==some .lt)=true then (exG (f0 m neg) p,false)
  else (zsx (fop .mul (exG (f0 m neg) p) (zrk (exQ p))),true)
 else if p<0∧ -22≤p then (zsx (fop .quo (f0 m neg) (zrk (-p).toNat)),true)
 else (f0 m neg,false)
theorem exF_big {m:Nat} {p:Int} {neg:Bool} (h:m/2^52≠0):exF m p neg=(0,false):=by rw[exF,if_pos h]
theorem exF_nil {m:Nat} {p:Int} {neg:Bool} (h:¬m/2^52≠0) (h1:p=0):exF m p neg=(f0 m neg,true):=by rw[exF,if_neg h,if_pos h1]
theorem exF_up {m:Nat} {p:Int} {neg:Bool} (h:¬m/2^52≠0) (h1:¬p=0) (h2:0<p∧p≤37) {b:Bool} (hb:b=(xf (exG (f0 m neg) p) 4831355200913801216==some .gt || xf (exG (f0 m neg) p) 14054727237768577024==some .lt)):exF m p neg=if b then (exG (f0 m neg) p,false) else (zsx (fop .mul (exG (f0 m neg) p) (zrk (exQ p))),true):=by
 rw[exF,if_neg h,if_neg h1,if_pos h2,hb];simp only[Bool.or_eq_true]
theorem exF_down {m:Nat} {p:Int} {neg:Bool} (h:¬m/2^52≠0) (h1:¬p=0) (h2:¬(0<p∧p≤37)) (h3:p<0∧ -22≤p):exF m p neg=(zsx (fop .quo (f0 m neg) (zrk (-p).toNat)),true):=by rw[exF,if_neg h,if_neg h1,if_neg h2,if_pos h3]
theorem exF_none {m:Nat} {p:Int} {neg:Bool} (h:¬m/2^52≠0) (h1:¬p=0) (h2:¬(0<p∧p≤37)) (h3:¬(p<0∧ -22≤p)):exF m p neg=(f0 m neg,false):=by rw[exF,if_neg h,if_neg h1,if_neg h2,if_neg h3]
theorem exG_hi {f:Nat} {p:Int} (h:22<p):exG f p=zsx (fop .mul f (zrk (p-22).toNat)):=by rw[exG,if_pos h]
theorem exG_lo {f:Nat} {p:Int} (h:¬22<p):exG f p=f:=by rw[exG,if_neg h]
theorem exQ_hi {p:Int} (h:22<p):exQ p=22:=by rw[exQ,if_pos h]
theorem exQ_lo {p:Int} (h:¬22<p):exQ p=p.toNat:=by rw[exQ,if_neg h]
attribute [local irreducible] f0 exG zrk zsx xf
theorem beq_dec (p q:Int):(p==q)=decide (p=q):=by by_cases h:p=q<;>simp[h]
theorem ne_zero_b (m:Nat):(((m:Nat):Int) !=0)=decide (m≠0):=by
 by_cases h:m=0
 · subst h;rfl
 · rw[decide_eq_true h];exact bne_iff_ne.2 (by omega)
theorem vfz {f j:Nat} {n:Bool} (hf:Sgn n f) (hj:j<23):fop .mul f (zrk j)=some (zsx (fop .mul f (zrk j)))∧Sgn n (zsx (fop .mul f (zrk j))):=by
 obtain ⟨h1,h2,h3⟩:=tenF_pos hj;obtain ⟨z,hz,hs⟩:=mul_sgn hf h1 h2 h3;rw[ansF_some hz];exact ⟨hz,hs⟩
theorem quo_ten {f j:Nat} {n:Bool} (hf:Sgn n f) (hj:j<23):fop .quo f (zrk j)=some (zsx (fop .quo f (zrk j)))∧Sgn n (zsx (fop .quo f (zrk j))):=by
 obtain ⟨h1,h2,h3⟩:=tenF_pos hj;obtain ⟨z,hz,hs⟩:=quo_sgn hf h1 h2 h3;rw[ansF_some hz];exact ⟨hz,hs⟩
theorem exG_sgn {f:Nat} {p:Int} {n:Bool} (h:Sgn n f) (hp:p≤37):Sgn n (exG f p):=by
 by_cases h2:22<p
 · rw[exG_hi h2];exact (vfz h (by omega)).2
 · rw[exG_lo h2];exact h
theorem exQ_lt (p:Int):exQ p<23:=by
 by_cases h2:22<p
 · rw[exQ_hi h2];decide
 · rw[exQ_lo h2];omega
theorem exF_sgn {m:Nat} {p:Int} {neg:Bool} (h:(exF m p neg).2=true):Sgn neg (exF m p neg).1:=by
 have h0:=f0_sgn m neg;by_cases a1:m/2^52≠0
 · rw[exF_big a1] at h;cases h
 · by_cases a2:p=0
   · rw[exF_nil a1 a2];exact h0
   · by_cases a3:0<p∧p≤37
     · have hx:=exF_up (neg:=neg) a1 a2 a3 rfl;rw[hx] at h ⊢;split at h
       · cases h
       · rename_i hb
         rw[if_neg hb];exact (vfz (exG_sgn h0 a3.2) (exQ_lt p)).2
     · by_cases a4:p<0∧ -22≤p
       · rw[exF_down a1 a2 a3 a4];exact (quo_ten h0 (by omega)).2
       · rw[exF_none a1 a2 a3 a4] at h;cases h
section
variable (w:World) {bp op cp bf of cf bl ol cl:Nat}
theorem exact_any (m:Nat) (p:Int) (neg:Bool) (hp:-10000≤p∧p≤10000) (hT:Tabs bp op cp bf of cf bl ol cl w) :
 Calls Tryz.prog 226 #[.int .u64 ((m:Nat):Int),.int .i64 p,.bool neg] w (RetB w (.tuple #[.float .f64 (exF m p neg).1,.bool (exF m p neg).2])):=by
 refine zc Tryz.func226 rfl Tryz.ntmps226 rfl ?_;obtain ⟨HF,LW,XLW,E⟩:=wk0 w;replace HF:=HF.and (Per.tabs hT (fun _ h=>h.elim));refine yu ?_;refine za rfl (vq u87 rfl rfl (HF.on E).here.2.man (za rfl (jh rfl rfl (by decide) (xj m 52 (by decide)) (zn ?_))));refine zd 12 (.bool (decide (m/2^52≠0))) rfl (by rw[ne_zero_b]<;>rfl) (zg rfl (fun h=>?_) (fun h=>?_))
 ·
  have h:=of_decide_eq_true h;refine zn ?_;exact ⟨by rw[exF_big h];rfl,(LW.step E XLW).toBelow⟩
 ·
  have h:=of_decide_eq_false h;refine zu ?_;refine za rfl (ow_i2f u111 (by rw[u25];rfl) rfl (qd ?_));replace HF:=HF.on E;replace LW:=LW.step E XLW;replace E:=erx (No) w;refine yh (ι:=Nat) (fun f=>[(1,.int .i64 p),(7,.bool false),(6,.float .f64 f)]) (fun f w'=>Ext (No) w w'∧(f=f0 m neg)) ?_ ?_
  ·
   have M1:=erx (No) w;have XM1:=grx (No) w;refine zg rfl (fun hn=>?_) (fun hn=>?_)
   ·
    refine zm ?_;refine za rfl (ow_fneg rfl (zm ?_));exact zt (FloatKind.f64.nearest ((m:Nat):Int) ^^^ 9223372036854775808) ⟨rfl,rfl,rfl,trivial⟩ ⟨M1.step E XM1,by rw[hn,f0,if_pos rfl]⟩
   ·
    refine stp ?_;exact zt (FloatKind.f64.nearest ((m:Nat):Int)) ⟨rfl,rfl,rfl,trivial⟩ ⟨M1.step E XM1,by rw[hn,f0,if_neg (by decide)]⟩
  ·
   rintro f w2 ⟨M1,hf⟩;replace E:=E.trans M1;replace HF:=HF.on E;replace LW:=LW.step E XLW;replace E:=erx (No) w2;have hs:=f0_sgn m neg;rw[←hf] at hs;refine qd ?_;refine zd 18 (.bool (decide (p=0))) rfl (by rw[beq_dec]<;>rfl) (zg rfl (fun h1=>?_) (fun h1=>?_))
   ·
    have h1:=of_decide_eq_true h1;refine yu ?_;exact ⟨by rw[exF_nil h h1,hf];rfl,(LW.step E XLW).toBelow⟩
   ·
    have h1:=of_decide_eq_false h1;refine zu ?_;refine zj 25 rfl (fun h2=>?_) (fun h2=>?_)
    ·
     have h2:=of_decide_eq_true h2;refine zl ?_;refine zg rfl (fun h3=>?_) (fun h3=>?_)
     ·
      have h3:=of_decide_eq_true h3;refine zp ?_;replace HF:=HF.on E;replace LW:=LW.step E XLW;replace E:=erx (No) w2;refine yh (ι:=Nat×Nat) (fun (g,q)=>[(1,.int .i64 ((q:Nat):Int)),(7,.bool false),(6,.float .f64 g)]) (fun (g,q) w'=>Ext (No) w2 w'∧(g=exG f p∧q=exQ p∧q<23∧Sgn neg g)) ?_ ?_
      ·
       have M3:=erx (No) w2;have XM3:=grx (No) w2;refine zg rfl (fun h4=>?_) (fun h4=>?_)
       ·
        have h4:=of_decide_eq_true h4;have hmt:=vfz hs (j:=(p-22).toNat) (by omega);refine zn ?_;refine stpdq274 ?_;refine yl ?_;refine za rfl (jy (j:=(p-22).toNat) u265 sz111 rfl rfl (by omega) (by omega) (stpdq312 ?_));refine za rfl (ow_fV (.inr (.inr (.inl rfl))) rfl rfl hmt.1 (zl ?_));exact zt (zsx (fop .mul f (zrk (p-22).toNat)),22) ⟨rfl,rfl,rfl,trivial⟩ ⟨M3.step E XM3,(exG_hi h4).symm,(exQ_hi h4).symm,by decide,hmt.2⟩
       ·
        have h4:=of_decide_eq_false h4;refine stp ?_;exact zt (f,p.toNat) ⟨congrArg (fun z:Int=>some (Value.int .i64 z)) (by omega),rfl,rfl,trivial⟩ ⟨M3.step E XM3,(exG_lo h4).symm,(exQ_lo h4).symm,by omega,hs⟩
      ·
       rintro ⟨g,q⟩ w4 ⟨M3,⟨hg,hq,hq23,hgs⟩⟩;replace E:=E.trans M3;replace HF:=HF.on E;replace LW:=LW.step E XLW;replace E:=erx (No) w4;have hx:=exF_up (neg:=neg) h h1 ⟨h2,h3⟩ rfl;rw[←hf,←hg,←hq] at hx;refine zx ?_;refine za rfl (ow_fgtr rfl rfl (stp ?_));refine zj 40 rfl (fun h5=>?_) (fun h5=>?_)
       ·
        rw[h5,Bool.true_or,if_pos rfl] at hx;refine yu ?_;exact dqz162
       ·
        rw[h5,Bool.false_or] at hx;refine stp ?_;refine onx rfl (veq rfl rfl (zn ?_));refine zg rfl (fun h6=>?_) (fun h6=>?_)
        ·
         rw[h6,if_pos rfl] at hx;refine zu ?_;exact dqz162
        ·
         rw[h6,if_neg (by decide)] at hx;have hmt:=vfz hgs hq23;refine zu ?_;refine stpdq274 ?_;refine za rfl (jy (j:=q) u265 sz111 rfl rfl rfl hq23 (za rfl (vq u111 rfl rfl (by rw[Nat.mul_one];exact (HF.on E).here.2.ten.cells _ _ (tenRow_at hq23)) (za rfl (ow_fV (.inr (.inr (.inl rfl))) rfl rfl hmt.1 (yi ?_))))));exact dqz162
     ·
      have h3:=of_decide_eq_false h3;refine zu ?_;refine zf 53 (.bool false) rfl (by rw[decide_eq_false (by omega)]<;>rfl) (vp ?_);exact dqz169
    ·
     have h2:=of_decide_eq_false h2;refine vp ?_;refine zf 53 (.bool true) rfl (by rw[decide_eq_true (by omega)]<;>rfl) (zl ?_);refine zg rfl (fun h3=>?_) (fun h3=>?_)
     ·
      have h3:=of_decide_eq_true h3;have hmt:=quo_ten hs (j:=(-p).toNat) (by omega);refine zn ?_;refine stpdq274 ?_;refine zjz ?_;refine za rfl (jy (j:=(-p).toNat) u265 sz111 rfl rfl (by omega) (by omega) (stpdq312 ?_));refine za rfl (ow_fV (.inr (.inr (.inr rfl))) rfl rfl hmt.1 (yi ?_));exact ⟨by rw[exF_down h h1 (by omega) ⟨by omega,h3⟩,hf];rfl,(LW.step E XLW).toBelow⟩
     ·
      have h3:=of_decide_eq_false h3;refine zu ?_;exact dqz169
end
end Go.Proofs.YtmnmebdmpigddaaGreatDoor
namespace Go.Proofs.YtmnmebdmpigddaaGreatDoor
open Go.RowKit
theorem zy {P Q:Prop} (k:Q) (h:(Unit→Q)→P:=by
 intro zK;refine za rfl (qjz u9 rfl ?_);exact zK ()):P:=h fun _=>k
theorem dqz114 {P:Prop} (h:P:=by
 refine qa rfl (yu ?_);refine gr (rs:=[.tmp 2,.tmp 3,.tmp 4]) (vs:=[_,_,_]) rfl ⟨rfl,rfl,rfl,trivial⟩ ?_;exact xi):P:=h
attribute [local irreducible] OW RS CW EW
theorem byte_lt {s:ByteArray} {j u:Nat} (h:(s.data[j]?).map (·.toNat)=some u):j<s.size∧u<256:=by
 obtain ⟨c,h1,rfl⟩:=Option.map_eq_some_iff.1 h;have h2:j<s.data.size:=by
  rcases Nat.lt_or_ge j s.data.size with h3 | h3
  · exact h3
  · rw[Array.getElem?_eq_none h3] at h1;cases h1
 exact ⟨h2,c.toNat_lt⟩
theorem vm {p q:Int} (h:p≠q):(p==q)=false:=beq_eq_false_iff_ne.2 h
theorem or_32 {u:Nat} (h:u<256):IntKind.u8.wrap (BitVec.ofInt IntKind.u8.bits ((u:Nat):Int) ||| BitVec.ofInt IntKind.u8.bits 32).toNat=((u ||| 32:Nat):Int):=by
 have key:∀v:Fin 256,IntKind.u8.wrap (BitVec.ofInt IntKind.u8.bits (v.val:Int) ||| BitVec.ofInt IntKind.u8.bits 32).toNat=((v.val ||| 32:Nat):Int):=by decide +kernel
 exact key ⟨u,h⟩
section
variable (w:World)
theorem lower_any (u:Nat) (hu:u<256):Calls Tryz.prog 180 #[.int .u8 ((u:Nat):Int)] w (RetB w (.int .u8 ((u ||| 32:Nat):Int))):=by
 refine zc Tryz.func180 rfl Tryz.ntmps180 rfl ?_;have LW:=erx (No) w;have XLW:=grx (No) w;have E:=erx (No) w;refine yi ?_;refine za rfl (zaz rfl rfl (or_32 hu) ?_);exact yfx
theorem special_digit (s:ByteArray) (u:Nat) (hu:(s.data[0]?).map (·.toNat)=some u) (hd:48≤u∧u≤57):Calls Tryz.prog 215 #[.string s] w (RetB w (.tuple #[.float .f64 0,.int .i64 0,.bool false])):=by
 have hs:=(byte_lt hu).1;refine zc Tryz.func215 rfl Tryz.ntmps215 rfl ?_;have LW:=erx (No) w;have XLW:=grx (No) w;have E:=erx (No) w;refine yu ?_;refine zy ?_;refine zn ?_;refine zd 10 (.bool false) rfl (by rw[vm (by omega)]) (zxz ?_);refine za rfl (yn (j:=0) (b:=u) u9 rfl rfl rfl hu (yhq ?_));refine zd 13 (.bool false) rfl (by rw[vm (by omega)]<;>rfl) (zl ?_);refine zd 13 (.bool false) rfl (by rw[vm (by omega)]<;>rfl) (yu ?_);refine zd 16 (.bool false) rfl (by rw[vm (by omega)]<;>rfl) (zl ?_);refine zd 16 (.bool false) rfl (by rw[vm (by omega)]<;>rfl) (zz ?_);refine zd 19 (.bool false) rfl (by rw[vm (by omega)]<;>rfl) (zl ?_);refine zd 19 (.bool false) rfl (by rw[vm (by omega)]<;>rfl) (zx ?_);refine qa rfl (stp ?_);refine qa rfl (stp ?_);exact dqz114
end
end Go.Proofs.YtmnmebdmpigddaaGreatDoor
namespace Go.Proofs.YtmnmebdmpigddaaGreatDoor
open Go.RowKit
def sgB (neg:Bool):Nat:=if neg then 9223372036854775808 else 0
theorem sgB_lt (neg:Bool):sgB neg<18446744073709551616:=by cases neg<;>decide
theorem ylx {x:Nat} (h:x≤9218868437227405312) (neg:Bool):Sgn neg (sgB neg ||| x):=by
 cases neg with
 | false=>
  rw[show sgB false=0 from rfl,Nat.zero_or];refine ⟨?_,?_,by omega⟩
  · unfold isN rg;exact decide_eq_false (by omega)
  · unfold ng;exact beq_eq_false_iff_ne.2 (by omega)
 | true=>
  have e:sgB true ||| x=9223372036854775808+x:=by
   have h1:x<2^63:=by show x<9223372036854775808;omega
   have h2:=Nat.two_pow_add_eq_or_of_lt h1 1;have h3:(2^63*1:Nat)=9223372036854775808:=by decide
   rw[h3] at h2;exact h2.symm
  rw[e];refine ⟨?_,?_,by omega⟩
  · unfold isN rg;exact decide_eq_false (by omega)
  · unfold ng;exact beq_iff_eq.2 (by omega)
theorem packF_or (m k:Nat) (neg:Bool):yxz (sgB neg ||| m) k=sgB neg ||| yxz m k:=by
 have e1:sgB neg &&& 4503599627370496=0:=by cases neg<;>decide +kernel
 have e2:sgB neg &&& 9223372036854775808=sgB neg:=by cases neg<;>decide +kernel
 have e3:sgB neg &&& 18442240474082181119=sgB neg:=by cases neg<;>decide +kernel
 unfold yxz packI packN packA yxq;rw[Nat.and_or_distrib_right,Nat.and_or_distrib_right,Nat.and_or_distrib_right,e1,e2,e3,Nat.zero_or];split
 · rfl
 · split
   · rw[Nat.or_assoc]
   · rw[Nat.or_assoc]
theorem fast_sgn {d j:Nat} (neg:Bool) (hd:0<d∧d<18446744073709551616) (hj:3≤j∧j≤658):Sgn neg (qmz d j (sgB neg)):=by
 unfold qmz;split
 · exact ylx (Nat.zero_le _) neg
 · unfold mF;rw[packF_or];exact ylx (packF_tame (roundU_le (vF_lt' (uF_lt hd hj)))) neg
/-! ### the slow way's float -/
theorem slowB_is (m e:Nat) (neg:Bool):slowB m e neg=sgB neg ||| ((m &&& 4503599627370495) ||| e*4503599627370496):=by
 unfold slowB;cases neg with
 | false=>rw[if_neg (by decide),show sgB false=0 from rfl,Nat.zero_or]
 | true=>rw[if_pos rfl,Nat.or_comm];rfl
theorem slow_sgn {m e:Nat} {neg:Bool} (h:e≤2046∨(m=0∧e=2047)):Sgn neg (slowB m e neg):=by
 rw[slowB_is];refine ylx ?_ neg;rcases h with h | ⟨rfl,rfl⟩
 · have h1:m &&& 4503599627370495<2^52:=by
    have:m &&& 4503599627370495≤4503599627370495:=Nat.and_le_right;show m &&& 4503599627370495<4503599627370496;omega
   have h2:=Nat.two_pow_add_eq_or_of_lt h1 e;have h3:(2^52:Nat)=4503599627370496:=by decide
   rw[h3] at h1 h2;rw[Nat.or_comm,Nat.mul_comm e,←h2];omega
 · decide +kernel
def FbOK (r:Nat×Nat×Bool):Prop:=r.2.1≤2046∨(r.1=0∧r.2.1=2047)
theorem fbEnd_ok {t:Dec} {e:Int} (h:e≤1023):FbOK (vbk t e):=by
 unfold vbk;split
 · split
   · exact .inr ⟨rfl,rfl⟩
   · exact .inl (by show (e+1+1023).toNat≤2046;omega)
 · refine .inl ?_;show (if zdv t &&& 4503599627370496=0 then 0 else (e+1023).toNat)≤2046
   split<;>omega
theorem fbMid_ok (t:Dec) (e:Int):FbOK (fbMid t e):=by
 unfold fbMid;split
 · exact fbEnd_ok (by decide)
 · split
   · exact .inr ⟨rfl,rfl⟩
   · exact fbEnd_ok (by omega)
theorem fbAll_ok (t:Dec):FbOK (zfk t):=by
 unfold zfk;split
 · exact .inl (Nat.zero_le _)
 · split
   · exact .inr ⟨rfl,rfl⟩
   · split
     · exact .inl (Nat.zero_le _)
     · exact fbMid_ok _ _
theorem slowF_sgn (t:Dec):Sgn t.neg (ztx t):=slow_sgn (fbAll_ok t)
theorem st_neg (s:ByteArray) (a:StS):(kz s a).t.neg=a.t.neg:=by
 unfold kz;exact dqz136
theorem stA_neg {s:ByteArray} {f p E q:Nat} (neg:Bool) (hs:Nm s f p E q):(stA s f neg).t.neg=neg:=by
 have h:=vj (done:=zgq s) (step:=kz s) (fun a=>StN s f p E q a∧a.t.neg=neg) (fun t=>E-t.i) (fun t h hd=>?_) ⟨qqv neg hs,rfl⟩
 · exact h.1.2
 · obtain ⟨h1,h2⟩:=qrx hs h.1 hd;refine ⟨⟨h1,by rw[st_neg];exact h.2⟩,?_⟩;rw[st_i];omega
theorem setD_neg {s:ByteArray} {f p E q:Nat} (neg:Bool) (hs:Nm s f p E q):(setD s f neg).neg=neg:=stA_neg neg hs
/-! ### both ways together -/
def rangeE:Value:=.iface 183 (.int .i64 1)
noncomputable def rdM (s:ByteArray) (f:Nat):Nat:=(rdA s f).m
noncomputable def rdT (s:ByteArray) (f:Nat):Bool:=(rdA s f).tr
noncomputable def atJ (s:ByteArray) (f:Nat):Nat:=(rdX s f+348).toNat
noncomputable def atF (s:ByteArray) (f:Nat) (neg:Bool):Nat:=qmz (rdM s f) (atJ s f) (sgB neg)
noncomputable def atG (s:ByteArray) (f:Nat) (neg:Bool):Nat:=qmz (rdM s f+1) (atJ s f) (sgB neg)
noncomputable def atL (s:ByteArray) (f:Nat) (neg:Bool):Bool:=xf (atF s f neg) (atG s f neg)==some .eq
noncomputable def atV (s:ByteArray) (f:Nat) (neg:Bool):Nat:=
 if rdM s f=0 then sgB neg ||| 0
 else if 310<rdX s f then sgB neg ||| 9218868437227405312
 else if rdX s f< -345 then sgB neg ||| 0
 else if rdT s f=false∧(exF (rdM s f) (rdX s f) neg).2=true then (exF (rdM s f) (rdX s f) neg).1
 else if rdT s f=false∨atL s f neg=true then atF s f neg
 else ztx (setD s f neg)
noncomputable def atE (s:ByteArray) (f:Nat) (neg:Bool):Value:=
 if rdM s f=0 then .nilIface
 else if 310<rdX s f then rangeE
 else if rdX s f< -345 then .nilIface
 else if rdT s f=false∧(exF (rdM s f) (rdX s f) neg).2=true then .nilIface
 else if rdT s f=false∨atL s f neg=true then qmq (rdM s f) (atJ s f) (sgB neg)
 else if (zfk (setD s f neg)).2.2 then rangeE else .nilIface
theorem packE_or (m k:Nat):vak m k= .nilIface∨vak m k=rangeE:=by
 unfold vak;split
 · exact .inl rfl
 · split
   · exact .inr rfl
   · exact .inl rfl
theorem fastE_or (d j g:Nat):qmq d j g= .nilIface∨qmq d j g=rangeE:=by
 unfold qmq;split
 · exact .inl rfl
 · exact packE_or _ _
theorem atE_or (s:ByteArray) (f:Nat) (neg:Bool):atE s f neg= .nilIface∨atE s f neg=rangeE:=by
 unfold atE;split
 · exact .inl rfl
 · split
   · exact .inr rfl
   · split
     · exact .inl rfl
     · split
       · exact .inl rfl
       · split
         · exact fastE_or _ _ _
         · split
           · exact .inr rfl
           · exact .inl rfl
theorem rdM_lt {s:ByteArray} {f p E q:Nat} (hs:Nm s f p E q):rdM s f<10000000000000000000:=by
 obtain ⟨h,_⟩:=rdA_ends hs;have h1:10^(rdA s f).nm≤10^19:=Nat.pow_le_pow_right (by decide) h.hn;have h2:=h.hm;unfold rdM;have h3:(10:Nat)^19=10000000000000000000:=by decide
 rw[h3] at h1;omega
theorem viz {s:ByteArray} {f p E q:Nat} (neg:Bool) (hs:Nm s f p E q):Sgn neg (atV s f neg):=by
 have hm:=rdM_lt hs;unfold atV;split
 · exact ylx (Nat.zero_le _) neg
 · rename_i h0
   split
   · exact ylx (Nat.le_refl _) neg
   · rename_i h1
     split
     · exact ylx (Nat.zero_le _) neg
     · rename_i h2
       split
       · rename_i h3;exact exF_sgn h3.2
       · split
         · exact fast_sgn neg ⟨by omega,by omega⟩ (by unfold atJ;omega)
         · have:=slowF_sgn (setD s f neg);rwa [setD_neg neg hs] at this
end Go.Proofs.YtmnmebdmpigddaaGreatDoor
namespace Go.Proofs.YtmnmebdmpigddaaGreatDoor
open Go.RowKit
theorem stpdq324 {P Q:Prop} (k:Q) (h:(Unit→Q)→P:=by
 intro zK;refine zm ?_;refine onx rfl (yn (j:=x.i) (b:=bAt s x.i) u9 rfl rfl rfl (qh h7) ?_);exact zK ()):P:=h fun _=>k
theorem zwq {P Q:Prop} (k:Q) (h:(Unit→Q)→P:=by
 intro zK;refine zl ?_;refine yo ?_;refine zm ?_;exact zK ()):P:=h fun _=>k
theorem zjx {P Q:Prop} (k:Q) (h:(Unit→Q)→P:=by
 intro zK;refine zu ?_;refine zy ?_;refine zm ?_;exact zK ()):P:=h fun _=>k
theorem qek {P Q:Prop} (k:Q) (h:(Unit→Q)→P:=by
 intro zK;refine za rfl (yn (j:=0) (b:=bAt s 0) u9 rfl rfl rfl (qh (by omega)) ?_);exact zK ()):P:=h fun _=>k
theorem znv {P Q:Prop} (k:Q) (h:(Unit→Q)→P:=by
 intro zK;refine za rfl (ow_eqlB u4 rfl rfl (zn ?_));exact zK ()):P:=h fun _=>k
theorem dqz147 {P:Prop} (h:P:=by
 exact zt () ⟨rfl,rfl,rfl,rfl,rfl,rfl,rfl,rfl,rfl,trivial⟩ ⟨M1.step E XM1,trivial⟩):P:=h
theorem dqz124 {P:Prop} (h:P:=by
 exact zt t ⟨rfl,rfl,rfl,rfl,rfl,rfl,rfl,rfl,rfl,rfl,rfl,rfl,rfl,rfl,rfl,rfl,rfl,trivial⟩ ⟨M6.step E XM6,hu⟩):P:=h
theorem dqz83 {P:Prop} (h:P:=by
 exact zt () ⟨rfl,rfl,rfl,rfl,rfl,rfl,rfl,rfl,rfl,rfl,rfl,rfl,rfl,trivial⟩ ⟨M3.step E XM3,trivial⟩):P:=h
theorem dqz71 {P:Prop} (h:P:=by
 rcases hx2 with ⟨h9,h10,h11⟩ | ⟨h9,h10⟩
 · rw[if_neg h11,if_neg h10,if_neg h11,←h9,Int.mul_one]
 · rcases h10 with h10 | h10
   · rw[if_neg (by omega),if_pos h10,if_neg (by omega),←h9,Int.mul_one]
   · rw[if_pos h10,if_pos h10,←h9,Int.mul_neg,Int.mul_one]):P:=h
theorem dqz52 {P:Prop} (h:P:=by
 intro w;refine zc Tryz.func180 rfl Tryz.ntmps180 rfl ?_;have LW:=erx (No) w;have XLW:=grx (No) w;have E:=erx (No) w;refine yi ?_;refine za rfl (zaz (z:=101) rfl rfl (by kernel_rfl) (zx ?_));refine gr (rs:=[.tmp 2]) (vs:=[.int .u8 101]) rfl ⟨rfl,trivial⟩ ?_;exact xi):P:=h
theorem dqz12 {P:Prop} (h:P:=by
 by_cases hm0:t.m=0
 ·
  refine zd 241 (.bool false) rfl (by rw[hm0];rfl) (stp25 ?_);refine od ?_;have e2:rdX s f=0:=by unfold rdX;rw[←ht,if_neg (fun h=>h hm0)]
  refine gr (rs:=[.tmp 2,.tmp 3,.tmp 4,.tmp 5,.tmp 6,.tmp 7,.tmp 8]) (vs:=[_,_,_,_,_,_,_]) rfl ⟨rfl,rfl,rfl,rfl,rfl,rfl,rfl,trivial⟩ ?_;exact ⟨by rw[e1,e2,e3];rfl,(LW.step E XLW).toBelow⟩
 ·
  refine zd 241 (.bool true) rfl (bne_b (by omega)) (zx ?_);refine za rfl (jg rfl rfl (yx (by omega)) (stp25 ?_));refine od ?_;have e2:rdX s f=rdP s f-(t.nm:Int):=by unfold rdX;rw[←ht,if_pos hm0]
  refine gr (rs:=[.tmp 2,.tmp 3,.tmp 4,.tmp 5,.tmp 6,.tmp 7,.tmp 8]) (vs:=[_,_,_,_,_,_,_]) rfl ⟨rfl,rfl,rfl,rfl,rfl,rfl,rfl,trivial⟩ ?_;exact ⟨by rw[e1,e2,e3,←hP];rfl,(LW.step E XLW).toBelow⟩):P:=h
theorem dqz3 {P:Prop} (h:P:=by
 refine za rfl (vo rfl rfl (yx (by omega)) (yu ?_));refine zg rfl (fun h5=>?_) (fun h5=>?_)
 ·
  have h5:t.nm<19:=by have h5:=of_decide_eq_true h5;omega
  have hm18:=m_lt hm h5;have hstep:go s t= { t with i:=t.i+1,dig:=true,nd:=t.nd+1,nm:=t.nm+1,m:=t.m*10+(bAt s t.i-48) }:=by unfold go;rw[if_neg hdot,if_neg hnz,if_pos h5]
  rw[hstep] at hkeep hu2;refine zx ?_;refine za rfl (xq rfl rfl (wrap_u64 (by omega)) (zp ?_));refine za rfl (jg rfl rfl (yak (by omega)) (za rfl (jp u25 u5 rfl (wrap_u64 (by omega)) (za rfl (vo rfl rfl (wrap_u64 (by omega)) (zu ?_))))));refine za rfl (vo rfl rfl (yx (by omega)) (zx ?_));refine qa rfl (zu ?_);refine za rfl (vo rfl rfl (yx (by omega)) (zm ?_));refine zq 2 (.int .u64 ((t.m*10+(bAt s t.i-48):Nat):Int)) rfl ((by congr 1;omega:(.int .u64 (((t.m:Int)*10)+(((bAt s t.i:Nat):Int)-48)):Value)=_)) ?_;exact zo ({ t with i:=t.i+1,dig:=true,nd:=t.nd+1,nm:=t.nm+1,m:=t.m*10+(bAt s t.i-48) }) (by show Z-(t.i+1)<Z-t.i;omega) ⟨rfl,rfl,rfl,rfl,rfl,rfl,rfl,rfl,rfl,rfl,rfl,rfl,rfl,rfl,rfl,rfl,rfl,trivial⟩ ⟨M8.step E XM8,hkeep,hu2⟩
 ·
  have h5:¬t.nm<19:=by have h5:=of_decide_eq_false h5;omega
  have hstep:go s t= { t with i:=t.i+1,dig:=true,nd:=t.nd+1,tr:=t.tr || decide (bAt s t.i≠48) }:=by unfold go;rw[if_neg hdot,if_neg hnz,if_neg h5]
  rw[hstep] at hkeep hu2;refine zl ?_;refine zg rfl (fun h6=>?_) (fun h6=>?_)
  ·
   have h6:bAt s t.i≠48:=fun e=>absurd h6 (by rw[e];decide);refine zu ?_;refine qa rfl (zu ?_);refine za rfl (vo rfl rfl (yx (by omega)) (zm ?_));refine zq 5 (.bool (t.tr || decide (bAt s t.i≠48))) rfl ((by rw[decide_eq_true h6,Bool.or_true]:(.bool true:Value)=_)) ?_;exact zo ({ t with i:=t.i+1,dig:=true,nd:=t.nd+1,tr:=t.tr || decide (bAt s t.i≠48) }) (by show Z-(t.i+1)<Z-t.i;omega) ⟨rfl,rfl,rfl,rfl,rfl,rfl,rfl,rfl,rfl,rfl,rfl,rfl,rfl,rfl,rfl,rfl,rfl,trivial⟩ ⟨M8.step E XM8,hkeep,hu2⟩
  ·
   have h6:bAt s t.i=48:=by
    rcases Nat.decEq (bAt s t.i) 48 with h7 | h7
    · rw[bne_iff_ne.2 (by omega)] at h6;cases h6
    · exact h7
   refine zn ?_;refine qa rfl (zu ?_);refine za rfl (vo rfl rfl (yx (by omega)) (zm ?_));refine zq 5 (.bool (t.tr || decide (bAt s t.i≠48))) rfl ((by rw[decide_eq_false (fun h=>h h6),Bool.or_false]:(.bool t.tr:Value)=_)) ?_;exact zo ({ t with i:=t.i+1,dig:=true,nd:=t.nd+1,tr:=t.tr || decide (bAt s t.i≠48) }) (by show Z-(t.i+1)<Z-t.i;omega) ⟨rfl,rfl,rfl,rfl,rfl,rfl,rfl,rfl,rfl,rfl,rfl,rfl,rfl,rfl,rfl,rfl,rfl,trivial⟩ ⟨M8.step E XM8,hkeep,hu2⟩):P:=h
attribute [local irreducible] OW RS CW EW
theorem or32_x {u:Nat} (h:(48≤u∧u≤57)∨u=46∨u=101∨u=0):(u ||| 32)≠120:=by
 rcases h with h | rfl | rfl | rfl
 · have key:∀v:Fin 58,48≤v.val→(v.val ||| 32)≠120:=by decide
   exact key ⟨u,by omega⟩ h.1
 · decide
 · decide
 · decide
theorem m_lt {m n:Nat} (h:m<10^n) (hn:n<19):m<1000000000000000000:=by
 have h1:10^n≤10^18:=Nat.pow_le_pow_right (by decide) (by omega);have h2:(10:Nat)^18=1000000000000000000:=by decide
 omega
theorem Nm.next {s:ByteArray} {f p E q:Nat} (h:Nm s f p E q) (h1:f+1<s.size):(48≤bAt s (f+1)∧bAt s (f+1)≤57)∨bAt s (f+1)=46∨bAt s (f+1)=101∨bAt s (f+1)=0:=by
 have hf:=h.fp;have hp:=h.pE;rcases Nat.lt_or_ge (f+1) E with h2 | h2
 · rcases h.at_ (i:=f+1) (by omega) h2 with h3 | h3
   · exact .inl h3.2
   · exact .inr (.inl h3.2)
 · have e:E=f+1:=by omega
   rw[←e];exact .inr (.inr (.inl (h.exp (by omega)).1))
theorem Nm.first {s:ByteArray} {f p E q:Nat} (h:Nm s f p E q):48≤bAt s f∧bAt s f≤57:=h.dig1 f (Nat.le_refl _) h.fp
theorem Nm.size {s:ByteArray} {f p E q:Nat} (h:Nm s f p E q):f<s.size:=by have:=h.fp;have:=h.pE;have:=h.hE;omega
theorem bne_b {m:Nat} (h:m≠0):((.bool (((m:Nat):Int) !=0)):Value)= .bool true:=by rw[bne_iff_ne.2 (by omega)]
def SgnAt (s:ByteArray) (f:Nat) (neg:Bool):Prop:=(neg=false∧f=0)∨(neg=true∧f=1∧bAt s 0=45)
theorem SgnAt.neg {s:ByteArray} {f:Nat} {neg:Bool} (h:SgnAt s f neg) (hn:neg=true):f=1∧bAt s 0=45:=by
 rcases h with h | h
 · rw[h.1] at hn;cases hn
 · exact h.2
theorem SgnAt.pos {s:ByteArray} {f:Nat} {neg:Bool} (h:SgnAt s f neg) (hn:¬neg=true):f=0:=by
 rcases h with h | h
 · exact h.2
 · exact absurd h.1 hn
theorem pr2180_1:Gives 180 #[.int .u8 101] (.int .u8 101):=by
 exact dqz52
section
variable (w:World)
theorem readf_any (s:ByteArray) (f:Nat) (neg:Bool) {p Z q:Nat} (hsg:SgnAt s f neg) (hs:Nm s f p Z q) (hl:s.size<100000):Calls Tryz.prog 216 #[.string s] w (RetB w (.tuple #[.int .u64 ((rdM s f:Nat):Int),.int .i64 (rdX s f),.bool neg,.bool (rdT s f),.bool false,.int .i64 (s.size:Int),.bool true])):=by
 have hfs:f<s.size:=hs.size;have hfd:=hs.first;refine zc Tryz.func216 rfl Tryz.ntmps216 rfl ?_;have LW:=erx (No) w;have XLW:=grx (No) w;have E:=erx (No) w;refine yu ?_;refine cw_scope 4 (zz ?_);refine zy ?_;refine zn ?_;refine zd 24 (.bool false) rfl (by rw[decide_eq_false (by omega)]<;>rfl) (yi ?_);refine qek ?_;refine zm ?_;replace LW:=LW.step E XLW;replace E:=erx (No) w;refine yh (ι:=Unit) (fun _=>[(0,.string s),(2,.int .u64 0),(3,.int .i64 0),(4,.bool neg),(5,.bool false),(6,.bool false),(7,.int .i64 ((f:Nat):Int)),(8,.bool false),(9,.bool false)]) (fun _ w'=>Ext (No) w w'∧(True)) ?_ ?_
 ·
  have M1:=erx (No) w;have XM1:=grx (No) w;refine zp ?_;by_cases hneg:neg=true
  ·
   obtain ⟨hf1,h45⟩:=hsg.neg hneg;refine zd 28 (.bool false) rfl (by rw[h45];rfl) (zp ?_);refine zd 32 (.bool true) rfl (by rw[h45];rfl) (zx ?_);refine za rfl (vo (z:=1) rfl rfl (by kernel_rfl) (zp ?_));refine zq 4 (.bool neg) rfl ((by rw[hneg]:(.bool true:Value)=_)) (zq 7 (.int .i64 ((f:Nat):Int)) rfl ((by rw[hf1];rfl:(.int .i64 1:Value)=_)) ?_);exact dqz147
  ·
   have hf0:=hsg.pos hneg;rw[hf0] at hfd;refine zd 28 (.bool false) rfl (by rw[vm (by omega)]<;>rfl) (zp ?_);refine zd 32 (.bool false) rfl (by rw[vm (by omega)]<;>rfl) (zn ?_);refine zq 4 (.bool neg) rfl ((by rw[Bool.eq_false_iff.2 hneg]:(.bool false:Value)=_)) (zq 7 (.int .i64 ((f:Nat):Int)) rfl ((by rw[hf0];rfl:(.int .i64 0:Value)=_)) ?_);exact dqz147
 ·
  rintro _ w2 ⟨M1,_⟩;replace E:=E.trans M1;replace LW:=LW.step E XLW;replace E:=erx (No) w2;refine zxz ?_;replace LW:=LW.step E XLW;replace E:=erx (No) w2;refine yh (ι:=Unit) (fun _=>[(0,.string s),(2,.int .u64 0),(3,.int .i64 0),(4,.bool neg),(5,.bool false),(6,.bool false),(7,.int .i64 ((f:Nat):Int)),(8,.bool false),(9,.bool false),(10,.int .u64 10),(11,.int .i64 19),(12,.int .u8 101),(54,.bool false)]) (fun _ w'=>Ext (No) w2 w'∧(True)) ?_ ?_
  ·
   have M3:=erx (No) w2;have XM3:=grx (No) w2;refine zm ?_;refine yo ?_;refine stp ?_;refine zy ?_;refine zm ?_;refine zj 41 rfl (fun hl=>?_) (fun hl=>?_)
   ·
    have hl:=of_decide_eq_true hl;refine zm ?_;refine onx rfl (yn (j:=f) (b:=bAt s f) u9 rfl rfl rfl (qh hfs) (zn ?_));refine zj 47 rfl (fun hz=>?_) (fun hz=>?_)
    ·
     refine zm ?_;refine onx rfl (vo rfl rfl (yx (by omega)) (onx rfl (yn (j:=f+1) (b:=bAt s (f+1)) u9 rfl rfl rfl (qh (by omega)) (onx rfl (zb en180 rfl ((lower_any _ (bAt s (f+1)) (bAt_lt _ _)).mono ?_))))));rintro e w5 ⟨rfl,hb⟩;refine ⟨_,rfl,?_⟩;replace E:=blx E hb;have hx:=or32_x (hs.next (by omega));refine zn ?_;refine zq 54 (.bool false) rfl ((by rw[vm (by omega)]:(.bool (((bAt s (f+1) ||| 32:Nat):Int)==120):Value)=_)) ?_;exact dqz83
    ·
     refine yi ?_;exact dqz83
   ·
    refine jm ?_;exact dqz83
  ·
   rintro _ w4 ⟨M3,_⟩;replace E:=E.trans M3;replace LW:=LW.step E XLW;replace E:=erx (No) w4;refine stp29 ?_;refine cw_label (zm ?_);replace LW:=LW.step E XLW;replace E:=erx (No) w4;refine yh (ι:=RdS) (fun t=>[(0,.string s),(2,.int .u64 (t.m:Int)),(3,.int .i64 0),(4,.bool neg),(5,.bool t.tr),(6,.bool false),(7,.int .i64 (t.i:Int)),(8,.bool false),(9,.bool false),(10,.int .u64 10),(11,.int .i64 19),(12,.int .u8 101),(13,.bool t.dot),(14,.bool t.dig),(15,.int .i64 (t.nd:Int)),(16,.int .i64 (t.nm:Int)),(17,.int .i64 t.dp)]) (fun t w'=>Ext (No) w4 w'∧(t=rdA s f)) ?_ ?_
   ·
    have M6:=erx (No) w4;have XM6:=grx (No) w4;refine stp ?_;replace M6:=M6.step E XM6;replace E:=erx (No) w4;refine yw (ι:=RdS) (fun t=>[(0,.string s),(2,.int .u64 (t.m:Int)),(3,.int .i64 0),(4,.bool neg),(5,.bool t.tr),(6,.bool false),(7,.int .i64 (t.i:Int)),(8,.bool false),(9,.bool false),(10,.int .u64 10),(11,.int .i64 19),(12,.int .u8 101),(13,.bool t.dot),(14,.bool t.dig),(15,.int .i64 (t.nd:Int)),(16,.int .i64 (t.nm:Int)),(17,.int .i64 t.dp)]) (fun t w'=>Ext (No) w4 w'∧(RdN s f p Z q t∧qk (zez s) (go s) t=rdA s f)) (fun t=>Z-t.i) (⟨f,0,0,0,0,false,false,false⟩) ⟨rfl,rfl,rfl,rfl,rfl,rfl,rfl,rfl,rfl,rfl,rfl,rfl,rfl,rfl,rfl,rfl,rfl,trivial⟩ ⟨Ext.refl _ _,rdN_start hs,rfl⟩ ?_;rintro t w9 ⟨M8,⟨hI,hu⟩⟩;have XM8:=grx (No) w4;replace E:=E.trans M8;replace M6:=M6.step E XM6;replace E:=erx (No) w9;have hsE:=hs.hE;have hiE:=hI.iE;have hti:=hI.hi;have hnd:=hI.hd;have hdp:=hI.hp;have hm:=hI.hm;have hfi:=hI.fi;refine zu ?_;refine zy ?_;refine zn ?_;refine zg rfl (fun h1=>?_) (fun h1=>?_)
    ·
     have h1:t.i<s.size:=by have h1:=of_decide_eq_true h1;omega
     refine qd ?_;refine za rfl (yn (j:=t.i) (b:=bAt s t.i) u9 rfl rfl rfl (qh h1) ?_);by_cases hE2:t.i<Z
     ·
      have hdone:=rdN_cont hs hI hE2;have hkeep:=(rdN_keeps hs hI hdone).1;have hu2:=hu;rw[qp hdone] at hu2;have hc:=hs.at_ hfi hE2;have hb:=bAt_lt s t.i;refine yi ?_;refine znv ?_;refine zd 66 (.bool false) rfl (by rw[vm (by omega)];rfl) ?_;by_cases hdot:bAt s t.i=46
      ·
       have hstep:go s t= { t with i:=t.i+1,dot:=true,dp:=t.nd }:=by unfold go;rw[if_pos hdot]
       have hnodot:t.dot=false:=by
        rcases hc with ⟨_,h3⟩ | ⟨h3,_⟩
        · omega
        · cases h4:t.dot with
          | false=>rfl
          | true=>have:=hI.dt h4;omega
       rw[hstep] at hkeep hu2;refine zu ?_;refine znv ?_;refine zd 70 (.bool true) rfl (by rw[hdot];rfl) (zp ?_);refine zd 74 (.bool false) rfl (by rw[hnodot]<;>rfl) (ky ?_);refine qa rfl (je ?_);exact zo ({ t with i:=t.i+1,dot:=true,dp:=t.nd }) (by show Z-(t.i+1)<Z-t.i;omega) ⟨rfl,rfl,rfl,rfl,rfl,rfl,rfl,rfl,rfl,rfl,rfl,rfl,rfl,rfl,rfl,rfl,rfl,trivial⟩ ⟨M8.step E XM8,hkeep,hu2⟩
      ·
       have hc:48≤bAt s t.i∧bAt s t.i≤57:=by omega
       refine zu ?_;refine znv ?_;refine zd 70 (.bool false) rfl (by rw[vm (by omega)];rfl) (zl ?_);refine zf 79 (.bool true) rfl (by rw[decide_eq_true (by omega)]<;>rfl) (zn ?_);refine znv ?_;refine zd 76 (.bool true) rfl (by rw[decide_eq_true (by omega)];rfl) (vp ?_);refine zj 86 rfl (fun h3=>?_) (fun h3=>?_)
       ·
        have h3:bAt s t.i=48:=by have h3:=eq_of_beq h3;omega
        refine zu ?_;refine zg rfl (fun h4=>?_) (fun h4=>?_)
        ·
         have h4:t.nd=0:=by have h4:=eq_of_beq h4;omega
         have hstep:go s t= { t with i:=t.i+1,dig:=true,dp:=t.dp-1 }:=by unfold go;rw[if_neg hdot,if_pos ⟨h3,h4⟩]
         rw[hstep] at hkeep hu2;refine zn ?_;refine yl ?_;refine zu ?_;refine qa rfl (je ?_);exact zo ({ t with i:=t.i+1,dig:=true,dp:=t.dp-1 }) (by show Z-(t.i+1)<Z-t.i;omega) ⟨rfl,rfl,rfl,rfl,rfl,rfl,rfl,rfl,rfl,rfl,rfl,rfl,rfl,rfl,rfl,rfl,rfl,trivial⟩ ⟨M8.step E XM8,hkeep,hu2⟩
        ·
         have hnz:¬(bAt s t.i=48∧t.nd=0):=fun h=>absurd h4 (by rw[h.2];decide);refine zu ?_;exact dqz3
       ·
        have hnz:¬(bAt s t.i=48∧t.nd=0):=fun h=>absurd h3 (by rw[h.1];decide);refine yu ?_;exact dqz3
     ·
      have hdone:zez s t=true:=by
       have e:t.i=Z:=by omega
       unfold zez;rw[Bool.or_eq_true];right
       rw[e,(hs.exp (by omega)).1];rfl
      have hb:bAt s t.i=101:=by
       have e:t.i=Z:=by omega
       rw[e];exact (hs.exp (by omega)).1
      rw[yp hdone] at hu;refine yi ?_;refine znv ?_;refine zd 66 (.bool false) rfl (by rw[hb];rfl) (zu ?_);refine znv ?_;refine zd 70 (.bool false) rfl (by rw[hb];rfl) (zl ?_);refine zf 79 (.bool true) rfl (by rw[hb];rfl) (zn ?_);refine znv ?_;refine zd 76 (.bool false) rfl (by rw[hb];rfl) (ky ?_);refine za rfl (ow_eqlB u4 rfl rfl (yi ?_));refine qa rfl (zn ?_);exact dqz124
    ·
     have h1:¬t.i<s.size:=by have h1:=of_decide_eq_false h1;omega
     have hdone:zez s t=true:=by
      unfold zez;rw[decide_eq_true (by omega)];rfl
     rw[yp hdone] at hu;refine zx ?_;exact dqz124
   ·
    rintro t w7 ⟨M6,ht⟩;replace E:=E.trans M6;replace LW:=LW.step E XLW;replace E:=erx (No) w7;obtain ⟨hR,hRi⟩:=rdA_ends hs;rw[←ht] at hR hRi;have e1:rdM s f=t.m:=by unfold rdM;rw[ht]
    have e3:rdT s f=t.tr:=by unfold rdT;rw[ht]
    have hfp:=hs.fp;have hpE:=hs.pE;have hsE:=hs.hE;have hdig:t.dig=true:=hR.dg (by omega);have hnd:=hR.hd;have hdp:=hR.hp;have hnm:=hR.hn;have hti:=hR.hi;refine zp ?_;refine zd 140 (.bool false) rfl (by rw[hdig];rfl) (zz ?_);replace LW:=LW.step E XLW;replace E:=erx (No) w7;refine yh (ι:=Int) (fun d2=>[(0,.string s),(2,.int .u64 (t.m:Int)),(3,.int .i64 0),(4,.bool neg),(5,.bool t.tr),(6,.bool false),(7,.int .i64 (t.i:Int)),(8,.bool false),(9,.bool false),(10,.int .u64 10),(12,.int .u8 101),(16,.int .i64 (t.nm:Int)),(17,.int .i64 d2)]) (fun d2 w'=>Ext (No) w7 w'∧(d2=(if t.dot then t.dp else (t.nd:Int)))) ?_ ?_
    ·
     have M10:=erx (No) w7;have XM10:=grx (No) w7;by_cases hdd:t.dot=true
     ·
      refine zd 142 (.bool false) rfl (by rw[hdd];rfl) (zm ?_);exact zt t.dp ⟨rfl,rfl,rfl,rfl,rfl,rfl,rfl,rfl,rfl,rfl,rfl,rfl,rfl,trivial⟩ ⟨M10.step E XM10,by rw[hdd,if_pos rfl]⟩
     ·
      refine zd 142 (.bool true) rfl (by rw[Bool.eq_false_iff.2 hdd];rfl) (zu ?_);exact zt (t.nd:Int) ⟨rfl,rfl,rfl,rfl,rfl,rfl,rfl,rfl,rfl,rfl,rfl,rfl,rfl,trivial⟩ ⟨M10.step E XM10,by rw[if_neg hdd]⟩
    ·
     rintro d2 w11 ⟨M10,hd2⟩;replace E:=E.trans M10;replace LW:=LW.step E XLW;replace E:=erx (No) w11;have hb2:-100000≤d2∧d2≤100000:=by rw[hd2];split<;>omega
     have hP0:rdP s f=d2+zrv s Z:=by unfold rdP;rw[←ht,hRi,hd2]
     by_cases he:Z<s.size
     ·
      obtain ⟨hx1,hx2,hx3,hx4⟩:=hs.exp he;have hb:bAt s t.i=101:=by rw[hRi];exact hx1
      refine ky ?_;refine zy ?_;refine zm ?_;refine zf 154 (.bool true) rfl (by rw[decide_eq_true (by omega)]<;>rfl) (zm ?_);refine onx rfl (yn (j:=t.i) (b:=bAt s t.i) u9 rfl rfl rfl (qh (by omega)) (zf 157 (.int .u8 101) rfl (by rw[hb];rfl) (onx rfl (zb en180 rfl ((pr2180_1 _).mono ?_)))));rintro e w12 ⟨rfl,hb⟩;refine ⟨_,rfl,?_⟩;replace E:=blx E hb;refine qd ?_;refine yo ?_;refine yi ?_;refine zy ?_;refine zn ?_;refine zd 167 (.bool false) rfl (by rw[decide_eq_false (by omega)]<;>rfl) (jt ?_);refine za rfl (yn (j:=t.i+1) (b:=bAt s (t.i+1)) u9 rfl rfl rfl (qh (by omega)) ?_);rw[←hRi] at hx2;refine zm ?_;replace LW:=LW.step E XLW;replace E:=erx (No) w12;refine yh (ι:=Nat×Int) (fun (k,g)=>[(0,.string s),(2,.int .u64 (t.m:Int)),(3,.int .i64 0),(4,.bool neg),(5,.bool t.tr),(6,.bool false),(7,.int .i64 ((k:Nat):Int)),(8,.bool false),(9,.bool false),(16,.int .i64 (t.nm:Int)),(17,.int .i64 d2),(19,.int .i64 g)]) (fun (k,g) w'=>Ext (No) w12 w'∧(k=q∧g=(if bAt s (t.i+1)=45 then -1 else 1))) ?_ ?_
      ·
       have M13:=erx (No) w12;have XM13:=grx (No) w12;refine zp ?_;by_cases c43:bAt s (t.i+1)=43
       ·
        refine zd 171 (.bool true) rfl (by rw[c43];rfl) (zn ?_);refine yo ?_;refine zn ?_;exact zt (t.i+2,1) ⟨rfl,rfl,rfl,rfl,rfl,rfl,rfl,rfl,rfl,rfl,rfl,rfl,trivial⟩ ⟨M13.step E XM13,by omega,by rw[if_neg (by omega)]⟩
       ·
        refine zd 171 (.bool false) rfl (by rw[vm (by omega)]<;>rfl) (zp ?_);by_cases c45:bAt s (t.i+1)=45
        ·
         refine zd 175 (.bool true) rfl (by rw[c45];rfl) (zx ?_);refine yo ?_;refine zp ?_;exact zt (t.i+2,-1) ⟨rfl,rfl,rfl,rfl,rfl,rfl,rfl,rfl,rfl,rfl,rfl,rfl,trivial⟩ ⟨M13.step E XM13,by omega,by rw[if_pos c45]⟩
        ·
         refine zd 175 (.bool false) rfl (by rw[vm (by omega)]<;>rfl) (zn ?_);exact zt (t.i+1,1) ⟨rfl,rfl,rfl,rfl,rfl,rfl,rfl,rfl,rfl,rfl,rfl,rfl,trivial⟩ ⟨M13.step E XM13,by omega,by rw[if_neg c45]⟩
      ·
       rintro ⟨k,g⟩ w14 ⟨M13,⟨hk,hg⟩⟩;replace E:=E.trans M13;replace LW:=LW.step E XLW;replace E:=erx (No) w14;subst hk;have hdq:=hx4 k (Nat.le_refl _) hx3;refine zjx ?_;refine zf 183 (.bool false) rfl (by rw[decide_eq_false (by omega)]<;>rfl) (zm ?_);refine onx rfl (yn (j:=k) (b:=bAt s k) u9 rfl rfl rfl (qh hx3) (zn ?_));refine zf 189 (.bool false) rfl (by rw[decide_eq_false (by omega)]<;>rfl) (zm ?_);refine onx rfl (yn (j:=k) (b:=bAt s k) u9 rfl rfl rfl (qh hx3) (zx ?_));refine zd 194 (.bool false) rfl (by rw[decide_eq_false (by omega)]<;>rfl) (qd ?_);replace LW:=LW.step E XLW;replace E:=erx (No) w14;refine yh (ι:=ExS) (fun x=>[(0,.string s),(2,.int .u64 (t.m:Int)),(3,.int .i64 0),(4,.bool neg),(5,.bool t.tr),(6,.bool false),(7,.int .i64 (x.i:Int)),(8,.bool false),(9,.bool false),(16,.int .i64 (t.nm:Int)),(17,.int .i64 d2),(19,.int .i64 g),(20,.int .i64 (x.e:Int))]) (fun x w'=>Ext (No) w14 w'∧(x=exA s k)) ?_ ?_
       ·
        have M15:=erx (No) w14;have XM15:=grx (No) w14;refine stp ?_;replace M15:=M15.step E XM15;replace E:=erx (No) w14;refine yw (ι:=ExS) (fun x=>[(0,.string s),(2,.int .u64 (t.m:Int)),(3,.int .i64 0),(4,.bool neg),(5,.bool t.tr),(6,.bool false),(7,.int .i64 (x.i:Int)),(8,.bool false),(9,.bool false),(16,.int .i64 (t.nm:Int)),(17,.int .i64 d2),(19,.int .i64 g),(20,.int .i64 (x.e:Int))]) (fun x w'=>Ext (No) w14 w'∧(ExI s k x∧qk (oi s) (zlk s) x=exA s k)) (fun x=>s.size-x.i) (⟨k,0⟩) ⟨rfl,rfl,rfl,rfl,rfl,rfl,rfl,rfl,rfl,rfl,rfl,rfl,rfl,trivial⟩ ⟨Ext.refl _ _,⟨⟨Nat.le_refl _,Nat.le_of_lt hx3⟩,by show 0<100000;decide⟩,rfl⟩ ?_;rintro x w18 ⟨M17,⟨hI,hu⟩⟩;have XM17:=grx (No) w14;replace E:=E.trans M17;replace M15:=M15.step E XM15;replace E:=erx (No) w18;have hhi:=hI.hi;have hhe:=hI.he;refine zjx ?_;refine zj 199 rfl (fun h7=>?_) (fun h7=>?_)
        ·
         have h7:x.i<s.size:=by have h7:=of_decide_eq_true h7;omega
         have hc:=hx4 x.i hhi.1 h7;have hdone:oi s x=false:=by unfold oi;rw[decide_eq_false (by omega),qlx hc];rfl
         have hkeep:=(ex_keeps hI hdone).1;rw[qp hdone] at hu;refine stpdq324 ?_;refine zm ?_;refine zf 204 (.bool true) rfl (by rw[decide_eq_true (by omega)]<;>rfl) (stpdq324 ?_);refine zn ?_;refine zf 210 (.bool true) rfl (by rw[decide_eq_true (by omega)]<;>rfl) (yhq ?_);refine za rfl (yn (j:=x.i) (b:=bAt s x.i) u9 rfl rfl rfl (qh h7) (zn ?_));refine zd 222 (.bool false) rfl (by rw[vm (by omega)]<;>rfl) (qd ?_);refine zg rfl (fun h8=>?_) (fun h8=>?_)
         ·
          have h8:x.e<10000:=by have h8:=of_decide_eq_true h8;omega
          have hstep:zlk s x= ⟨x.i+1,x.e*10+(bAt s x.i-48)⟩:=by unfold zlk;rw[if_pos h8]
          rw[hstep] at hkeep hu;refine zm ?_;refine qcz ?_;refine zm ?_;refine za rfl (yn (j:=x.i) (b:=bAt s x.i) u9 rfl rfl rfl (qh h7) (qev ?_));refine yl ?_;refine zwq ?_;refine zq 20 (.int .i64 ((x.e*10+(bAt s x.i-48):Nat):Int)) rfl ((by congr 1;omega:(.int .i64 ((((x.e:Int)*10)+((bAt s x.i:Nat):Int))-48):Value)=_)) ?_;exact zo (⟨x.i+1,x.e*10+(bAt s x.i-48)⟩) (by show s.size-(x.i+1)<s.size-x.i;omega) ⟨rfl,rfl,rfl,rfl,rfl,rfl,rfl,rfl,rfl,rfl,rfl,rfl,rfl,trivial⟩ ⟨M17.step E XM17,hkeep,hu⟩
         ·
          have h8:¬x.e<10000:=by have h8:=of_decide_eq_false h8;omega
          have hstep:zlk s x= ⟨x.i+1,x.e⟩:=by unfold zlk;rw[if_neg h8]
          rw[hstep] at hkeep hu;refine je ?_;exact zo (⟨x.i+1,x.e⟩) (by show s.size-(x.i+1)<s.size-x.i;omega) ⟨rfl,rfl,rfl,rfl,rfl,rfl,rfl,rfl,rfl,rfl,rfl,rfl,rfl,trivial⟩ ⟨M17.step E XM17,hkeep,hu⟩
        ·
         have h7:¬x.i<s.size:=by have h7:=of_decide_eq_false h7;omega
         have hdone:oi s x=true:=by unfold oi;rw[decide_eq_true (by omega)];rfl
         rw[yp hdone] at hu;refine stp24 ?_;exact zt x ⟨rfl,rfl,rfl,rfl,rfl,rfl,rfl,rfl,rfl,rfl,rfl,rfl,rfl,trivial⟩ ⟨M15.step E XM15,hu⟩
       ·
        rintro x w16 ⟨M15,hx⟩;replace E:=E.trans M15;replace LW:=LW.step E XLW;replace E:=erx (No) w16;obtain ⟨hI,hdx⟩:=yoz (s:=s) (q:=k) (by omega);rw[←hx] at hI hdx;have hxi:=ex_out hx4 hI hdx;have hxe:=hI.he;have hX:IntKind.i64.wrap ((x.e:Int)*g)=zrv s Z:=by
         have e9:zrv s Z=(x.e:Int)*g:=by
          unfold zrv;rw[if_neg (by omega),←hRi,hg,hx];exact dqz71
         have h12:=qmv hs;rw[←e9];exact yx (by omega)
        have h12:=qmv hs;refine zx ?_;refine za rfl (xq rfl rfl hX (yo ?_));refine zz ?_;refine zd 7 (.int .i64 (s.size:Int)) rfl (by rw[hxi]<;>rfl) ?_;have hP:d2+zrv s Z=rdP s f:=hP0.symm;exact dqz12
     ·
      have hz:zrv s Z=0:=by unfold zrv;rw[if_pos (by omega)]
      refine ky ?_;refine zy ?_;refine zm ?_;refine zf 154 (.bool false) rfl (by rw[decide_eq_false (by omega)]<;>rfl) (stp26 ?_);refine zd 7 (.int .i64 (s.size:Int)) rfl (by congr 1;omega) ?_;have hP:d2=rdP s f:=by rw[hP0,hz,Int.add_zero]
      exact dqz12
end
end Go.Proofs.YtmnmebdmpigddaaGreatDoor
namespace Go.Proofs.YtmnmebdmpigddaaGreatDoor
open Go.RowKit
theorem dqz131 {P:Prop} (h:P:=by
 refine qq ?_;intro vs X wq K;exact ow_indexAddrS (j:=i) u46 sz5 rfl rfl rfl h2 ⟨Below.refl _ _,Left.of rfl⟩):P:=h
theorem dqz129 {P:Prop} (h:P:=by
 have h1:2^k≤2^60:=Nat.pow_le_pow_right (by decide) hk;have h2:(2:Nat)^60=1152921504606846976:=by decide
 omega):P:=h
theorem dqz122 {P:Prop} (h:P:=by
 intro vs X wq K;exact yn (j:=i) (b:=bAt c i) u9 rfl rfl rfl (qh (by omega)) ⟨Below.refl _ _,Left.of rfl⟩):P:=h
theorem dqz111 {P:Prop} (h:P:=by
 refine qq ?_;intro vs X wq K;have LE:=K.1;exact ye Tryz.underlying3 rfl rfl (Ba.drew.extN LE NotIn.nil) (yiz hl1 n rfl) ⟨Below.refl _ _,Left.of rfl⟩):P:=h
theorem dqz99 {P:Prop} (h:P:=by
 refine qq ?_;intro vs X wq K;have LE:=K.1;exact ye u5 rfl rfl (HF.on (E.drew.trans (LE.mono OY))).here.2 (dec_at hl (by omega)) ⟨Below.refl _ _,Left.of rfl⟩):P:=h
theorem zlx {P:Prop} (h:P:=by
 exact ⟨by rw[e];rfl,(LW.step E XLW).toBelow⟩):P:=h
attribute [local irreducible] OW RS CW EW
theorem trimN_on {d:List Nat} {n:Nat} (h0:n≠0) (h:dg d (n-1)=48):kj d n=kj d (n-1):=by
 obtain ⟨m,rfl⟩:∃m,n=m+1:=⟨n-1,by omega⟩;rw[Nat.add_sub_cancel] at h ⊢;rw[kj,if_pos h]
theorem trimN_off {d:List Nat} {n:Nat} (h0:n≠0) (h:dg d (n-1)≠48):kj d n=n:=by
 obtain ⟨m,rfl⟩:∃m,n=m+1:=⟨n-1,by omega⟩;rw[Nat.add_sub_cancel] at h;rw[kj,if_neg h]
theorem preLess_at {b l:List Nat} {i x y:Nat} (hb:b[i]? =some x) (hl:l[i]? =some y):jd (b.drop i) (l.drop i)=if x=y then jd (b.drop (i+1)) (l.drop (i+1)) else decide (x<y):=by
 obtain ⟨h1,h2⟩:=List.getElem?_eq_some_iff.1 hb;obtain ⟨h3,h4⟩:=List.getElem?_eq_some_iff.1 hl;rw[List.drop_eq_getElem_cons h1,List.drop_eq_getElem_cons h3,h2,h4];rfl
theorem preLess_end (b:List Nat) {l:List Nat} {i:Nat} (h:l.length≤i):jd b (l.drop i)=false:=by
 rw[List.drop_eq_nil_of_le h];cases b<;>rfl
theorem preLess_short {b l:List Nat} {i:Nat} (h:b.length≤i) (h2:i<l.length):jd (b.drop i) (l.drop i)=true:=by
 rw[List.drop_eq_nil_of_le h,List.drop_eq_getElem_cons h2];rfl
theorem take_at {d:List Nat} {n i:Nat} (hi:i<n) (hn:n≤d.length):(d.take n)[i]? =some (dg d i):=by
 rw[List.getElem?_take,if_pos hi,dg_at (by omega)]
theorem two60 {n k:Nat} (h:n<2^k) (hk:k≤60):n<1152921504606846976:=by
 exact dqz129
theorem two64 {n k:Nat} (h:n<10*2^k) (hk:k≤60):n<11529215046068469760:=by
 exact dqz129
theorem beq_0 {m:Nat} (h:m≠0):((.bool (((m:Nat):Int)==0)):Value)= .bool false:=by rw[beq_eq_false_iff_ne.2 (by omega)]
theorem yiz {t:Dec} (h:t.d.length=800) (n:Nat) (e:t.nd=n):(yj t)[800]? =some (.int .i64 ((n:Nat):Int)):=e▸dec_nd h
theorem dpAt {t:Dec} (h:t.d.length=800) (p:Int) (e:t.dp=p):(yj t)[801]? =some (.int .i64 p):=e▸dec_dp h
theorem ngAt {t:Dec} (h:t.d.length=800) (b:Bool) (e:t.neg=b):(yj t)[802]? =some (.bool b):=e▸dec_neg h
theorem trAt {t:Dec} (h:t.d.length=800) (b:Bool) (e:t.tr=b):(yj t)[803]? =some (.bool b):=e▸dec_tr h
theorem dAt {t:Dec} (h:t.d.length=800) (b j:Nat) (e:dg t.d j=b) (hj:j<800):(yj t)[j]? =some (.int .u8 ((b:Nat):Int)):=e▸dec_at h hj
theorem in_ {t:Dec} (h:t.d.length=800) {j:Nat} (hj:j<804):j<(yj t).size:=by rw[dec_size h];exact hj
section
variable (w:World)
theorem trim_any (ga:Nat) (t:Dec) (hl:t.d.length=800) (hn:t.nd≤800) (hB:Blk w ga 229 (yj t)) :
 Calls Tryz.prog 269 #[.pointer (some ⟨ga,0,none⟩)] w fun e w'=>e= .returned (.tuple #[])∧Blk w' ga 229 (yj (qbq t))∧Ext (Mut [some ga]) w w':=by
 refine zc Tryz.func269 rfl Tryz.ntmps269 rfl ?_;have Ba:=hB;have LW:=erx (Mut [(some ga)]) w;have XLW:=grx (Mut [(some ga)]) w;have E:=erx (Mut [(some ga)]) w;refine stp ?_;replace LW:=LW.step E XLW;replace E:=erx (Mut [(some ga)]) w;refine yh (ι:=Unit) (fun _=>[(0,.pointer (some ⟨ga,0,none⟩))]) (fun _ w'=>Ext (Mut [(some ga)]) w w'∧Blk w' ga 229 (yj { t with nd:=kj t.d t.nd })∧(True)) ?_ ?_
 ·
  have M1:=erx (Mut [(some ga)]) w;have XM1:=grx (Mut [(some ga)]) w;refine stp ?_;replace M1:=M1.step E XM1;replace E:=erx (Mut [(some ga)]) w;refine yw (ι:=Nat) (fun n=>[(0,.pointer (some ⟨ga,0,none⟩))]) (fun n w'=>Ext (Mut [(some ga)]) w w'∧Blk w' ga 229 (yj { t with nd:=n })∧(n≤800∧kj t.d n=kj t.d t.nd)) (fun n=>n) t.nd ⟨rfl,trivial⟩ ⟨Ext.refl _ _,(by exact Ba),hn,rfl⟩ ?_;have LTa:=(ze Ba.lt);clear Ba;rintro n w4 ⟨M3,Ba,⟨hn8,he⟩⟩;have XM3:Gro (Mut [(some ga)]) (Mut [(some ga)]) w:=(Mut.grow Mut.none_ (fun k e=>Or.inl (Mut.head k e)));replace E:=E.trans M3;replace M1:=M1.step E XM1;replace E:=erx (Mut [(some ga)]) w4;have hl1:({ t with nd:=n }:Dec).d.length=800:=hl;by_cases h0:n=0
  ·
   have e:kj t.d t.nd=n:=by rw[←he,h0];rfl
   refine zm ?_;have OY:∀q9,(Mut (xz [])) q9→q9<(World.drew w4).heap.size→(Mut [(some ga)]) q9:=fun k h _=>(Mut.none_) k h;refine qm (Mut [(some ga)]) (Mut.grow Mut.none_ (ze Ba.lt)) [] [] (zcx [Fx.of (.pointer (some ⟨ga,0,none⟩)),
    Fx.of (.pointer (some ⟨ga,0,none⟩)),
    Fx.of (.pointer (some ⟨ga,800,none⟩)),
    Fx.of (.int .i64 ((n:Nat):Int)),
    Fx.of (.bool false),
    Fx.of (.bool false),
    Fx.of undef,
    Fx.of undef,
    Fx.of undef,
    Fx.of undef,
    Fx.of undef,
    Fx.of undef,
    Fx.of undef,
    Fx.of undef,
    Fx.of undef,
    Fx.of undef,
    Fx.of undef,
    Fx.of (.bool false)]) mixed rfl trivial (fun _ h=>by cases h) ?_ ?_
   · refine ⟨arm,arm,arm,?_,?_,arm,arm,arm,arm,arm,arm,arm,arm,arm,arm,arm,arm,arm,trivial⟩
     · exact dqz111
     · refine qq ?_;intro vs X wq K;exact ow_gtr rfl rfl ⟨Below.refl _ _,Left.of ((by rw[decide_eq_false (by omega)]:(.bool (decide (0<((n:Nat):Int))):Value)=_))⟩
   intro vs w5 LE AO AL AF AA;have LBa:=Ba;replace Ba:=Ba.drew.extN LE NotIn.nil;replace E:=E.drew.trans (LE.mono OY);obtain ⟨_,e17,k17⟩:=AL.2.2.2.2.2.2.2.2.2.2.2.2.2.2.2.2.2.1;refine ja (τ:=[(0,_),(19,.bool false)]) ⟨rfl,congrArg some e17,trivial⟩ ?_;clear AL AF AA LE AO OY e17 k17 LBa;refine zl ?_;replace Ba:Blk w5 ga 229 (yj { t with nd:=kj t.d t.nd }):=by rw[e];exact Ba
   exact zt () ⟨rfl,trivial⟩ ⟨M1.step E XM1,(by exact Ba),trivial⟩
  ·
   refine zm ?_;have OY:∀q9,(Mut (xz [])) q9→q9<(World.drew w4).heap.size→(Mut [(some ga)]) q9:=fun k h _=>(Mut.none_) k h;refine qm (Mut [(some ga)]) (Mut.grow Mut.none_ (ze Ba.lt)) [] [] (zcx [Fx.of (.pointer (some ⟨ga,0,none⟩)),
    Fx.of (.pointer (some ⟨ga,0,none⟩)),
    Fx.of (.pointer (some ⟨ga,800,none⟩)),
    Fx.of (.int .i64 ((n:Nat):Int)),
    Fx.of (.bool true),
    Fx.of (.bool true),
    Fx.of (.pointer (some ⟨ga,0,none⟩)),
    Fx.of (.pointer (some ⟨ga,0,none⟩)),
    Fx.of (.pointer (some ⟨ga,0,none⟩)),
    Fx.of (.pointer (some ⟨ga,800,none⟩)),
    Fx.of (.int .i64 ((n:Nat):Int)),
    Fx.of (.int .i64 (((n:Nat):Int)-1)),
    Fx.of (.pointer (some ⟨ga,0,none⟩)),
    Fx.of (.pointer (some ⟨ga,0,none⟩)),
    Fx.of (.pointer (some ⟨ga,n-1,none⟩)),
    Fx.of (.int .u8 ((dg t.d (n-1):Nat):Int)),
    Fx.of (.bool (((dg t.d (n-1):Nat):Int)==48)),
    Fx.of (.bool (((dg t.d (n-1):Nat):Int)==48))]) mixed rfl trivial (fun _ h=>by cases h) ?_ ?_
   · refine ⟨arm,arm,arm,?_,?_,arm,arm,arm,arm,arm,?_,?_,arm,arm,?_,?_,arm,arm,trivial⟩
     · exact dqz111
     · refine qq ?_;intro vs X wq K;exact ow_gtr rfl rfl ⟨Below.refl _ _,Left.of ((by rw[decide_eq_true (by omega)]:(.bool (decide (0<((n:Nat):Int))):Value)=_))⟩
     · refine qq ?_;intro vs X wq K;have LE:=K.1;exact zaq rfl (ye Tryz.underlying3 rfl rfl (Ba.drew.extN LE NotIn.nil) (yiz hl1 n rfl) ⟨Below.refl _ _,Left.of rfl⟩)
     · refine qq ?_;intro vs X wq K;exact zaq rfl (jg rfl rfl (yx (by omega)) ⟨Below.refl _ _,Left.of rfl⟩)
     · refine qq ?_;intro vs X wq K;exact zaq rfl (vc (j:=n-1) u227 sz5 rfl rfl (by omega) (by omega) ⟨Below.refl _ _,Left.of rfl⟩)
     · refine qq ?_;intro vs X wq K;have LE:=K.1;exact zaq rfl (ye u5 rfl rfl (Ba.drew.extN LE NotIn.nil) (dAt hl1 (dg t.d (n-1)) (n-1) rfl (by omega)) ⟨Below.refl _ _,Left.of rfl⟩)
   intro vs w6 LE AO AL AF AA;have LBa:=Ba;replace Ba:=Ba.drew.extN LE NotIn.nil;replace E:=E.drew.trans (LE.mono OY);obtain ⟨_,e17,k17⟩:=AL.2.2.2.2.2.2.2.2.2.2.2.2.2.2.2.2.2.1;refine ja (τ:=[(0,_),(19,.bool (((dg t.d (n-1):Nat):Int)==48))]) ⟨rfl,congrArg some e17,trivial⟩ ?_;clear AL AF AA LE AO OY e17 k17 LBa;refine stp ?_;refine zg rfl (fun hd=>?_) (fun hd=>?_)
   ·
    have hd:dg t.d (n-1)=48:=by have hd:=eq_of_beq hd;omega
    refine zp ?_;refine za rfl (ye Tryz.underlying3 rfl rfl Ba (yiz hl1 (n) rfl) (yl ?_));refine zm ?_;refine zf 24 (.int .i64 ((n-1:Nat):Int)) rfl (by congr 1;omega) (zk (qr sz3 rfl rfl Ba rfl rfl (in_ hl1 (by decide:800<804)) (set_nd hl1 (n-1)) ?_));intro w7 Bx Ea;replace Ba:Blk w7 ga 229 (yj { t with nd:=n-1 }):=Bx;replace E:=E.step1 Ea Mut.head;refine zm ?_;exact zo (n-1) (by omega) ⟨rfl,trivial⟩ ⟨M3.step E XM3,(by exact Ba),by omega,by rw[←he,trimN_on h0 hd]⟩
   ·
    have hd:dg t.d (n-1)≠48:=fun e=>absurd hd (by rw[e];decide);have e:kj t.d t.nd=n:=by rw[←he,trimN_off h0 hd]
    refine zx ?_;replace Ba:Blk w6 ga 229 (yj { t with nd:=kj t.d t.nd }):=by rw[e];exact Ba
    exact zt () ⟨rfl,trivial⟩ ⟨M1.step E XM1,(by exact Ba),trivial⟩
 ·
  have LTa:=(ze Ba.lt);clear Ba;rintro _ w2 ⟨M1,Ba,_⟩;replace E:=E.trans M1;replace LW:=LW.step E XLW;replace E:=erx (Mut [(some ga)]) w2;have hl':({ t with nd:=kj t.d t.nd }:Dec).d.length=800:=hl;refine zu ?_;refine za rfl (ye Tryz.underlying3 rfl rfl Ba (yiz hl' (kj t.d t.nd) rfl) (zn ?_));refine zg rfl (fun h1=>?_) (fun h1=>?_)
  ·
   have h1:kj t.d t.nd=0:=by have h1:=eq_of_beq h1;omega
   refine zx ?_;refine zk (qr sz3 rfl rfl Ba rfl rfl (in_ hl' (by decide:801<804)) (qrz hl' 0) ?_);intro w8 Bx Ea;replace Ba:Blk w8 ga 229 (yj { t with nd:=kj t.d t.nd,dp:=0 }):=Bx;replace E:=E.step1 Ea Mut.head;refine stp ?_;refine yeq rfl ?_;exact ⟨rfl,by unfold qbq;rw[if_pos h1];exact Ba,(LW.step E XLW)⟩
  ·
   have h1:kj t.d t.nd≠0:=fun e=>absurd h1 (by rw[e];decide);refine stp ?_;refine yeq rfl ?_;exact ⟨rfl,by unfold qbq;rw[if_neg h1];exact Ba,(LW.step E XLW)⟩
theorem prefix_any (ga:Nat) (t:Dec) (n:Nat) (c:ByteArray) (l:List Nat) (hl:t.d.length=800) (hn:n≤800) (hc:c.size=l.length) (hcl:∀i,i<l.length→l[i]? =some (bAt c i)) (hB:Blk w ga 229 (yj t)) :
 Calls Tryz.prog 277 #[.slice (some ⟨ga,0,none⟩) n 800,.string c] w (RetB w (.bool (jd (t.d.take n) l))):=by
 refine zc Tryz.func277 rfl Tryz.ntmps277 rfl ?_;obtain ⟨HF,LW,XLW,E⟩:=wk0 w;replace HF:=HF.and (Per.blk hB (fun h=>h.elim));refine vp ?_;replace HF:=HF.on E;replace LW:=LW.step E XLW;replace E:=erx (No) w;refine yw (ι:=Nat) (fun i=>[(0,.slice (some ⟨ga,0,none⟩) n 800),(1,.string c),(4,.bool false),(5,.int .i64 ((i:Nat):Int))]) (fun i w'=>Ext (No) w w'∧(i≤l.length∧i≤n∧jd ((t.d.take n).drop i) (l.drop i)=jd (t.d.take n) l)) (fun i=>l.length-i) 0 ⟨rfl,rfl,rfl,rfl,trivial⟩ ⟨Ext.refl _ _,Nat.zero_le _,Nat.zero_le _,rfl⟩ ?_;rintro i w2 ⟨M1,⟨hi,hin,he⟩⟩;have XM1:=grx (No) w;replace E:=E.trans M1;replace HF:=HF.on E;replace LW:=LW.step E XLW;replace E:=erx (No) w2;refine zu ?_;refine zy ?_;refine zn ?_;refine zg rfl (fun h1=>?_) (fun h1=>?_)
 ·
  have h1:i<l.length:=by have h1:=of_decide_eq_true h1;omega
  refine jt ?_;refine zg rfl (fun h2=>?_) (fun h2=>?_)
  ·
   have h2:n≤i:=by have h2:=of_decide_eq_true h2;omega
   have e:jd (t.d.take n) l=true:=by rw[←he,preLess_short (by rw[List.length_take];omega) h1]
   refine jt ?_;exact zlx
  ·
   have h2:i<n:=by have h2:=of_decide_eq_false h2;omega
   have hs:=preLess_at (take_at (d:=t.d) h2 (by omega)) (hcl i h1);rw[he] at hs;refine zn ?_;have OY:∀q9,(Mut (xz [])) q9→q9<(World.drew w2).heap.size→(No) q9:=fun k h _=>(Mut.none_) k h;refine qm (No) Mut.none_ [] [] (zcx [Fx.of (.slice (some ⟨ga,0,none⟩) n 800),
    Fx.of (.int .i64 ((i:Nat):Int)),
    Fx.of (.pointer (some ⟨ga,i,none⟩)),
    Fx.of (.int .u8 ((dg t.d i:Nat):Int)),
    Fx.of (.string c),
    Fx.of (.int .i64 ((i:Nat):Int)),
    Fx.of (.int .u8 ((bAt c i:Nat):Int)),
    Fx.of (.bool (((dg t.d i:Nat):Int) !=((bAt c i:Nat):Int)))]) mixed rfl trivial (fun _ h=>by cases h) ?_ ?_
   · refine ⟨arm,arm,?_,?_,arm,arm,?_,arm,trivial⟩
     · exact dqz131
     · exact dqz99
     · refine qq ?_;exact dqz122
   intro vs w3 LE AO AL AF AA;replace E:=E.drew.trans (LE.mono OY);obtain ⟨_,e7,k7⟩:=AL.2.2.2.2.2.2.2.1;refine ja (τ:=[(0,_),(1,_),(4,_),(5,_),(23,.bool (((dg t.d i:Nat):Int) !=((bAt c i:Nat):Int)))]) ⟨rfl,rfl,rfl,rfl,congrArg some e7,trivial⟩ ?_;clear AL AF AA LE AO OY e7 k7;refine stp ?_;refine zg rfl (fun h3=>?_) (fun h3=>?_)
   ·
    have h3:dg t.d i≠bAt c i:=fun e=>absurd h3 (by rw[e];simp);rw[if_neg h3] at hs;refine stp ?_;have OY:∀q9,(Mut (xz [])) q9→q9<(World.drew w3).heap.size→(No) q9:=fun k h _=>(Mut.none_) k h;refine qm (No) Mut.none_ [] [] (zcx [Fx.of (.slice (some ⟨ga,0,none⟩) n 800),
     Fx.of (.int .i64 ((i:Nat):Int)),
     Fx.of (.pointer (some ⟨ga,i,none⟩)),
     Fx.of (.int .u8 ((dg t.d i:Nat):Int)),
     Fx.of (.string c),
     Fx.of (.int .i64 ((i:Nat):Int)),
     Fx.of (.int .u8 ((bAt c i:Nat):Int)),
     Fx.of (.bool (decide (dg t.d i<bAt c i))),
     Fx.of (.bool (decide (dg t.d i<bAt c i)))]) mixed rfl trivial (fun _ h=>by cases h) ?_ ?_
    · refine ⟨arm,arm,?_,?_,arm,arm,?_,?_,arm,trivial⟩
      · exact dqz131
      · exact dqz99
      · refine qq ?_;exact dqz122
      · refine qq ?_;intro vs X wq K;exact ow_lss rfl rfl ⟨Below.refl _ _,Left.of (kb (by omega))⟩
    intro vs w4 LE AO AL AF AA;replace E:=E.drew.trans (LE.mono OY);obtain ⟨_,e8,k8⟩:=AL.2.2.2.2.2.2.2.2.1;refine ja (τ:=[(0,_),(1,_),(4,.bool (decide (dg t.d i<bAt c i))),(5,_)]) ⟨rfl,rfl,congrArg some e8,rfl,trivial⟩ ?_;clear AL AF AA LE AO OY e8 k8;refine yi ?_;exact ⟨by rw[hs];rfl,(LW.step E XLW).toBelow⟩
   ·
    have h3:dg t.d i=bAt c i:=by
     rcases Nat.decEq (dg t.d i) (bAt c i) with h | h
     · rw[bne_iff_ne.2 (by omega)] at h3;cases h3
     · exact h
    rw[if_pos h3] at hs;refine je ?_;refine zq 5 (.int .i64 ((i+1:Nat):Int)) rfl (rfl) ?_;exact zo (i+1) (by omega) ⟨rfl,rfl,rfl,rfl,trivial⟩ ⟨M1.step E XM1,by omega,by omega,hs.symm⟩
 ·
  have h1:l.length≤i:=by have h1:=of_decide_eq_false h1;omega
  have e:jd (t.d.take n) l=false:=by rw[←he,preLess_end _ h1]
  refine vp ?_;exact zlx
end
end Go.Proofs.YtmnmebdmpigddaaGreatDoor

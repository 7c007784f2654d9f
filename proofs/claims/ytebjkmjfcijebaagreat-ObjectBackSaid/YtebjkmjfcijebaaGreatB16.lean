/- Texts of this claim. -/
import Derived.Test.YtebjkmjfcijebaaGreatB15
import Derived.WalkKit
import Derived.Lib.Mul64
import Derived.Laws.Bits64b
import Derived.BigQuiet
import Derived.Deep.QuietTactic
import Derived.Lib.Hide
import Derived.Laws.Externs
import Derived.Deep.DeepCutAuto
import Derived.Deep.CutBlock
import Derived.Test.YtebjkmjfcijebaaGreatRows
set_option maxRecDepth 100000
namespace Go.Proofs.YtebjkmjfcijebaaGreat
open Go.RowKit Go.Lib
namespace M64
theorem maskN (a:Nat) (ha:a<18446744073709551616):bits .and .u64 (a:Int) 4294967295=((a%4294967296:Nat):Int):=by
 have h:=bits_and_u64_nat a 4294967295 ha (by omega);have e:a &&& 4294967295=a%4294967296:=Nat.and_two_pow_sub_one_eq_mod a 32;rw[e] at h;exact h
theorem divN (a:Nat):(a:Int)/4294967296=((a/4294967296:Nat):Int):=by omega
theorem mulN (a b:Nat):(a:Int)*(b:Int)=((a*b:Nat):Int):=(Int.natCast_mul a b).symm
theorem addN (a b:Nat):(a:Int)+(b:Int)=((a+b:Nat):Int):=(Int.natCast_add a b).symm
theorem wrapN (a:Nat) (ha:a<18446744073709551616):IntKind.u64.wrap (a:Int)=(a:Int):=by rw[IntKind.wrap_u64];omega
theorem wrapM (a:Nat):IntKind.u64.wrap (a:Int)=((a%18446744073709551616:Nat):Int):=by rw[IntKind.wrap_u64];omega
end M64
set_option maxHeartbeats 1000000 in
theorem mul64_any (x y:Nat) (hx:x<18446744073709551616) (hy:y<18446744073709551616) (w:World) :
 Calls Tryz.prog 95 #[.int .u64 x,.int .u64 y] w fun e w'=>e= .returned (.tuple #[.int .u64 ((x*y/18446744073709551616:Nat):Int),.int .u64 ((x*y%18446744073709551616:Nat):Int)])∧w=w':=by
 obtain ⟨bd,bt,bw,hhi⟩:=Lib.mul64_hi x y hx hy;have ba:=Lib.half_mul_le (a:=x/4294967296) (b:=y/4294967296) (by omega) (by omega);have bb:=Lib.half_mul_le (a:=x/4294967296) (b:=y%4294967296) (by omega) (by omega);have bc:=Lib.half_mul_le (a:=x%4294967296) (b:=y/4294967296) (by omega) (by omega);have ba':x/4294967296*(y/4294967296)<18446744073709551616:=by omega
 have bb':x/4294967296*(y%4294967296)<18446744073709551616:=by omega
 have bc':x%4294967296*(y/4294967296)<18446744073709551616:=by omega
 have bh1:x/4294967296*(y/4294967296)+(x/4294967296*(y%4294967296)+x%4294967296*(y%4294967296)/4294967296)/4294967296<18446744073709551616:=by omega
 have bh:x/4294967296*(y/4294967296)+(x/4294967296*(y%4294967296)+x%4294967296*(y%4294967296)/4294967296)/4294967296+((x/4294967296*(y%4294967296)+x%4294967296*(y%4294967296)/4294967296)%4294967296+x%4294967296*(y/4294967296))/4294967296<18446744073709551616:=by omega
 go_enter Tryz.func95,Tryz.ntmps95
 go_wp2
 simp only[M64.maskN x hx,M64.maskN y hy,M64.divN,M64.mulN,M64.addN,M64.wrapN _ bd,M64.wrapN _ bb',M64.wrapN _ bt,M64.maskN _ bt,M64.wrapN _ bc',M64.wrapN _ bw,M64.wrapN _ ba',M64.wrapN _ bh1,M64.wrapN _ bh,M64.wrapM (x*y)]
 rw[hhi];go_ret2
 exact ⟨rfl,rfl⟩
theorem lead_base (w:World):Calls Tryz.prog 120 #[.int .u64 1000000000000000000] w fun e w'=>e= .returned (.int .i64 4)∧w=w':=by
 go_enter Tryz.func120,Tryz.ntmps120
 go_wp2
 go_ret
 exact ⟨by kernel_rfl,rfl⟩
theorem add64_run (x y : Int) (hx : 0 ≤ x) (hy : 0 ≤ y) (w : World) :
 (callFunc 97 #[.int .u64 x, .int .u64 y, .int .u64 0]).run Tryz.prog w =
  .ok (.value (.tuple #[.int .u64 ((x + y) % 18446744073709551616), .int .u64 ((x + y) / 18446744073709551616)])) w := by
 rw [run_callFunc_extern Tryz.func97 (by kernel_rfl) (by kernel_rfl) (by kernel_rfl) (e := add64Entry) (by kernel_rfl), run_add64 x y 0 hx hy (by omega) (by omega)];simp only [Result.andThen, Int.add_zero]
theorem or_low (hi lo:Int) (h0:0≤hi) (h1:hi<1000000000000000000) (l0:0≤lo) (l1:lo<18446744073709551616) :
 bits .or .u64 (hi*16) (lo/1152921504606846976)=hi*16+lo/1152921504606846976:=by
 obtain ⟨a,rfl⟩:=Int.eq_ofNat_of_zero_le h0;obtain ⟨b,hb⟩:=Int.eq_ofNat_of_zero_le (show 0≤lo/1152921504606846976 by omega);rw[hb];have h:=bits_or_u64_nat (a*16) b (by omega) (by omega);have e:a*16 ||| b=a*16+b:=by
  have:=Nat.shiftLeft_add_eq_or_of_lt (show b<2^4 by omega) a;rw[Nat.shiftLeft_eq] at this;exact this.symm
 rw[e] at h;rw[show ((a:Int)*16)=((a*16:Nat):Int) by omega,h];omega
theorem mask_low (V:Int) (h0:0≤V) (h1:V<18446744073709551616):bits .and .u64 V 4294967295=V%4294967296:=by
 obtain ⟨a,rfl⟩:=Int.eq_ofNat_of_zero_le h0;rw[M64.maskN a (by omega)];omega
theorem zkz {U V q r:Int} (h0:0≤U) (h1:U<16000000000000000000) (v0:0≤V) (v1:V<4294967296) (hq:q*3725290298+r=U) (hr:0≤r)
 (hQ:(U*4294967296+V)/16000000000000000000≤q) (ht:q*1983905792≤4294967296*r+V):q=(U*4294967296+V)/16000000000000000000:=by omega
theorem zyx {U V q r:Int} (h0:0≤U) (h1:U<16000000000000000000) (v0:0≤V) (v1:V<4294967296) (hq:q*3725290298+r=U)
 (ht:4294967296≤q∨4294967296*r+V<q*1983905792):(U*4294967296+V)/16000000000000000000≤q-1:=by omega
set_option maxHeartbeats 2000000 in
theorem div64_base (hi lo:Int) (h0:0≤hi) (h1:hi<1000000000000000000) (l0:0≤lo) (l1:lo<18446744073709551616) (w:World) :
 Calls Tryz.prog 109 #[.int .u64 hi,.int .u64 lo,.int .u64 1000000000000000000] w fun e w'=>e= .returned (.tuple #[.int .u64 ((hi*18446744073709551616+lo)/1000000000000000000),.int .u64 ((hi*18446744073709551616+lo)%1000000000000000000)])∧ ∃n,w'=w.drewN n:=by
 by_cases hz:hi=0
 · subst hz;have e1:(0:Int)*18446744073709551616+lo=lo:=by omega
   rw[e1];have hq0:0≤lo/1000000000000000000:=by omega
   have hr0:0≤lo%1000000000000000000:=by omega
   go_enter Tryz.func109,Tryz.ntmps109
   go_wp2
   go_quiet (fail)
   go_wp2
   go_ret2
   exact ⟨by simp,_,rfl⟩
 · have hz2:(hi==0)=false:=by simpa using hz
   have hle:¬1000000000000000000≤hi:=by omega
   clear hz;obtain ⟨U,hU⟩:∃U,U=hi*16+lo/1152921504606846976:=⟨_,rfl⟩;obtain ⟨V,hV⟩:∃V,V=lo*16%18446744073709551616:=⟨_,rfl⟩;obtain ⟨V1,hV1⟩:∃V1,V1=V/4294967296:=⟨_,rfl⟩;obtain ⟨V0,hV0⟩:∃V0,V0=V%4294967296:=⟨_,rfl⟩;obtain ⟨Q,hQ⟩:∃Q,Q=U/3725290298:=⟨_,rfl⟩;have eor:bits .or .u64 (hi*16) (lo/1152921504606846976)=U:=by rw[or_low hi lo h0 h1 l0 l1,hU]
   have ew:IntKind.u64.wrap (lo*16)=V:=by rw[IntKind.wrap_u64,hV]
   have bU0:0≤U:=by omega
   have bU1:U<16000000000000000000:=by omega
   have bV0:0≤V:=by omega
   have bV1:V<18446744073709551616:=by omega
   have b10:0≤V1:=by omega
   have b11:V1<4294967296:=by omega
   have b00:0≤V0:=by omega
   have b01:V0<4294967296:=by omega
   have bQ0:0≤Q:=by omega
   have bQ1:Q≤4294967297:=by omega
   have em:bits .and .u64 V 4294967295=V0:=by rw[mask_low V bV0 bV1,hV0]
   have ed:V/4294967296=V1:=hV1.symm;have ec:bits .and .u64 16000000000000000000 4294967295=1983905792:=by rw[mask_low _ (by omega) (by omega)];rfl
   have eq:U/3725290298=Q:=hQ.symm;have HU:=Lib.hid hU;have HV:=Lib.hid hV;have HV1:=Lib.hid hV1;have HV0:=Lib.hid hV0;have HQ:=Lib.hid hQ;have bR0:0≤U-Q*3725290298:=by omega
   have bR1:U-Q*3725290298<3725290298:=by omega
   clear hU hV hV1 hV0 hQ;go_enter Tryz.func109,Tryz.ntmps109
   go_upto_block 0 with (go_at_call 120;refine (lead_base _).mono ?_;rintro e w' ⟨rfl,rfl⟩)
   clear eq eor ew em ed ec;go_cut [15] (fun v wx=>v= .int .u64 ((U*4294967296+V1)/16000000000000000000)∧w=wx)
   case first=>
    go_wp2_with fail
    go_loop [15,16] (fun qv rv=>∃q r:Int,qv= .int .u64 q∧rv= .int .u64 r∧0≤q∧q≤4294967297∧0≤r∧r<4294967296∧Hid (q*3725290298+r=U)∧Hid ((U*4294967296+V1)/16000000000000000000≤q)) (fun qv _=>(RowKit.intOf qv).toNat)
    case atStart=>exact ⟨Q,U-Q*3725290298,by rw[HQ.out],rfl,bQ0,bQ1,bR0,by omega,by show _=_;omega,by have:=HQ.out;show _≤_;omega⟩
    case round=>
     obtain ⟨q,r,rfl,rfl,hq0,hq1,hr0,hr1,HQR,HLE⟩:=hrel;by_cases hA:4294967296≤q
     · have hdn:=zyx bU0 bU1 b10 b11 HQR.out (Or.inl hA);have hqp:1≤q:=by omega
       have HDN:=Lib.hid hdn;have HQ2:Hid ((q-1)*3725290298+(r+3725290298)=U):=by have:=HQR.out;show _=_;omega
       clear hdn;by_cases hB:4294967296≤r+3725290298
       · have hend:=zkz bU0 bU1 b10 b11 HQ2.out (by omega) HDN.out (by omega);have HEND:=Lib.hid hend;clear hend;go_wp2
         go_meet
         exact ⟨by rw[HEND.out],rfl⟩
       · go_wp2
         go_round
         case rel=>exact ⟨q-1,r+3725290298,rfl,rfl,by omega,by omega,by omega,by omega,HQ2,HDN⟩
         case measure=>simp[RowKit.intOf];omega
     · by_cases hT:4294967296*r+V1<q*1983905792
       · have hdn:=zyx bU0 bU1 b10 b11 HQR.out (Or.inr hT);have hqp:1≤q:=by omega
         have HDN:=Lib.hid hdn;have HQ2:Hid ((q-1)*3725290298+(r+3725290298)=U):=by have:=HQR.out;show _=_;omega
         clear hdn;by_cases hB:4294967296≤r+3725290298
         · have hend:=zkz bU0 bU1 b10 b11 HQ2.out (by omega) HDN.out (by omega);have HEND:=Lib.hid hend;clear hend;go_wp2
           go_meet
           exact ⟨by rw[HEND.out],rfl⟩
         · go_wp2
           go_round
           case rel=>exact ⟨q-1,r+3725290298,rfl,rfl,by omega,by omega,by omega,by omega,HQ2,HDN⟩
           case measure=>simp[RowKit.intOf];omega
       · have hend:=zkz bU0 bU1 b10 b11 HQR.out hr0 HLE.out (by omega);have HEND:=Lib.hid hend;clear hend;go_wp2
         go_meet
         exact ⟨by rw[HEND.out],rfl⟩
   case rest=>
    obtain ⟨rfl,rfl⟩:=hcut;obtain ⟨P,hP⟩:∃P,P=(U*4294967296+V1)/16000000000000000000:=⟨_,rfl⟩;obtain ⟨T,hT⟩:∃T,T=(U*4294967296+V1)%16000000000000000000:=⟨_,rfl⟩;rw[←hP];have bP0:0≤P:=by omega
    have bP1:P<4294967296:=by omega
    have bT0:0≤T:=by omega
    have bT1:T<16000000000000000000:=by omega
    obtain ⟨Q2,hQ2⟩:∃Q2,Q2=T/3725290298:=⟨_,rfl⟩;have cQ0:0≤Q2:=by omega
    have cQ1:Q2≤4294967297:=by omega
    have cR0:0≤T-Q2*3725290298:=by omega
    have cR1:T-Q2*3725290298<3725290298:=by omega
    obtain ⟨X1,hX1⟩:∃X,X=IntKind.u64.wrap (U*4294967296):=⟨_,rfl⟩;obtain ⟨X2,hX2⟩:∃X,X=IntKind.u64.wrap (X1+V1):=⟨_,rfl⟩;obtain ⟨X3,hX3⟩:∃X,X=IntKind.u64.wrap (P*16000000000000000000):=⟨_,rfl⟩;have e4:IntKind.u64.wrap (X2-X3)=T:=by rw[hX2,hX3,hX1];simp only[IntKind.wrap_u64];omega
    have e1:=hX1.symm;have e2:=hX2.symm;have e3:=hX3.symm;have hX1b:0≤X1∧X1<18446744073709551616:=by rw[hX1];simp only[IntKind.wrap_u64];omega
    have hX2b:0≤X2∧X2<18446744073709551616:=by rw[hX2];simp only[IntKind.wrap_u64];omega
    have hX3b:0≤X3∧X3<18446744073709551616:=by rw[hX3];simp only[IntKind.wrap_u64];omega
    have HP:=Lib.hid hP;have HT:=Lib.hid hT;have HQ2e:=Lib.hid hQ2;clear hP hT hQ2 hX1 hX2 hX3;go_upto_block 2 with fail
    clear e1 e2 e3 e4 hX1b hX2b hX3b;go_cut [18] (fun v wx=>v= .int .u64 ((T*4294967296+V0)/16000000000000000000)∧w=wx)
    case first=>
     go_wp2_with fail
     go_loop [18,16] (fun qv rv=>∃q r:Int,qv= .int .u64 q∧rv= .int .u64 r∧0≤q∧q≤4294967297∧0≤r∧r<4294967296∧Hid (q*3725290298+r=T)∧Hid ((T*4294967296+V0)/16000000000000000000≤q)) (fun qv _=>(RowKit.intOf qv).toNat)
     case atStart=>exact ⟨Q2,T-Q2*3725290298,by rw[HQ2e.out],by rw[HQ2e.out],cQ0,cQ1,cR0,by omega,by show _=_;omega,by have:=HQ2e.out;show _≤_;omega⟩
     case round=>
      obtain ⟨q,r,rfl,rfl,hq0,hq1,hr0,hr1,HQR,HLE⟩:=hrel;by_cases hA:4294967296≤q
      · have hdn:=zyx bT0 bT1 b00 b01 HQR.out (Or.inl hA);have hqp:1≤q:=by omega
        have HDN:=Lib.hid hdn;have HQ2:Hid ((q-1)*3725290298+(r+3725290298)=T):=by have:=HQR.out;show _=_;omega
        clear hdn;by_cases hB:4294967296≤r+3725290298
        · have hend:=zkz bT0 bT1 b00 b01 HQ2.out (by omega) HDN.out (by omega);have HEND:=Lib.hid hend;clear hend;go_wp2
          go_meet
          exact ⟨by rw[HEND.out],rfl⟩
        · go_wp2
          go_round
          case rel=>exact ⟨q-1,r+3725290298,rfl,rfl,by omega,by omega,by omega,by omega,HQ2,HDN⟩
          case measure=>simp[RowKit.intOf];omega
      · by_cases hT:4294967296*r+V0<q*1983905792
        · have hdn:=zyx bT0 bT1 b00 b01 HQR.out (Or.inr hT);have hqp:1≤q:=by omega
          have HDN:=Lib.hid hdn;have HQ2:Hid ((q-1)*3725290298+(r+3725290298)=T):=by have:=HQR.out;show _=_;omega
          clear hdn;by_cases hB:4294967296≤r+3725290298
          · have hend:=zkz bT0 bT1 b00 b01 HQ2.out (by omega) HDN.out (by omega);have HEND:=Lib.hid hend;clear hend;go_wp2
            go_meet
            exact ⟨by rw[HEND.out],rfl⟩
          · go_wp2
            go_round
            case rel=>exact ⟨q-1,r+3725290298,rfl,rfl,by omega,by omega,by omega,by omega,HQ2,HDN⟩
            case measure=>simp[RowKit.intOf];omega
        · have hend:=zkz bT0 bT1 b00 b01 HQR.out hr0 HLE.out (by omega);have HEND:=Lib.hid hend;clear hend;go_wp2
          go_meet
          exact ⟨by rw[HEND.out],rfl⟩
    case rest=>
     obtain ⟨rfl,rfl⟩:=hcut;obtain ⟨P2,hP2⟩:∃P,P=(T*4294967296+V0)/16000000000000000000:=⟨_,rfl⟩;obtain ⟨T2,hT2⟩:∃T2,T2=(T*4294967296+V0)%16000000000000000000:=⟨_,rfl⟩;rw[←hP2];have cP0:0≤P2:=by omega
     have cP1:P2<4294967296:=by omega
     have cT0:0≤T2:=by omega
     have cT1:T2<16000000000000000000:=by omega
     obtain ⟨X1,hX1⟩:∃X,X=IntKind.u64.wrap (T*4294967296):=⟨_,rfl⟩;obtain ⟨X2,hX2⟩:∃X,X=IntKind.u64.wrap (X1+V0):=⟨_,rfl⟩;obtain ⟨X3,hX3⟩:∃X,X=IntKind.u64.wrap (P2*16000000000000000000):=⟨_,rfl⟩;have e4:IntKind.u64.wrap (X2-X3)=T2:=by rw[hX2,hX3,hX1];simp only[IntKind.wrap_u64];omega
     have e1:=hX1.symm;have e2:=hX2.symm;have e3:=hX3.symm;have hX1b:0≤X1∧X1<18446744073709551616:=by rw[hX1];simp only[IntKind.wrap_u64];omega
     have hX2b:0≤X2∧X2<18446744073709551616:=by rw[hX2];simp only[IntKind.wrap_u64];omega
     have hX3b:0≤X3∧X3<18446744073709551616:=by rw[hX3];simp only[IntKind.wrap_u64];omega
     have hfin:P*4294967296+P2=(hi*18446744073709551616+lo)/1000000000000000000∧T2/16=(hi*18446744073709551616+lo)%1000000000000000000:=by
      have a1:=HU.out;have a2:=HV.out;have a3:=HV1.out;have a4:=HV0.out;have a5:=HP.out;have a6:=HT.out;omega
     obtain ⟨f1,f2⟩:=hfin;have F1:=Lib.hid f1;have F2:=Lib.hid f2;have bF:P*4294967296+P2<18446744073709551616:=by omega
     clear hP2 hT2 hX1 hX2 hX3 f1 f2;go_wp2
     go_ret2
     exact ⟨by rw[F1.out,F2.out];rfl,0,rfl⟩
end Go.Proofs.YtebjkmjfcijebaaGreat
namespace Go.Proofs.YtebjkmjfcijebaaGreat
open Go.RowKit
theorem fits_out (neg:Bool) (A:Option Addr) (c:Nat) (xs:List Nat) (w:World) (hx:Nums w A xs) (hs:small B18 xs) (hl:xs.length≤1048576) :
 Calls Tryz.prog 121 #[.bool neg,.slice A xs.length c] w (vq w (outV true (sgn neg (val B18 xs))) (outE true (sgn neg (val B18 xs)))):=by
 rcases Nat.lt_or_ge (val B18 xs) (B18^30) with h | h
 · rw[yhv (by rw[kb];exact h),yix (by rw[kb];exact h)];exact fits_yes neg A c xs w hx hs hl h
 · rw[outV_big (by rw[kb];exact h),outE_big (by rw[kb];exact h)];exact fits_no neg A c xs w hx hs hl h
theorem mul_step {ys zs:List Nat} {k j u t C X:Nat} (hz:k+j<zs.length) (h:val B18 zs+B18^(k+j)*u=C+B18^k*(X*val B18 (ys.take j))) (ht:t=X*ys.getD j 0+zs.getD (k+j) 0+u) :
 val B18 (zs.set (k+j) (t%B18))+B18^(k+(j+1))*(t/B18)=C+B18^k*(X*val B18 (ys.take (j+1))):=by
 have h1:=zuv (b:=B18) zs (k+j) (t%B18) hz;have h2:B18^(k+(j+1))*(t/B18)=B18^(k+j)*(B18*(t/B18)):=by rw[←Nat.add_assoc,Nat.pow_succ,Nat.mul_assoc]
 have h3:B18^(k+j)*(t%B18)+B18^(k+j)*(B18*(t/B18))=B18^(k+j)*t:=by rw[←Nat.mul_add,Nat.mod_add_div]
 have h4:B18^(k+j)*t=B18^(k+j)*(X*ys.getD j 0)+B18^(k+j)*zs.getD (k+j) 0+B18^(k+j)*u:=by rw[ht,Nat.mul_add,Nat.mul_add]
 have h5:B18^k*(X*val B18 (ys.take (j+1)))=B18^k*(X*val B18 (ys.take j))+B18^(k+j)*(X*ys.getD j 0):=by
  rw[yr,Nat.mul_add,Nat.mul_add,Nat.pow_add,Nat.mul_left_comm X,Nat.mul_assoc (B18^k)]
 omega
theorem mul_close {xs ys zs:List Nat} {k u:Nat} (hz:k+ys.length<zs.length) (h0:zs.getD (k+ys.length) 0=0)
 (h:val B18 zs+B18^(k+ys.length)*u=val B18 (xs.take k)*val B18 ys+B18^k*(xs.getD k 0*val B18 (ys.take ys.length))) :
 val B18 (zs.set (k+ys.length) u)=val B18 (xs.take (k+1))*val B18 ys:=by
 have h1:=zuv (b:=B18) zs (k+ys.length) u hz;rw[h0,Nat.mul_zero,Nat.add_zero] at h1;rw[h1,h,List.take_length,yr,Nat.add_mul,Nat.mul_assoc]
def ThreeB (w:World) (n1 n2:Bool) (A B:Option Addr) (c d:Nat) (xs ys:List Nat) (b:World):Prop:=
 Two w n1 n2 A B c d xs ys b∧(b.cell? ⟨w.heap.size+1+1,0,none⟩=some (.bool false)∧b.cell? ⟨w.heap.size+1+1,1,none⟩=some (.slice none 0 0)∧b.frozen? ⟨w.heap.size+1+1,0,none⟩=false∧b.frozen? ⟨w.heap.size+1+1,1,none⟩=false)
def zlz (w:World) (n1 n2:Bool) (A B:Option Addr) (c d:Nat) (xs ys:List Nat):World:=(two w n1 n2 A B c d xs ys).alloc (.cells #[.bool false,.slice none 0 0] 26)
theorem yqv (w:World) (n1 n2:Bool) (A B:Option Addr) (c d:Nat) (xs ys:List Nat):Below w.heap.size w (zlz w n1 n2 A B c d xs ys):=
 (ygx w n1 n2 A B c d xs ys).alloc (ygx w n1 n2 A B c d xs ys).size _
theorem qcx (w:World) (n1 n2:Bool) (A B:Option Addr) (c d:Nat) (xs ys:List Nat):(zlz w n1 n2 A B c d xs ys).heap.size=w.heap.size+3:=by simp[zlz,two]
theorem yqk {w b:World} {n1 n2:Bool} {A B:Option Addr} {c d:Nat} {xs ys:List Nat} (hx:Nums w A xs) (hy:Nums w B ys) (hb:Below (zlz w n1 n2 A B c d xs ys).heap.size (zlz w n1 n2 A B c d xs ys) b):ThreeB w n1 n2 A B c d xs ys b:=by
 have k:Below (two w n1 n2 A B c d xs ys).heap.size (two w n1 n2 A B c d xs ys) (zlz w n1 n2 A B c d xs ys):=(Below.refl _ _).alloc (Nat.le_refl _) _;have Z:Blk (zlz w n1 n2 A B c d xs ys) (w.heap.size+1+1) 26 #[.bool false,.slice none 0 0]:=Blk.newAt (by simp[two]);exact ⟨two_since hx hy (zhx k hb),(Z.below hb Z.lt).two⟩
section
variable (n1 n2:Bool) (A B:Option Addr) (c d:Nat) (xs ys:List Nat) (w:World)
set_option maxHeartbeats 1000000 in
theorem mul_bad (hx:Nums w A xs) (hy:Nums w B ys) (hl:xs.length≤9223372036854775807) (hl':ys.length≤9223372036854775807) (hok:(yq n1 xs&&yq n2 ys)=false) :
 Calls Tryz.prog 113 #[.agg #[.bool n1,.slice A xs.length c],.agg #[.bool n2,.slice B ys.length d]] w (vq w 0 3):=by
 obtain ⟨W0,hW0⟩:∃W0,W0=zlz w n1 n2 A B c d xs ys:=⟨_,rfl⟩;have LW:Below w.heap.size w W0:=by rw[hW0];exact yqv ..
 have HWs:Hid (W0.heap.size=w.heap.size+3):=by rw[hW0];exact qcx ..
 have HF:Hid (∀b1,Below W0.heap.size W0 b1→ThreeB w n1 n2 A B c d xs ys b1):=fun b1 hb=>by rw[hW0] at hb;exact yqk hx hy hb
 have hg1:=fun w hx=>qm n1 c w A xs hl hx;have hg2:=fun w hy=>qm n2 d w B ys hl' hy;clear hx hy;unfold zlz two at hW0;have L:Below W0.heap.size W0 W0:=Below.refl _ _;obtain ⟨⟨⟨x0,x1,y0,y1⟩,hx,hy⟩,r0,r1,r2,r3⟩:=HF.out _ L;go_enter Tryz.func113,Tryz.ntmps113
 cases h1:yq n1 xs
 · rw[h1] at hg1;clear hok h1;go_upto_region 1 with fail
   rw[←hW0];clear hW0;go_wp2_with (go_at_call 36;refine (hg1 _ hx).mono ?_;rintro e w1 ⟨rfl,hb⟩;have L:=zhx L hb;clear x0 x1 y0 y1 hx hy r0 r1 r2 r3 hb;obtain ⟨⟨⟨x0,x1,y0,y1⟩,hx,hy⟩,r0,r1,r2,r3⟩:=HF.out _ L)
   refine bodyPost_ret (v:=.tuple #[.agg #[.bool false,.slice none 0 0],.int .i64 3]) (by simp[results,Tryz.results113,go_sem,r0,r1]) rfl ?_;exact fin_zero (LW.trans (L.mono LW.size)) (by omega) _ _
 · rw[h1,Bool.true_and] at hok;rw[h1] at hg1;rw[hok] at hg2;clear hok h1;go_upto_region 1 with fail
   rw[←hW0];clear hW0;go_wp2_with (go_at_call 36;refine (hg1 _ hx).mono ?_;rintro e w1 ⟨rfl,hb⟩;have L:=zhx L hb;clear x0 x1 y0 y1 hx hy r0 r1 r2 r3 hb;obtain ⟨⟨⟨x0,x1,y0,y1⟩,hx,hy⟩,r0,r1,r2,r3⟩:=HF.out _ L;refine Hid.out ?_)
   refine Lib.hid ?_;go_wp2_with (go_at_call 36;refine (hg2 _ hy).mono ?_;rintro e w1 ⟨rfl,hb⟩;have L:=zhx L hb;clear x0 x1 y0 y1 hx hy r0 r1 r2 r3 hb;obtain ⟨⟨⟨x0,x1,y0,y1⟩,hx,hy⟩,r0,r1,r2,r3⟩:=HF.out _ L)
   refine bodyPost_ret (v:=.tuple #[.agg #[.bool false,.slice none 0 0],.int .i64 3]) (by simp[results,Tryz.results113,go_sem,r0,r1]) rfl ?_;exact fin_zero (LW.trans (L.mono LW.size)) (by omega) _ _
theorem mul_bound {p z u:Int} (p0:0≤p) (p1:p≤999999999999999999*999999999999999999) (z0:0≤z) (z1:z<1000000000000000000) (u0:0≤u) (u1:u<1000000000000000000) :
 0≤p/18446744073709551616∧p/18446744073709551616<1000000000000000000∧
 (p/18446744073709551616+(p%18446744073709551616+z)/18446744073709551616+((p%18446744073709551616+z)%18446744073709551616+u)/18446744073709551616)*18446744073709551616+((p%18446744073709551616+z)%18446744073709551616+u)%18446744073709551616=p+z+u∧
 (p+z+u)/1000000000000000000<1000000000000000000∧
 p/18446744073709551616+(p%18446744073709551616+z)/18446744073709551616+((p%18446744073709551616+z)%18446744073709551616+u)/18446744073709551616<1000000000000000000:=by
 refine ⟨by omega,by omega,by omega,by omega,by omega⟩
theorem val_rep (b n:Nat):val b (List.replicate n 0)=0:=by
 induction n with
 | zero=>rfl
 | succ n ih=>rw[List.replicate_succ,val,ih];simp
theorem mul64_int (x y:Int) (h0:0≤x) (h1:x<18446744073709551616) (k0:0≤y) (k1:y<18446744073709551616) (w:World) :
 Calls Tryz.prog 95 #[.int .u64 x,.int .u64 y] w fun e w'=>e= .returned (.tuple #[.int .u64 (x*y/18446744073709551616),.int .u64 (x*y%18446744073709551616)])∧w'=w:=by
 obtain ⟨a,rfl⟩:=Int.eq_ofNat_of_zero_le h0;obtain ⟨b,rfl⟩:=Int.eq_ofNat_of_zero_le k0;refine (mul64_any a b (by omega) (by omega) w).mono fun e w' h=>?_;obtain ⟨rfl,rfl⟩:=h;rw[←Int.natCast_mul];exact ⟨by congr 1,rfl⟩
theorem nth_mul_le {xs ys:List Nat} (hs:small B18 xs) (ht:small B18 ys) (k j:Nat):0≤nth xs k*nth ys j∧nth xs k*nth ys j≤999999999999999999*999999999999999999:=by
 have a0:=yo xs k;have b0:=yo ys j;have a1:=vj (by unfold B18;omega) hs k;have b1:=vj (by unfold B18;omega) ht j;rw[B18_eq] at a1 b1;refine ⟨Int.mul_nonneg a0 b0,Int.mul_le_mul (by omega) (by omega) b0 (by omega)⟩
set_option maxHeartbeats 2000000 in
theorem mul_good (hx:Nums w A xs) (hy:Nums w B ys) (hg:yq n1 xs=true) (hk:yq n2 ys=true) :
 Calls Tryz.prog 113 #[.agg #[.bool n1,.slice A xs.length c],.agg #[.bool n2,.slice B ys.length d]] w (vq w (outV true (num n1 xs*num n2 ys)) (outE true (num n1 xs*num n2 ys))):=by
 obtain ⟨hs,_,hl,_⟩:=qj hg;obtain ⟨ht,_,hl',_⟩:=qj hk;have hprod:∀v,v=val B18 xs*val B18 ys→sgn (n1 !=n2) v=num n1 xs*num n2 ys:=fun v hv=>by
  rw[hv,oc,oc];unfold sgn;cases n1<;>cases n2<;>simp[Int.natCast_mul,Int.neg_mul,Int.mul_neg]
 have HP:=Lib.hid hprod;have HS:=Lib.hid hs;have HT:=Lib.hid ht;obtain ⟨q,hq⟩:∃q,q=num n1 xs*num n2 ys:=⟨_,rfl⟩;rw[←hq] at HP ⊢;obtain ⟨W0,hW0⟩:∃W0,W0=zlz w n1 n2 A B c d xs ys:=⟨_,rfl⟩;have LW:Below w.heap.size w W0:=by rw[hW0];exact yqv ..
 have HWs:Hid (W0.heap.size=w.heap.size+3):=by rw[hW0];exact qcx ..
 have HF:Hid (∀b1,Below W0.heap.size W0 b1→ThreeB w n1 n2 A B c d xs ys b1):=fun b1 hb=>by rw[hW0] at hb;exact yqk hx hy hb
 have hg1:=fun w hx=>qm n1 c w A xs (by omega) hx;have hg2:=fun w hy=>qm n2 d w B ys (by omega) hy;rw[hg] at hg1;rw[hk] at hg2;clear hx hy hq hprod hs ht hg hk;unfold zlz two at hW0;have L:Below W0.heap.size W0 W0:=Below.refl _ _;obtain ⟨⟨⟨x0,x1,y0,y1⟩,hx,hy⟩,r0,r1,r2,r3⟩:=HF.out _ L;go_enter Tryz.func113,Tryz.ntmps113
 go_upto_region 1 with fail
 rw[←hW0];clear hW0;go_wp2_with (go_at_call 36;refine (hg1 _ hx).mono ?_;rintro e w1 ⟨rfl,hb⟩;have L:=zhx L hb;clear x0 x1 y0 y1 hx hy r0 r1 r2 r3 hb;obtain ⟨⟨⟨x0,x1,y0,y1⟩,hx,hy⟩,r0,r1,r2,r3⟩:=HF.out _ L;refine Hid.out ?_)
 refine Lib.hid ?_;go_wp2_with (go_at_call 36;refine (hg2 _ hy).mono ?_;rintro e w1 ⟨rfl,hb⟩;have L:=zhx L hb;clear x0 x1 y0 y1 hx hy r0 r1 r2 r3 hb;obtain ⟨⟨⟨x0,x1,y0,y1⟩,hx,hy⟩,r0,r1,r2,r3⟩:=HF.out _ L;refine Hid.out ?_)
 refine Lib.hid ?_;clear hg1 hg2;obtain ⟨N,hN⟩:∃N:Nat,N=xs.length+ys.length+1:=⟨_,rfl⟩;have hmk:=yck N (by omega);have hNi:((xs.length:Int)+(ys.length:Int)+1)=(N:Int):=by omega
 have HN:=Lib.hid hN;have hNb:N≤61:=by omega
 clear hN;go_upto_region 4 with fail
 obtain ⟨g,hg⟩:∃g,g=w1.heap.size:=⟨_,rfl⟩;obtain ⟨W1,hW1⟩:∃W1,W1=w1.alloc (.cells (madeCells #[.int .u64 0] N) 27):=⟨_,rfl⟩;have k1:Below w1.heap.size w1 W1:=by rw[hW1];exact (Below.refl _ _).alloc (Nat.le_refl _) _
 have hrow:Row W1 g N (List.replicate N 0):=by
  have h:=(Row.made w1 N).fill;rw[←hW1,←hg] at h;simpa using h
 have hWg:W1.heap.size=g+1:=by rw[hW1,hg];simp
 have hgW:W0.heap.size≤g:=by rw[hg];exact L.size
 have L:=zhx L k1;rw[←hg,←hW1];clear x0 x1 y0 y1 hx hy r0 r1 r2 r3 hmk hNi hg hW1 k1;obtain ⟨⟨⟨x0,x1,y0,y1⟩,hx,hy⟩,r0,r1,r2,r3⟩:=HF.out _ L;go_wp2_with fail
 clear x0 x1 y0 y1 hx hy r0 r1 r2 r3;go_loopw [34] (fun iv wr=>∃(k:Nat) (zs:List Nat),k≤xs.length∧iv= .int .i64 k∧Row wr g N zs∧zs.length=N∧small B18 zs∧Hid (val B18 zs=val B18 (xs.take k)*val B18 ys)∧Hid (∀p,k+ys.length≤p→nth zs p=0)∧Below W0.heap.size W0 wr) (fun iv _=>xs.length-(intOf iv).toNat)
 case atStart=>exact ⟨0,List.replicate N 0,by omega,rfl,hrow,by simp,by intro x hx;rw[List.eq_of_mem_replicate hx];unfold B18;omega,by show _=_;rw[val_rep,List.take_zero];simp[val],fun p _=>nth_replicate _ _,L⟩
 case round=>
  obtain ⟨k,zs,hk,rfl,hrw,hzl,hzs,HV,HZ,hbel⟩:=hrel;obtain ⟨⟨⟨x0,x1,y0,y1⟩,hx,hy⟩,r0,r1,r2,r3⟩:=HF.out _ hbel;by_cases hkn:k<xs.length
  · obtain ⟨wo,rfl⟩:∃wo:World,wo=wr:=⟨_,rfl⟩;have hm1:(k:Int)<(xs.length:Int):=by omega
    have HX0:Hid (val B18 zs+B18^(k+0)*(0:Int).toNat=val B18 (xs.take k)*val B18 ys+B18^k*(xs.getD k 0*val B18 (ys.take 0))):=by
     show _=_;rw[HV.out];simp[val]
    go_wp2_with fail
    clear x0 x1 y0 y1 hx hy r0 r1 r2 r3;go_loopw [8,40] (fun cv jv wi=>∃(j:Nat) (u:Int) (qs:List Nat),j≤ys.length∧jv= .int .i64 j∧cv= .int .u64 u∧0≤u∧u<1000000000000000000∧Row wi g N qs∧qs.length=N∧small B18 qs∧
     Hid (val B18 qs+B18^(k+j)*u.toNat=val B18 (xs.take k)*val B18 ys+B18^k*(xs.getD k 0*val B18 (ys.take j)))∧Hid (∀p,k+ys.length≤p→nth qs p=0)∧Below W0.heap.size W0 wi) (fun _ jv _=>ys.length-(intOf jv).toNat)
    case atStart=>exact ⟨0,0,zs,by omega,rfl,rfl,by omega,by omega,hrw,hzl,hzs,HX0,HZ,hbel⟩
    case round=>
     obtain ⟨j,u,qs,hj,rfl,rfl,hu0,hu1,hrq,hql,hqs,HQ,HZ2,hbel2⟩:=hrel;obtain ⟨⟨⟨x0,x1,y0,y1⟩,hx,hy⟩,r0,r1,r2,r3⟩:=HF.out _ hbel2;by_cases hjn:j<ys.length
     · have hN1:=HN.out;obtain ⟨b,o,rfl,hb,hc⟩:=hx.2 (by omega);obtain ⟨b',o',rfl,hb',hc'⟩:=hy.2 (by omega);have hcx:=hc k hkn;have hcy:=hc' j hjn;have hcz:=hrq.cell (j:=k+j) (by omega);have hm2:(j:Int)<(ys.length:Int):=by omega
       have hk0:(0:Int)≤(k:Int):=by omega
       have hj0:(0:Int)≤(j:Int):=by omega
       have hnx:=yo xs k;have hny:=yo ys j;have hnz:=yo qs (k+j);have hlx:=vj (by unfold B18;omega) HS.out k;have hly:=vj (by unfold B18;omega) HT.out j;have hlz:=vj (by unfold B18;omega) hqs (k+j);rw[B18_eq] at hlx hly hlz;obtain ⟨p0,p1⟩:=nth_mul_le HS.out HT.out k j;obtain ⟨P,hP⟩:∃P,P=nth xs k*nth ys j:=⟨_,rfl⟩;rw[←hP] at p0 p1;obtain ⟨m1,m2,m3,m4,m5⟩:=mul_bound p0 p1 hnz hlz hu0 hu1;have hmul:=fun w=>mul64_int (nth xs k) (nth ys j) hnx (by omega) hny (by omega) w;rw[←hP] at hmul;obtain ⟨h0,hh0⟩:∃h0,h0=P/18446744073709551616:=⟨_,rfl⟩;obtain ⟨l0,hl0⟩:∃l0,l0=P%18446744073709551616:=⟨_,rfl⟩;rw[←hh0,←hl0] at hmul;obtain ⟨l1,hl1⟩:∃l1,l1=(l0+nth qs (k+j))%18446744073709551616:=⟨_,rfl⟩;obtain ⟨c1,hc1⟩:∃c1,c1=(l0+nth qs (k+j))/18446744073709551616:=⟨_,rfl⟩;obtain ⟨l2,hl2⟩:∃l2,l2=(l1+u)%18446744073709551616:=⟨_,rfl⟩;obtain ⟨c2,hc2⟩:∃c2,c2=(l1+u)/18446744073709551616:=⟨_,rfl⟩;have b1:0≤l0:=by omega
       have b2:0≤l1:=by omega
       have b3:0≤l2∧l2<18446744073709551616:=by omega
       have b4:0≤c1:=by omega
       have b5:0≤c2:=by omega
       have ha1:∀w,(callFunc 97 #[.int .u64 l0,.int .u64 (nth qs (k+j)),.int .u64 0]).run Tryz.prog w= .ok (.value (.tuple #[.int .u64 l1,.int .u64 c1])) w:=fun w=>by rw[add64_run l0 _ b1 hnz,hl1,hc1]
       have ha2:∀w,(callFunc 97 #[.int .u64 l1,.int .u64 u,.int .u64 0]).run Tryz.prog w= .ok (.value (.tuple #[.int .u64 l2,.int .u64 c2])) w:=fun w=>by rw[add64_run l1 _ b2 hu0,hl2,hc2]
       rw[←hh0,←hl0,←hl1,←hc1,←hl2,←hc2] at m3;rw[←hh0,←hl0,←hl1,←hc1,←hc2] at m5;rw[←hh0] at m1 m2;have hdv:=fun w=>div64_base (h0+c1+c2) l2 (by omega) m5 b3.1 b3.2 w;rw[m3] at hdv;obtain ⟨T,hT⟩:∃T,T=P+nth qs (k+j)+u:=⟨_,rfl⟩;rw[←hT] at hdv m4;obtain ⟨Q,hQ⟩:∃Q,Q=T/1000000000000000000:=⟨_,rfl⟩;obtain ⟨R,hR⟩:∃R,R=T%1000000000000000000:=⟨_,rfl⟩;rw[←hQ,←hR] at hdv;rw[←hQ] at m4;have hQ0:0≤Q:=by omega
       have hR0:0≤R:=by omega
       have hR1:R<1000000000000000000:=by omega
       have HST:Hid (val B18 (qs.set (k+j) R.toNat)+B18^(k+(j+1))*Q.toNat=val B18 (xs.take k)*val B18 ys+B18^k*(xs.getD k 0*val B18 (ys.take (j+1)))):=by
        have hTn:T.toNat=xs.getD k 0*ys.getD j 0+qs.getD (k+j) 0+u.toNat:=by
         have e1:P=((xs.getD k 0*ys.getD j 0:Nat):Int):=by rw[hP];unfold nth;rw[←Int.natCast_mul]
         have e2:nth qs (k+j)=((qs.getD (k+j) 0:Nat):Int):=by unfold nth;rfl
         rw[hT,e1,e2];omega
        have h:=mul_step (zs:=qs) (k:=k) (j:=j) (ys:=ys) (by omega) HQ.out hTn;have e3:R.toNat=T.toNat%B18:=by rw[hR];unfold B18;omega
        have e4:Q.toNat=T.toNat/B18:=by rw[hQ];unfold B18;omega
        show _=_;rw[e3,e4];exact h
       have hfz:=hrq.frozen (k+j);have hkj:(k:Int)+(j:Int)<(N:Int):=by omega
       have hkj0:(0:Int)≤(k:Int)+(j:Int):=by omega
       have hw64:IntKind.i64.wrap ((k:Int)+(j:Int))=(k:Int)+(j:Int):=IntWalk.i64_in _ (by omega);clear hc hc' hP hh0 hl0 hl1 hc1 hl2 hc2 hT hQ hR m3 hN1 p0 p1;go_wp2_with fail
       go_quiet ((go_at_call 95;exact Calls.quiet_of_same (hmul _)))
       go_wp2_with (go_at_call 109;refine (hdv _).mono ?_;rintro e w' ⟨rfl,nd,rfl⟩)
       go_roundw
       case rel=>exact ⟨j+1,Q,qs.set (k+j) R.toNat,by omega,by go_num,rfl,hQ0,m4,by first | exact (hrq.drewN _).setInt R hR0 (by omega) | exact ((hrq.drewN _).drewN _).setInt R hR0 (by omega),by rw[List.length_set];exact hql,vw hqs _ _ (by unfold B18;omega),HST,
        fun p hp=>by rw[qhz _ _ _ (by omega),if_neg (by omega)];exact HZ2.out p hp,by first | exact (gj hbel2 _).setCell hgW _ | exact (gj (gj hbel2 _) _).setCell hgW _⟩
       case measure=>simp[intOf];omega
     · obtain rfl:j=ys.length:=by omega
       have hN1:=HN.out;have hcz:=hrq.cell (j:=k+ys.length) (by omega);have hz0:nth qs (k+ys.length)=0:=HZ2.out _ (Nat.le_refl _);rw[hz0] at hcz;have hfz:=hrq.frozen (k+ys.length);have hm2:¬(ys.length:Int)<(ys.length:Int):=by omega
       have hkj:(k:Int)+(ys.length:Int)<(N:Int):=by omega
       have hkj0:(0:Int)≤(k:Int)+(ys.length:Int):=by omega
       have hw64:IntKind.i64.wrap ((k:Int)+(ys.length:Int))=(k:Int)+(ys.length:Int):=IntWalk.i64_in _ (by omega);have hlq:k+ys.length<qs.length:=by omega
       have HCL:Hid (val B18 (qs.set (k+ys.length) u.toNat)=val B18 (xs.take (k+1))*val B18 ys):=mul_close hlq (by unfold nth at hz0;omega) HQ.out;clear hz0 hN1;go_wp2_with fail
       go_roundw
       case rel=>exact ⟨k+1,qs.set (k+ys.length) u.toNat,by omega,by go_num,hrq.setInt u hu0 hlq,by rw[List.length_set];exact hql,vw hqs _ _ (by unfold B18;omega),HCL,
        fun p hp=>by rw[qhz _ _ _ hlq,if_neg (by omega)];exact HZ2.out p (by omega),hbel2.setCell hgW _⟩
       case measure=>simp[intOf];omega
  · obtain rfl:k=xs.length:=by omega
    have hm1:¬(xs.length:Int)<(xs.length:Int):=by omega
    have hnum:=hrw.nums hzl (qfq hzs);have hfit:=fun w h=>fits_out (n1 !=n2) (some ⟨g,0,none⟩) N zs w h hzs (by omega);have hval:sgn (n1 !=n2) (val B18 zs)=q:=HP.out _ (by rw[HV.out,List.take_length]);rw[hval,hzl] at hfit;clear hval;go_wp2_with (go_at_call 121;refine (hfit _ hnum).mono ?_;rintro e w4 ⟨A4,c4,rfl,hown4,hb4⟩;have LB:=hbel.trans (hb4.mono hbel.size);clear x0 x1 y0 y1 hx hy r0 r1 r2 r3;obtain ⟨⟨⟨x0,x1,y0,y1⟩,hx,hy⟩,r0,r1,r2,r3⟩:=HF.out _ LB)
    refine bodyPost_ret (v:=.tuple #[.agg #[.bool (decide (outV true q<0)),.slice A4 (limbs (outV true q)).length c4],.int .i64 (outE true q)]) (by simp[results,Tryz.results113,go_sem,r0,r1]) rfl ?_;exact fin_big hown4 (LW.trans (LB.mono LW.size)) (by omega) (by have:=HWs.out;have:=hbel.size;omega) _ _
theorem mul_any (hx:Nums w A xs) (hy:Nums w B ys) (hl:xs.length≤9223372036854775807) (hl':ys.length≤9223372036854775807) :
 Calls Tryz.prog 113 #[.agg #[.bool n1,.slice A xs.length c],.agg #[.bool n2,.slice B ys.length d]] w
  (vq w (outV (yq n1 xs&&yq n2 ys) (num n1 xs*num n2 ys)) (outE (yq n1 xs&&yq n2 ys) (num n1 xs*num n2 ys))):=by
 cases h:(yq n1 xs&&yq n2 ys)
 · rw[outV_bad,outE_bad];exact mul_bad n1 n2 A B c d xs ys w hx hy hl hl' h
 · obtain ⟨hg,hk⟩:=Bool.and_eq_true_iff.1 h;exact mul_good n1 n2 A B c d xs ys w hx hy hg hk
end
section
variable {i j:Int} (A B:Option Addr) (c d:Nat) (w:World) (hi:i.natAbs<B18^30) (hj:j.natAbs<B18^30) (hx:Nums w A (limbs i)) (hy:Nums w B (limbs j))
include hi
include hx
include hj hy
theorem mulI:Calls Tryz.prog 113 #[.agg #[.bool (decide (i<0)),.slice A (limbs i).length c],.agg #[.bool (decide (j<0)),.slice B (limbs j).length d]] w (vq w (outV true (i*j)) (outE true (i*j))):=by
 have h:=mul_any (decide (i<0)) (decide (j<0)) A B c d (limbs i) (limbs j) w hx hy (by have:=xv hi;omega) (by have:=xv hj;omega);rwa [jw hi,jw hj,ja,ja] at h
theorem cmpI_:Calls Tryz.prog 90 #[.agg #[.bool (decide (i<0)),.slice A (limbs i).length c],.agg #[.bool (decide (j<0)),.slice B (limbs j).length d]] w fun e w'=>e= .returned (.int .i64 (xy i j))∧Below w.heap.size w w':=by
 have h:=cmp_any A B c d (limbs i) (limbs j) w (decide (i<0)) (decide (j<0)) hx hy (by have:=xv hi;omega) (by have:=xv hj;omega);rw[jw hi,jw hj,ja,ja] at h;unfold cmpO at h;exact h
end
theorem outE_zero {i:Int} (h:outE true i=0):i.natAbs<B18^30:=by
 unfold outE at h;rw[if_pos rfl] at h;split at h
 · assumption
 · cases h
structure PV where
 k:Int
 yes:Bool
 neg:Bool
 xs:List Nat
 bits:Nat
 s:ByteArray
 ni:Nat
structure PVp where
 a:Option Addr
 c:Nat
 b:Option Addr
 d:Nat
def PV.cells (v:PV) (p:PVp):List Value:=[.int .i64 v.k,.bool v.yes,.bool v.neg,.slice p.a v.xs.length p.c,.int .u64 ((v.bits:Nat):Int),.string v.s,.slice p.b v.ni p.d]
def PV.val (v:PV) (p:PVp):Value:=.agg #[.int .i64 v.k,.bool v.yes,.bool v.neg,.slice p.a v.xs.length p.c,.int .u64 ((v.bits:Nat):Int),.string v.s,.slice p.b v.ni p.d]
def PV.good (v:PV):Bool:=
 decide (v.ni=0)&&(if v.k=0 then !v.yes&&(!v.neg&&decide (v.xs.length=0))&&decide (v.bits=0)&&(v.s.toList==(⟨#[]⟩:ByteArray).toList)
  else if v.k=1 then (!v.neg&&decide (v.xs.length=0))&&decide (v.bits=0)&&(v.s.toList==(⟨#[]⟩:ByteArray).toList)
  else if v.k=2 then yq v.neg v.xs&& !v.yes&&decide (v.bits=0)&&(v.s.toList==(⟨#[]⟩:ByteArray).toList)
  else if v.k=3 then (!v.neg&&decide (v.xs.length=0))&& !v.yes&&(v.s.toList==(⟨#[]⟩:ByteArray).toList)
  else if v.k=4 then (!v.neg&&decide (v.xs.length=0))&& !v.yes&&decide (v.bits=0)&&decide (v.s.size≤20000)
  else false)
structure PVA (n:Nat) (w:World) (v:PV) (p:PVp):Prop where
 k:I64 v.k
 bits:U64 v.bits
 limbs:WordsA n w p.a v.xs
end Go.Proofs.YtebjkmjfcijebaaGreat
namespace Go.Proofs.YtebjkmjfcijebaaGreat
open Go.RowKit
set_option maxHeartbeats 20000000
attribute [local irreducible] OW RS CW EW
theorem gr0 {n:Nat} (h:0<n):n≠0:=by omega
theorem zfq {s:ByteArray} (h:s.toList= []):s.size=0:=by
 have h1:=congrArg List.length h;rw[ByteArray.toList_eq] at h1;exact h1
section
variable (w:World) (k:Int) (yes neg:Bool) (A B:Option Addr) (xs:List Nat) (c bits ni d:Nat) (s:ByteArray) (hx:Nums w A xs) (hl:xs.length≤9223372036854775807)
include hx hl
set_option maxHeartbeats 20000000 in
theorem pgood_any:Calls Tryz.prog 21 #[.agg #[.int .i64 k,.bool yes,.bool neg,.slice A xs.length c,.int .u64 ((bits:Nat):Int),.string s,.slice B ni d]] w fun e w'=>e= .returned (.bool (PV.good ⟨k,yes,neg,xs,bits,s,ni⟩))∧Below w.heap.size w w':=by
 refine zh Tryz.func21 rfl Tryz.ntmps21 rfl ?_;have HF:Per (No) w (fun _=>True):=Per.true_;have LW:=erx (No) w;have XLW:=grx (No) w;have E:=erx (No) w;replace HF:=HF.on E;replace LW:=LW.step E XLW;replace E:=erx (No) w;replace HF:=HF.and (Per.nums0 hx);refine zy ?_;refine za rfl (zn rfl ?_);intro gb1 w2 Bb1 Eb1 Gb1;have Gb1:_≤gb1:=Nat.le_trans E.size Gb1;have GLb1:=Nat.le_trans LW.size Gb1;replace E:=E.trans Eb1.no;replace HF:=HF.cons (zj Gb1);replace E:=E.cons (some gb1);replace XLW:=Mut.grow XLW (fun k e=>Or.inr (Nat.le_trans LW.size ((zj Gb1) k e)));replace HF:=HF.on E;replace LW:=LW.step E XLW;have SB:∀q9,No q9→Mut [(some gb1)] q9:=(Mut.skip Mut.nil_);replace HF:=HF.less SB;replace XLW:=fun k h=>XLW k (SB k h);clear SB;replace E:=erx (No) w2;replace HF:=HF.and (Per.blkN Bb1 NotIn.nil);refine qo ?_;refine vp rfl (fun h1=>?_) (fun h1=>?_)
 ·
  replace h1:=of_decide_eq_true h1;refine yx ?_;exact ⟨by refine congrArg (fun z=>Ending.returned (.bool z)) ?_;first | (simp_all[PV.good,gr0];done) | (simp_all[PV.good,gr0];omega),(LW.step E XLW).toBelow⟩
 ·
  replace h1:=of_decide_eq_false h1;refine qa ?_;refine yn 12 rfl (fun h2=>?_) (fun h2=>?_)
  ·
   refine zoz ?_;refine vp rfl (fun h3=>?_) (fun h3=>?_)
   ·
    replace h3:=eq_of_beq h3;subst h3;refine yb ?_;refine yn 26 rfl (fun h4=>?_) (fun h4=>?_)
    ·
     refine qc ?_;refine yn 29 rfl (fun h5=>?_) (fun h5=>?_)
     ·
      replace h5:=eq_of_beq h5;refine yk ?_;refine yn 34 rfl (fun h6=>?_) (fun h6=>?_)
      ·
       replace h6:=eq_of_beq h6;refine yt ?_;exact ⟨by refine congrArg (fun z=>Ending.returned (.bool z)) ?_;first | (simp_all[PV.good,gr0];done) | (simp_all[PV.good,gr0];omega),(LW.step E XLW).toBelow⟩
      ·
       replace h6:=beq_eq_false_iff_ne.1 h6;refine yt ?_;exact ⟨by refine congrArg (fun z=>Ending.returned (.bool z)) ?_;first | (simp_all[PV.good,gr0];done) | (simp_all[PV.good,gr0];omega),(LW.step E XLW).toBelow⟩
     ·
      replace h5:=beq_eq_false_iff_ne.1 h5;refine gh ?_;exact ⟨by refine congrArg (fun z=>Ending.returned (.bool z)) ?_;first | (simp_all[PV.good,gr0];done) | (simp_all[PV.good,gr0];omega),(LW.step E XLW).toBelow⟩
    ·
     refine ylz ?_;exact ⟨by refine congrArg (fun z=>Ending.returned (.bool z)) ?_;first | (simp_all[PV.good,gr0];done) | (simp_all[PV.good,gr0];omega),(LW.step E XLW).toBelow⟩
   ·
    replace h3:=beq_eq_false_iff_ne.1 h3;refine yb ?_;refine vp rfl (fun h7=>?_) (fun h7=>?_)
    ·
     replace h7:=eq_of_beq h7;subst h7;refine qb ?_;refine yn 42 rfl (fun h8=>?_) (fun h8=>?_)
     ·
      replace h8:=eq_of_beq h8;refine yk ?_;refine yn 47 rfl (fun h9=>?_) (fun h9=>?_)
      ·
       replace h9:=eq_of_beq h9;refine yt ?_;exact ⟨by refine congrArg (fun z=>Ending.returned (.bool z)) ?_;first | (simp_all[PV.good,gr0];done) | (simp_all[PV.good,gr0];omega),(LW.step E XLW).toBelow⟩
      ·
       replace h9:=beq_eq_false_iff_ne.1 h9;refine yt ?_;exact ⟨by refine congrArg (fun z=>Ending.returned (.bool z)) ?_;first | (simp_all[PV.good,gr0];done) | (simp_all[PV.good,gr0];omega),(LW.step E XLW).toBelow⟩
     ·
      replace h8:=beq_eq_false_iff_ne.1 h8;refine gh ?_;exact ⟨by refine congrArg (fun z=>Ending.returned (.bool z)) ?_;first | (simp_all[PV.good,gr0];done) | (simp_all[PV.good,gr0];omega),(LW.step E XLW).toBelow⟩
    ·
     replace h7:=beq_eq_false_iff_ne.1 h7;refine yb ?_;refine vp rfl (fun h10=>?_) (fun h10=>?_)
     ·
      replace h10:=eq_of_beq h10;subst h10;refine qc ?_;refine za rfl (zrk u26 rfl kj rfl (HF.on E).here.2 rfl rfl (za rfl (zd en36 rfl ((qm neg c _ A xs hl (HF.on E).here.1.2).mono ?_))));rintro e w3 ⟨rfl,hb⟩;refine ⟨_,rfl,?_⟩;replace E:=blx E hb;refine stp ?_;refine yn 57 rfl (fun h11=>?_) (fun h11=>?_)
      ·
       refine yk ?_;refine yn 62 rfl (fun h12=>?_) (fun h12=>?_)
       ·
        refine yk ?_;refine yn 67 rfl (fun h13=>?_) (fun h13=>?_)
        ·
         replace h13:=eq_of_beq h13;refine yt ?_;exact ⟨by refine congrArg (fun z=>Ending.returned (.bool z)) ?_;first | (simp_all[PV.good,gr0];done) | (simp_all[PV.good,gr0];omega),(LW.step E XLW).toBelow⟩
        ·
         replace h13:=beq_eq_false_iff_ne.1 h13;refine yt ?_;exact ⟨by refine congrArg (fun z=>Ending.returned (.bool z)) ?_;first | (simp_all[PV.good,gr0];done) | (simp_all[PV.good,gr0];omega),(LW.step E XLW).toBelow⟩
       ·
        refine gh ?_;exact ⟨by refine congrArg (fun z=>Ending.returned (.bool z)) ?_;first | (simp_all[PV.good,gr0];done) | (simp_all[PV.good,gr0];omega),(LW.step E XLW).toBelow⟩
      ·
       refine stp21 ?_;exact ⟨by refine congrArg (fun z=>Ending.returned (.bool z)) ?_;first | (simp_all[PV.good,gr0];done) | (simp_all[PV.good,gr0];omega),(LW.step E XLW).toBelow⟩
     ·
      replace h10:=beq_eq_false_iff_ne.1 h10;refine yb ?_;refine vp rfl (fun h14=>?_) (fun h14=>?_)
      ·
       replace h14:=eq_of_beq h14;subst h14;refine qb ?_;refine yn 75 rfl (fun h15=>?_) (fun h15=>?_)
       ·
        replace h15:=eq_of_beq h15;refine yk ?_;refine yn 80 rfl (fun h16=>?_) (fun h16=>?_)
        ·
         refine yt ?_;exact ⟨by refine congrArg (fun z=>Ending.returned (.bool z)) ?_;first | (simp_all[PV.good,gr0];done) | (simp_all[PV.good,gr0];omega),(LW.step E XLW).toBelow⟩
        ·
         refine yt ?_;exact ⟨by refine congrArg (fun z=>Ending.returned (.bool z)) ?_;first | (simp_all[PV.good,gr0];done) | (simp_all[PV.good,gr0];omega),(LW.step E XLW).toBelow⟩
       ·
        replace h15:=beq_eq_false_iff_ne.1 h15;refine gh ?_;exact ⟨by refine congrArg (fun z=>Ending.returned (.bool z)) ?_;first | (simp_all[PV.good,gr0];done) | (simp_all[PV.good,gr0];omega),(LW.step E XLW).toBelow⟩
      ·
       replace h14:=beq_eq_false_iff_ne.1 h14;refine yb ?_;refine vp rfl (fun h17=>?_) (fun h17=>?_)
       ·
        replace h17:=eq_of_beq h17;subst h17;refine qb ?_;refine yn 88 rfl (fun h18=>?_) (fun h18=>?_)
        ·
         replace h18:=eq_of_beq h18;refine yk ?_;refine yn 93 rfl (fun h19=>?_) (fun h19=>?_)
         ·
          refine yk ?_;refine yn 98 rfl (fun h20=>?_) (fun h20=>?_)
          ·
           replace h20:=eq_of_beq h20;refine zy ?_;refine onx rfl (zfx Tryz.underlying9 rfl (qa ?_));exact ⟨by refine congrArg (fun z=>Ending.returned (.bool z)) ?_;first | (simp_all[PV.good,gr0];done) | (simp_all[PV.good,gr0];omega),(LW.step E XLW).toBelow⟩
          ·
           replace h20:=beq_eq_false_iff_ne.1 h20;refine qo ?_;exact ⟨by refine congrArg (fun z=>Ending.returned (.bool z)) ?_;first | (simp_all[PV.good,gr0];done) | (simp_all[PV.good,gr0];omega),(LW.step E XLW).toBelow⟩
         ·
          refine zhq ?_;exact ⟨by refine congrArg (fun z=>Ending.returned (.bool z)) ?_;first | (simp_all[PV.good,gr0];done) | (simp_all[PV.good,gr0];omega),(LW.step E XLW).toBelow⟩
        ·
         replace h18:=beq_eq_false_iff_ne.1 h18;refine yrz ?_;exact ⟨by refine congrArg (fun z=>Ending.returned (.bool z)) ?_;first | (simp_all[PV.good,gr0];done) | (simp_all[PV.good,gr0];omega),(LW.step E XLW).toBelow⟩
       ·
        replace h17:=beq_eq_false_iff_ne.1 h17;refine zz ?_;exact ⟨by refine congrArg (fun z=>Ending.returned (.bool z)) ?_;first | (simp_all[PV.good,gr0];done) | (simp_all[PV.good,gr0];omega),(LW.step E XLW).toBelow⟩
  ·
   refine zoz ?_;refine vp rfl (fun h21=>?_) (fun h21=>?_)
   ·
    replace h21:=eq_of_beq h21;subst h21;refine yb ?_;refine yn 26 rfl (fun h22=>?_) (fun h22=>?_)
    ·
     refine ylz ?_;exact ⟨by refine congrArg (fun z=>Ending.returned (.bool z)) ?_;first | (simp_all[PV.good,gr0];done) | (simp_all[PV.good,gr0];omega),(LW.step E XLW).toBelow⟩
    ·
     refine ylz ?_;exact ⟨by refine congrArg (fun z=>Ending.returned (.bool z)) ?_;first | (simp_all[PV.good,gr0];done) | (simp_all[PV.good,gr0];omega),(LW.step E XLW).toBelow⟩
   ·
    replace h21:=beq_eq_false_iff_ne.1 h21;refine yb ?_;refine vp rfl (fun h23=>?_) (fun h23=>?_)
    ·
     replace h23:=eq_of_beq h23;subst h23;refine xl ?_;exact ⟨by refine congrArg (fun z=>Ending.returned (.bool z)) ?_;first | (simp_all[PV.good,gr0];done) | (simp_all[PV.good,gr0];omega),(LW.step E XLW).toBelow⟩
    ·
     replace h23:=beq_eq_false_iff_ne.1 h23;refine yb ?_;refine vp rfl (fun h24=>?_) (fun h24=>?_)
     ·
      replace h24:=eq_of_beq h24;subst h24;refine qc ?_;refine za rfl (zrk u26 rfl kj rfl (HF.on E).here.2 rfl rfl (za rfl (zd en36 rfl ((qm neg c _ A xs hl (HF.on E).here.1.2).mono ?_))));rintro e w4 ⟨rfl,hb⟩;refine ⟨_,rfl,?_⟩;replace E:=blx E hb;refine stp ?_;refine yn 57 rfl (fun h25=>?_) (fun h25=>?_)
      ·
       refine yk ?_;refine yn 62 rfl (fun h26=>?_) (fun h26=>?_)
       ·
        refine yk ?_;refine yn 67 rfl (fun h27=>?_) (fun h27=>?_)
        ·
         replace h27:=eq_of_beq h27;refine yt ?_;exact ⟨by refine congrArg (fun z=>Ending.returned (.bool z)) ?_;first | (simp_all[PV.good,gr0];done) | (simp_all[PV.good,gr0];omega),(LW.step E XLW).toBelow⟩
        ·
         replace h27:=beq_eq_false_iff_ne.1 h27;refine yt ?_;exact ⟨by refine congrArg (fun z=>Ending.returned (.bool z)) ?_;first | (simp_all[PV.good,gr0];done) | (simp_all[PV.good,gr0];omega),(LW.step E XLW).toBelow⟩
       ·
        refine gh ?_;exact ⟨by refine congrArg (fun z=>Ending.returned (.bool z)) ?_;first | (simp_all[PV.good,gr0];done) | (simp_all[PV.good,gr0];omega),(LW.step E XLW).toBelow⟩
      ·
       refine stp21 ?_;exact ⟨by refine congrArg (fun z=>Ending.returned (.bool z)) ?_;first | (simp_all[PV.good,gr0];done) | (simp_all[PV.good,gr0];omega),(LW.step E XLW).toBelow⟩
     ·
      replace h24:=beq_eq_false_iff_ne.1 h24;refine yb ?_;refine vp rfl (fun h28=>?_) (fun h28=>?_)
      ·
       replace h28:=eq_of_beq h28;subst h28;refine xl ?_;exact ⟨by refine congrArg (fun z=>Ending.returned (.bool z)) ?_;first | (simp_all[PV.good,gr0];done) | (simp_all[PV.good,gr0];omega),(LW.step E XLW).toBelow⟩
      ·
       replace h28:=beq_eq_false_iff_ne.1 h28;refine yb ?_;refine vp rfl (fun h29=>?_) (fun h29=>?_)
       ·
        replace h29:=eq_of_beq h29;subst h29;refine stp26 ?_;exact ⟨by refine congrArg (fun z=>Ending.returned (.bool z)) ?_;first | (simp_all[PV.good,gr0];done) | (simp_all[PV.good,gr0];omega),(LW.step E XLW).toBelow⟩
       ·
        replace h29:=beq_eq_false_iff_ne.1 h29;refine zz ?_;exact ⟨by refine congrArg (fun z=>Ending.returned (.bool z)) ?_;first | (simp_all[PV.good,gr0];done) | (simp_all[PV.good,gr0];omega),(LW.step E XLW).toBelow⟩
theorem rg0:Calls Tryz.prog 9 #[.agg #[.int .i64 0,.bool yes,.bool neg,.slice A xs.length c,.int .u64 ((bits:Nat):Int),.string s,.slice B ni d]] w fun e w'=>e= .returned (.bool (PV.good ⟨0,yes,neg,xs,bits,s,ni⟩))∧Below w.heap.size w w':=by
 have _:=hx;have _:=hl;have hs0:s.toList= []→s.size=0:=zfq;refine zh Tryz.func9 rfl Tryz.ntmps9 rfl ?_;have HF:Per (No) w (fun _=>True):=Per.true_;have LW:=erx (No) w;have XLW:=grx (No) w;have E:=erx (No) w;replace HF:=HF.on E;replace LW:=LW.step E XLW;replace E:=erx (No) w;replace HF:=HF.and (Per.nums0 hx);refine zy ?_;refine za rfl (zn rfl ?_);intro gb1 w2 Bb1 Eb1 Gb1;have Gb1:_≤gb1:=Nat.le_trans E.size Gb1;have GLb1:=Nat.le_trans LW.size Gb1;replace E:=E.trans Eb1.no;replace HF:=HF.cons (zj Gb1);replace E:=E.cons (some gb1);replace XLW:=Mut.grow XLW (fun k e=>Or.inr (Nat.le_trans LW.size ((zj Gb1) k e)));replace HF:=HF.on E;replace LW:=LW.step E XLW;have SB:∀q9,No q9→Mut [(some gb1)] q9:=(Mut.skip Mut.nil_);replace HF:=HF.less SB;replace XLW:=fun k h=>XLW k (SB k h);clear SB;replace E:=erx (No) w2;replace HF:=HF.and (Per.blkN Bb1 NotIn.nil);refine yrz ?_;refine vp rfl (fun h1=>?_) (fun h1=>?_)
 ·
  refine yx ?_;exact ⟨by refine congrArg (fun z=>Ending.returned (.bool z)) ?_;first | (simp_all[PV.good,gr0];done) | (simp_all[PV.good,gr0];omega),(LW.step E XLW).toBelow⟩
 ·
  refine jq ?_;refine yn 24 rfl (fun h2=>?_) (fun h2=>?_)
  ·
   refine stp30 ?_;exact ⟨by refine congrArg (fun z=>Ending.returned (.bool z)) ?_;first | (simp_all[PV.good,gr0];done) | (simp_all[PV.good,gr0];omega),(LW.step E XLW).toBelow⟩
  ·
   refine zz ?_;refine yn 34 rfl (fun h3=>?_) (fun h3=>?_)
   ·
    refine xl ?_;exact ⟨by refine congrArg (fun z=>Ending.returned (.bool z)) ?_;first | (simp_all[PV.good,gr0];done) | (simp_all[PV.good,gr0];omega),(LW.step E XLW).toBelow⟩
   ·
    refine yb ?_;refine onx rfl (ysk rfl rfl (qb ?_));refine vp rfl (fun h4=>?_) (fun h4=>?_)
    ·
     refine yx ?_;exact ⟨by refine congrArg (fun z=>Ending.returned (.bool z)) ?_;first | (simp_all[PV.good,gr0];done) | (simp_all[PV.good,gr0];omega),(LW.step E XLW).toBelow⟩
    ·
     refine xm ?_;refine yn 51 rfl (fun h5=>?_) (fun h5=>?_)
     ·
      refine yu ?_;refine yn 58 rfl (fun h6=>?_) (fun h6=>?_)
      ·
       replace h6:=eq_of_beq h6;refine zy ?_;refine onx rfl (zfx Tryz.underlying9 rfl (yx ?_));exact ⟨by refine congrArg (fun z=>Ending.returned (.bool z)) ?_;first | (simp_all[PV.good,gr0];done) | (simp_all[PV.good,gr0];omega),(LW.step E XLW).toBelow⟩
      ·
       replace h6:=beq_eq_false_iff_ne.1 h6;refine yt ?_;exact ⟨by refine congrArg (fun z=>Ending.returned (.bool z)) ?_;first | (simp_all[PV.good,gr0];done) | (simp_all[PV.good,gr0];omega),(LW.step E XLW).toBelow⟩
     ·
      refine xm ?_;exact ⟨by refine congrArg (fun z=>Ending.returned (.bool z)) ?_;first | (simp_all[PV.good,gr0];done) | (simp_all[PV.good,gr0];omega),(LW.step E XLW).toBelow⟩
theorem rg1:Calls Tryz.prog 9 #[.agg #[.int .i64 1,.bool yes,.bool neg,.slice A xs.length c,.int .u64 ((bits:Nat):Int),.string s,.slice B ni d]] w fun e w'=>e= .returned (.bool (PV.good ⟨1,yes,neg,xs,bits,s,ni⟩))∧Below w.heap.size w w':=by
 have _:=hx;have _:=hl;have hs0:s.toList= []→s.size=0:=zfq;refine zh Tryz.func9 rfl Tryz.ntmps9 rfl ?_;have HF:Per (No) w (fun _=>True):=Per.true_;have LW:=erx (No) w;have XLW:=grx (No) w;have E:=erx (No) w;replace HF:=HF.on E;replace LW:=LW.step E XLW;replace E:=erx (No) w;replace HF:=HF.and (Per.nums0 hx);refine zy ?_;refine za rfl (zn rfl ?_);intro gb1 w2 Bb1 Eb1 Gb1;have Gb1:_≤gb1:=Nat.le_trans E.size Gb1;have GLb1:=Nat.le_trans LW.size Gb1;replace E:=E.trans Eb1.no;replace HF:=HF.cons (zj Gb1);replace E:=E.cons (some gb1);replace XLW:=Mut.grow XLW (fun k e=>Or.inr (Nat.le_trans LW.size ((zj Gb1) k e)));replace HF:=HF.on E;replace LW:=LW.step E XLW;have SB:∀q9,No q9→Mut [(some gb1)] q9:=(Mut.skip Mut.nil_);replace HF:=HF.less SB;replace XLW:=fun k h=>XLW k (SB k h);clear SB;replace E:=erx (No) w2;replace HF:=HF.and (Per.blkN Bb1 NotIn.nil);refine yrz ?_;refine vp rfl (fun h1=>?_) (fun h1=>?_)
 ·
  refine yx ?_;exact ⟨by refine congrArg (fun z=>Ending.returned (.bool z)) ?_;first | (simp_all[PV.good,gr0];done) | (simp_all[PV.good,gr0];omega),(LW.step E XLW).toBelow⟩
 ·
  refine zoz ?_;refine yn 34 rfl (fun h2=>?_) (fun h2=>?_)
  ·
   refine xl ?_;exact ⟨by refine congrArg (fun z=>Ending.returned (.bool z)) ?_;first | (simp_all[PV.good,gr0];done) | (simp_all[PV.good,gr0];omega),(LW.step E XLW).toBelow⟩
  ·
   refine yb ?_;refine onx rfl (ysk rfl rfl (qb ?_));refine vp rfl (fun h3=>?_) (fun h3=>?_)
   ·
    refine yx ?_;exact ⟨by refine congrArg (fun z=>Ending.returned (.bool z)) ?_;first | (simp_all[PV.good,gr0];done) | (simp_all[PV.good,gr0];omega),(LW.step E XLW).toBelow⟩
   ·
    refine xm ?_;refine yn 51 rfl (fun h4=>?_) (fun h4=>?_)
    ·
     refine yu ?_;refine yn 58 rfl (fun h5=>?_) (fun h5=>?_)
     ·
      replace h5:=eq_of_beq h5;refine zy ?_;refine onx rfl (zfx Tryz.underlying9 rfl (yx ?_));exact ⟨by refine congrArg (fun z=>Ending.returned (.bool z)) ?_;first | (simp_all[PV.good,gr0];done) | (simp_all[PV.good,gr0];omega),(LW.step E XLW).toBelow⟩
     ·
      replace h5:=beq_eq_false_iff_ne.1 h5;refine yt ?_;exact ⟨by refine congrArg (fun z=>Ending.returned (.bool z)) ?_;first | (simp_all[PV.good,gr0];done) | (simp_all[PV.good,gr0];omega),(LW.step E XLW).toBelow⟩
    ·
     refine xm ?_;exact ⟨by refine congrArg (fun z=>Ending.returned (.bool z)) ?_;first | (simp_all[PV.good,gr0];done) | (simp_all[PV.good,gr0];omega),(LW.step E XLW).toBelow⟩
theorem rg2:Calls Tryz.prog 9 #[.agg #[.int .i64 2,.bool yes,.bool neg,.slice A xs.length c,.int .u64 ((bits:Nat):Int),.string s,.slice B ni d]] w fun e w'=>e= .returned (.bool (PV.good ⟨2,yes,neg,xs,bits,s,ni⟩))∧Below w.heap.size w w':=by
 have _:=hx;have _:=hl;have hs0:s.toList= []→s.size=0:=zfq;refine zh Tryz.func9 rfl Tryz.ntmps9 rfl ?_;have HF:Per (No) w (fun _=>True):=Per.true_;have LW:=erx (No) w;have XLW:=grx (No) w;have E:=erx (No) w;replace HF:=HF.on E;replace LW:=LW.step E XLW;replace E:=erx (No) w;replace HF:=HF.and (Per.nums0 hx);refine zy ?_;refine za rfl (zn rfl ?_);intro gb1 w2 Bb1 Eb1 Gb1;have Gb1:_≤gb1:=Nat.le_trans E.size Gb1;have GLb1:=Nat.le_trans LW.size Gb1;replace E:=E.trans Eb1.no;replace HF:=HF.cons (zj Gb1);replace E:=E.cons (some gb1);replace XLW:=Mut.grow XLW (fun k e=>Or.inr (Nat.le_trans LW.size ((zj Gb1) k e)));replace HF:=HF.on E;replace LW:=LW.step E XLW;have SB:∀q9,No q9→Mut [(some gb1)] q9:=(Mut.skip Mut.nil_);replace HF:=HF.less SB;replace XLW:=fun k h=>XLW k (SB k h);clear SB;replace E:=erx (No) w2;replace HF:=HF.and (Per.blkN Bb1 NotIn.nil);refine yrz ?_;refine vp rfl (fun h1=>?_) (fun h1=>?_)
 ·
  refine yx ?_;exact ⟨by refine congrArg (fun z=>Ending.returned (.bool z)) ?_;first | (simp_all[PV.good,gr0];done) | (simp_all[PV.good,gr0];omega),(LW.step E XLW).toBelow⟩
 ·
  refine jq ?_;refine yn 24 rfl (fun h2=>?_) (fun h2=>?_)
  ·
   refine stp30 ?_;exact ⟨by refine congrArg (fun z=>Ending.returned (.bool z)) ?_;first | (simp_all[PV.good,gr0];done) | (simp_all[PV.good,gr0];omega),(LW.step E XLW).toBelow⟩
  ·
   refine zz ?_;refine yn 34 rfl (fun h3=>?_) (fun h3=>?_)
   ·
    refine xl ?_;exact ⟨by refine congrArg (fun z=>Ending.returned (.bool z)) ?_;first | (simp_all[PV.good,gr0];done) | (simp_all[PV.good,gr0];omega),(LW.step E XLW).toBelow⟩
   ·
    refine yb ?_;refine onx rfl (ysk rfl rfl (qb ?_));refine vp rfl (fun h4=>?_) (fun h4=>?_)
    ·
     refine yx ?_;exact ⟨by refine congrArg (fun z=>Ending.returned (.bool z)) ?_;first | (simp_all[PV.good,gr0];done) | (simp_all[PV.good,gr0];omega),(LW.step E XLW).toBelow⟩
    ·
     refine gh ?_;refine za rfl (zrk u26 rfl kj rfl (HF.on E).here.2 rfl rfl (za rfl (zd en29 rfl ((rgood_any neg c _ A xs hl (HF.on E).here.1.2).mono ?_))));rintro e w3 ⟨rfl,hb⟩;refine ⟨_,rfl,?_⟩;replace E:=blx E hb;refine yk ?_;exact ⟨by refine congrArg (fun z=>Ending.returned (.bool z)) ?_;first | (simp_all[PV.good,gr0];done) | (simp_all[PV.good,gr0];omega),(LW.step E XLW).toBelow⟩
theorem rg3:Calls Tryz.prog 9 #[.agg #[.int .i64 3,.bool yes,.bool neg,.slice A xs.length c,.int .u64 ((bits:Nat):Int),.string s,.slice B ni d]] w fun e w'=>e= .returned (.bool (PV.good ⟨3,yes,neg,xs,bits,s,ni⟩))∧Below w.heap.size w w':=by
 have _:=hx;have _:=hl;have hs0:s.toList= []→s.size=0:=zfq;refine zh Tryz.func9 rfl Tryz.ntmps9 rfl ?_;have HF:Per (No) w (fun _=>True):=Per.true_;have LW:=erx (No) w;have XLW:=grx (No) w;have E:=erx (No) w;replace HF:=HF.on E;replace LW:=LW.step E XLW;replace E:=erx (No) w;replace HF:=HF.and (Per.nums0 hx);refine zy ?_;refine za rfl (zn rfl ?_);intro gb1 w2 Bb1 Eb1 Gb1;have Gb1:_≤gb1:=Nat.le_trans E.size Gb1;have GLb1:=Nat.le_trans LW.size Gb1;replace E:=E.trans Eb1.no;replace HF:=HF.cons (zj Gb1);replace E:=E.cons (some gb1);replace XLW:=Mut.grow XLW (fun k e=>Or.inr (Nat.le_trans LW.size ((zj Gb1) k e)));replace HF:=HF.on E;replace LW:=LW.step E XLW;have SB:∀q9,No q9→Mut [(some gb1)] q9:=(Mut.skip Mut.nil_);replace HF:=HF.less SB;replace XLW:=fun k h=>XLW k (SB k h);clear SB;replace E:=erx (No) w2;replace HF:=HF.and (Per.blkN Bb1 NotIn.nil);refine yrz ?_;refine vp rfl (fun h1=>?_) (fun h1=>?_)
 ·
  refine yx ?_;exact ⟨by refine congrArg (fun z=>Ending.returned (.bool z)) ?_;first | (simp_all[PV.good,gr0];done) | (simp_all[PV.good,gr0];omega),(LW.step E XLW).toBelow⟩
 ·
  refine jq ?_;refine yn 24 rfl (fun h2=>?_) (fun h2=>?_)
  ·
   refine stp30 ?_;exact ⟨by refine congrArg (fun z=>Ending.returned (.bool z)) ?_;first | (simp_all[PV.good,gr0];done) | (simp_all[PV.good,gr0];omega),(LW.step E XLW).toBelow⟩
  ·
   refine gh ?_;refine onx rfl (ysk rfl rfl (qb ?_));refine vp rfl (fun h3=>?_) (fun h3=>?_)
   ·
    refine yx ?_;exact ⟨by refine congrArg (fun z=>Ending.returned (.bool z)) ?_;first | (simp_all[PV.good,gr0];done) | (simp_all[PV.good,gr0];omega),(LW.step E XLW).toBelow⟩
   ·
    refine xm ?_;refine yn 51 rfl (fun h4=>?_) (fun h4=>?_)
    ·
     refine yu ?_;refine yn 58 rfl (fun h5=>?_) (fun h5=>?_)
     ·
      replace h5:=eq_of_beq h5;refine zy ?_;refine onx rfl (zfx Tryz.underlying9 rfl (yx ?_));exact ⟨by refine congrArg (fun z=>Ending.returned (.bool z)) ?_;first | (simp_all[PV.good,gr0];done) | (simp_all[PV.good,gr0];omega),(LW.step E XLW).toBelow⟩
     ·
      replace h5:=beq_eq_false_iff_ne.1 h5;refine yt ?_;exact ⟨by refine congrArg (fun z=>Ending.returned (.bool z)) ?_;first | (simp_all[PV.good,gr0];done) | (simp_all[PV.good,gr0];omega),(LW.step E XLW).toBelow⟩
    ·
     refine xm ?_;exact ⟨by refine congrArg (fun z=>Ending.returned (.bool z)) ?_;first | (simp_all[PV.good,gr0];done) | (simp_all[PV.good,gr0];omega),(LW.step E XLW).toBelow⟩
theorem rg4:Calls Tryz.prog 9 #[.agg #[.int .i64 4,.bool yes,.bool neg,.slice A xs.length c,.int .u64 ((bits:Nat):Int),.string s,.slice B ni d]] w fun e w'=>e= .returned (.bool (PV.good ⟨4,yes,neg,xs,bits,s,ni⟩))∧Below w.heap.size w w':=by
 have _:=hx;have _:=hl;have hs0:s.toList= []→s.size=0:=zfq;refine zh Tryz.func9 rfl Tryz.ntmps9 rfl ?_;have HF:Per (No) w (fun _=>True):=Per.true_;have LW:=erx (No) w;have XLW:=grx (No) w;have E:=erx (No) w;replace HF:=HF.on E;replace LW:=LW.step E XLW;replace E:=erx (No) w;replace HF:=HF.and (Per.nums0 hx);refine zy ?_;refine za rfl (zn rfl ?_);intro gb1 w2 Bb1 Eb1 Gb1;have Gb1:_≤gb1:=Nat.le_trans E.size Gb1;have GLb1:=Nat.le_trans LW.size Gb1;replace E:=E.trans Eb1.no;replace HF:=HF.cons (zj Gb1);replace E:=E.cons (some gb1);replace XLW:=Mut.grow XLW (fun k e=>Or.inr (Nat.le_trans LW.size ((zj Gb1) k e)));replace HF:=HF.on E;replace LW:=LW.step E XLW;have SB:∀q9,No q9→Mut [(some gb1)] q9:=(Mut.skip Mut.nil_);replace HF:=HF.less SB;replace XLW:=fun k h=>XLW k (SB k h);clear SB;replace E:=erx (No) w2;replace HF:=HF.and (Per.blkN Bb1 NotIn.nil);refine yrz ?_;refine vp rfl (fun h1=>?_) (fun h1=>?_)
 ·
  refine yx ?_;exact ⟨by refine congrArg (fun z=>Ending.returned (.bool z)) ?_;first | (simp_all[PV.good,gr0];done) | (simp_all[PV.good,gr0];omega),(LW.step E XLW).toBelow⟩
 ·
  refine jq ?_;refine yn 24 rfl (fun h2=>?_) (fun h2=>?_)
  ·
   refine stp30 ?_;exact ⟨by refine congrArg (fun z=>Ending.returned (.bool z)) ?_;first | (simp_all[PV.good,gr0];done) | (simp_all[PV.good,gr0];omega),(LW.step E XLW).toBelow⟩
  ·
   refine zz ?_;refine yn 34 rfl (fun h3=>?_) (fun h3=>?_)
   ·
    refine xl ?_;exact ⟨by refine congrArg (fun z=>Ending.returned (.bool z)) ?_;first | (simp_all[PV.good,gr0];done) | (simp_all[PV.good,gr0];omega),(LW.step E XLW).toBelow⟩
   ·
    refine stp30 ?_;refine yn 51 rfl (fun h4=>?_) (fun h4=>?_)
    ·
     refine yu ?_;refine yn 58 rfl (fun h5=>?_) (fun h5=>?_)
     ·
      replace h5:=eq_of_beq h5;refine zy ?_;refine onx rfl (zfx Tryz.underlying9 rfl (yx ?_));exact ⟨by refine congrArg (fun z=>Ending.returned (.bool z)) ?_;first | (simp_all[PV.good,gr0];done) | (simp_all[PV.good,gr0];omega),(LW.step E XLW).toBelow⟩
     ·
      replace h5:=beq_eq_false_iff_ne.1 h5;refine yt ?_;exact ⟨by refine congrArg (fun z=>Ending.returned (.bool z)) ?_;first | (simp_all[PV.good,gr0];done) | (simp_all[PV.good,gr0];omega),(LW.step E XLW).toBelow⟩
    ·
     refine xm ?_;exact ⟨by refine congrArg (fun z=>Ending.returned (.bool z)) ?_;first | (simp_all[PV.good,gr0];done) | (simp_all[PV.good,gr0];omega),(LW.step E XLW).toBelow⟩
theorem rgx (hk:k<0∨4<k):Calls Tryz.prog 9 #[.agg #[.int .i64 k,.bool yes,.bool neg,.slice A xs.length c,.int .u64 ((bits:Nat):Int),.string s,.slice B ni d]] w fun e w'=>e= .returned (.bool (PV.good ⟨k,yes,neg,xs,bits,s,ni⟩))∧Below w.heap.size w w':=by
 have _:=hx;have _:=hl;have e:PV.good ⟨k,yes,neg,xs,bits,s,ni⟩=false:=by unfold PV.good;simp only[];rw[if_neg (by omega),if_neg (by omega),if_neg (by omega),if_neg (by omega),if_neg (by omega),Bool.and_false]
 rw[e];refine zh Tryz.func9 rfl Tryz.ntmps9 rfl ?_;have HF:Per (No) w (fun _=>True):=Per.true_;have LW:=erx (No) w;have XLW:=grx (No) w;have E:=erx (No) w;refine zy ?_;refine za rfl (zn rfl ?_);intro gb1 w2 Bb1 Eb1 Gb1;have Gb1:_≤gb1:=Nat.le_trans E.size Gb1;have GLb1:=Nat.le_trans LW.size Gb1;replace E:=E.trans Eb1.no;replace HF:=HF.cons (zj Gb1);replace E:=E.cons (some gb1);replace XLW:=Mut.grow XLW (fun k e=>Or.inr (Nat.le_trans LW.size ((zj Gb1) k e)));replace HF:=HF.on E;replace LW:=LW.step E XLW;have SB:∀q9,No q9→Mut [(some gb1)] q9:=(Mut.skip Mut.nil_);replace HF:=HF.less SB;replace XLW:=fun k h=>XLW k (SB k h);clear SB;replace E:=erx (No) w2;replace HF:=HF.and (Per.blkN Bb1 NotIn.nil);refine zz ?_;by_cases q0:k<0
 ·
  refine zf 6 (.bool true) rfl ((by rw[decide_eq_true q0]:(.bool (decide (k<0)):Value)=_)) (stp21 ?_);exact ⟨rfl,(LW.step E XLW).toBelow⟩
 ·
  refine zf 6 (.bool false) rfl ((by rw[decide_eq_false q0]:(.bool (decide (k<0)):Value)=_)) (yk ?_);refine zf 11 (.bool true) rfl ((by rw[decide_eq_true (by omega)]:(.bool (decide (4<k)):Value)=_)) (gh ?_);exact ⟨rfl,(LW.step E XLW).toBelow⟩
theorem rpgood_any:Calls Tryz.prog 9 #[.agg #[.int .i64 k,.bool yes,.bool neg,.slice A xs.length c,.int .u64 ((bits:Nat):Int),.string s,.slice B ni d]] w fun e w'=>e= .returned (.bool (PV.good ⟨k,yes,neg,xs,bits,s,ni⟩))∧Below w.heap.size w w':=by
 by_cases hk:k<0∨4<k
 · exact rgx w k yes neg A B xs c bits ni d s hx hl hk
 · obtain rfl | rfl | rfl | rfl | rfl:k=0∨k=1∨k=2∨k=3∨k=4:=by omega
   · exact rg0 w yes neg A B xs c bits ni d s hx hl
   · exact rg1 w yes neg A B xs c bits ni d s hx hl
   · exact rg2 w yes neg A B xs c bits ni d s hx hl
   · exact rg3 w yes neg A B xs c bits ni d s hx hl
   · exact rg4 w yes neg A B xs c bits ni d s hx hl
end
end Go.Proofs.YtebjkmjfcijebaaGreat
namespace Go.Proofs.YtebjkmjfcijebaaGreat
end Go.Proofs.YtebjkmjfcijebaaGreat
namespace Go.Proofs.YtebjkmjfcijebaaGreat
open Go.RowKit
set_option maxHeartbeats 20000000
attribute [local irreducible] OW RS CW EW
theorem yiq {b:Nat} (hb:b<18446744073709551616):yc (ya (yc (ya b)))=yc b:=by
 have e1:isN (ya b)=isN b:=znz hb;have hb2:=(ytq hb).2.2;by_cases h:isN b=true
 · have e2:isN (ya 9221120237041090560)=true:=by rw[znz (by decide)];decide
   unfold yc;rw[if_pos (e1.trans h),if_pos e2,if_pos h]
 · have h2:¬isN (ya b)=true:=by rw[e1];exact h
   have h3:¬isN (ya (ya b))=true:=by rw[znz hb2];exact h2
   unfold yc;rw[if_neg h2,if_neg h3,if_neg h];unfold ya;rw[Nat.xor_assoc,Nat.xor_self,Nat.xor_zero]
theorem rfloat_any (w:World) (b:Nat) (hb:b<18446744073709551616):Calls Tryz.prog 38 #[.int .u64 ((b:Nat):Int)] w fun e w'=>e= .returned (.agg #[.int .i64 3,.bool false,.bool false,.slice none 0 0,.int .u64 ((yc b:Nat):Int),.string ⟨#[]⟩,.slice none 0 0])∧Below w.heap.size w w':=by
 refine zh Tryz.func38 rfl Tryz.ntmps38 rfl (zy ?_);refine za rfl (zp xt ?_);rintro g2 wB B2 E2 G2;refine yb ?_;refine za rfl (zd en62 rfl ((qax _ b hb).mono ?_));rintro e w1 ⟨rfl,hb⟩;refine ⟨_,rfl,?_⟩;have E3:=E2.trans (Ext.of_below hb No);have B3:=B2.ext (Ext.of_below hb No) (fun h=>h.elim);by_cases hn:isN b=true
 ·
  refine zf 4 (.bool true) rfl ((by rw[hn]:(.bool (isN b):Value)=_)) (zz ?_);refine za rfl (ye (cs:=#[.int .i64 3,.bool false,.bool false,.slice none 0 0,.int .u64 9221120237041090560,.string ⟨#[]⟩,.slice none 0 0]) zhz xt rfl rfl (zq (zm kd rfl rfl B3 rfl rfl rfl ?_)));rintro wC B2e E4;refine qc ?_;refine vc (rs:=[.cell 2 30]) (vs:=[_]) rfl ⟨⟨_,rfl,xd u30 rfl kd B2e rfl⟩,trivial⟩ ?_;exact ⟨by unfold yc;rw[if_pos hn];rfl,((E3.noL w.heap.size).step E4 (fun q hq=>Or.inl (show w.heap.size≤q by have:=yj hq;omega))).below (fun _ h=>h)⟩
 ·
  have hn':isN b=false:=by cases h9:isN b<;>simp_all
  refine zf 4 (.bool false) rfl ((by rw[hn']:(.bool (isN b):Value)=_)) (yx ?_);refine za rfl (ye (cs:=#[.int .i64 3,.bool false,.bool false,.slice none 0 0,.int .u64 ((b:Nat):Int),.string ⟨#[]⟩,.slice none 0 0]) zhz xt rfl rfl (zq (zm kd rfl rfl B3 rfl rfl rfl ?_)));rintro wC B2e E4;refine qc ?_;refine vc (rs:=[.cell 2 30]) (vs:=[_]) rfl ⟨⟨_,rfl,xd u30 rfl kd B2e rfl⟩,trivial⟩ ?_;exact ⟨by unfold yc;rw[if_neg hn];rfl,((E3.noL w.heap.size).step E4 (fun q hq=>Or.inl (show w.heap.size≤q by have:=yj hq;omega))).below (fun _ h=>h)⟩
end Go.Proofs.YtebjkmjfcijebaaGreat
namespace Go.Proofs.YtebjkmjfcijebaaGreat
open Go.RowKit
set_option maxHeartbeats 20000000
attribute [local irreducible] OW RS CW EW
def zdz (n:Int):Nat:=if 0≤n then 4*n.natAbs+1 else 18446744073709551617-4*n.natAbs
theorem qek {x z k:Int} (hz:0≤z∧z<18446744073709551616) (h:x=z+k*18446744073709551616):IntKind.u64.wrap x=z:=by
 unfold IntKind.wrap;simp only[IntKind.bits,IntKind.signed,Bool.false_and,Bool.false_eq_true,if_false]
 omega
section
variable (w:World) (n:Int) (h1:-999999999999999999≤n) (h2:n≤999999999999999999)
include h1 h2
theorem wsmall_any:Calls Tryz.prog 27 #[.int .i64 n] w fun e w'=>e= .returned (.tuple #[.int .u64 ((zdz n:Nat):Int),.int .i64 0])∧Below w.heap.size w w':=by
 obtain ⟨x,hx⟩:∃x:Nat,x=if 0≤n then 4*n.natAbs else 18446744073709551616-4*n.natAbs:=⟨_,rfl⟩
 have hx4:x%4=0:=by rw[hx];split<;>omega
 have hxl:x<18446744073709551616:=by rw[hx];split<;>omega
 have hxs:x+1=zdz n:=by rw[hx];unfold zdz;split<;>omega
 obtain ⟨u,hu⟩:∃u:Nat,u=if 0≤n then n.natAbs else 18446744073709551616-n.natAbs:=⟨_,rfl⟩
 have hcv:IntKind.u64.wrap n=((u:Nat):Int):=by
  rw[hu];split
  · exact qek (k:=0) (by omega) (by omega)
  · exact qek (k:=-1) (by omega) (by omega)
 have hsh:IntKind.u64.wrap (((u:Nat):Int)*4)=((x:Nat):Int):=by
  rw[hu,hx];split
  · exact qek (k:=0) (by omega) (by omega)
  · exact qek (k:=3) (by omega) (by omega)
 refine zh Tryz.func27 rfl Tryz.ntmps27 rfl (yt ?_);refine zf 5 (.bool false) rfl ((by rw[decide_eq_false];omega:(.bool (decide (n< -999999999999999999)):Value)=_)) (qc ?_);refine zf 8 (.bool false) rfl ((by rw[decide_eq_false];omega:(.bool (decide ((999999999999999999:Int)<n)):Value)=_)) (qa ?_);refine za rfl (yi u27 Tryz.underlying3 rfl hcv (za rfl (xn rfl rfl (by decide) hsh (za rfl (zrq rfl rfl (or_maskO (x:=x) (y:=1) (k:=2) hxl (by decide) (by decide) hx4) (zf 13 (.int .u64 ((zdz n:Nat):Int)) rfl ((by rw[hxs]:(.int .u64 ((x+1:Nat):Int):Value)=_)) (yb ?_)))))));exact ⟨rfl,Below.refl _ _⟩
end
end Go.Proofs.YtebjkmjfcijebaaGreat
namespace Go.Proofs.YtebjkmjfcijebaaGreat
open Go.RowKit
attribute [local irreducible] OW RS
theorem NewM.rest {W V:List Nat} {top h i j:Nat} (hN:NewM W V top h i) (hz:∀i,top≤i→wat W i=0) (hj:top+2+i≤j) (hl:j<W.length):V.set j 0=V:=by
 refine set_zero (by rw[hN.1];exact hl) ?_;rw[hN.2 j hl,if_neg (by omega),if_neg (by omega)];exact hz j (by omega)
theorem OwnM.same {lo gm gW cap top:Nat} {w w':World} {W:List Nat} (h:OwnM lo w gm gW cap W top) (ho:w'.ownsRow lo 27 1 (.slice (some ⟨gW,0,none⟩) W.length cap) W.length (ym W)) (k:Ext (Mut [some gW]) w w'):OwnM lo w' gm gW cap W top:=
 ⟨zek h.mb h.row (by decide) k,ho,h.in_,h.one,h.len,h.most⟩
section
variable (w:World) (A:Option Addr) (W:List Nat) (c n top k t r:Nat) (hM:MemA n w A W top) (hk:1≤k∧k<256) (ht:t≤1048576) (hr:r≤1048576)
include hM hk ht hr
end
end Go.Proofs.YtebjkmjfcijebaaGreat
namespace Go.Proofs.YtebjkmjfcijebaaGreat
open Go.RowKit
attribute [local irreducible] OW RS
section
variable (w:World) (A B C:Option Addr) (W T R:List Nat) (c cb cc n top k:Nat) (hM:MemA n w A W top) (hT:WordsA n w B T) (hR:WordsA n w C R) (hk:1≤k∧k<256) (ht:T.length≤1048576) (hr:R.length≤1048576)
include hM hT hR hk ht hr
end
end Go.Proofs.YtebjkmjfcijebaaGreat
namespace Go.Proofs.YtebjkmjfcijebaaGreat
open Go.RowKit
attribute [local irreducible] OW RS
def hwN (s:ByteArray) (m:Nat):Nat→Nat
 | 0=>0
 | r+1=>hwN s m r*256+ku s (8*m+7-r)
theorem wordsV_snoc (W:List Nat) (x:Nat):ym W++ [.int .u64 ((x:Nat):Int)]=ym (W++ [x]):=by unfold ym;rw[List.map_append];rfl
theorem owns_one {w:World} {lo g x:Nat} (hb:Blk w g 27 #[.int .u64 ((x:Nat):Int)]) (hg:lo≤g):w.ownsRow lo 27 1 (.slice (some ⟨g,0,none⟩) 1 1) 1 (ym [x]):=
 ⟨by simp[ym],Or.inr ⟨g,1,_,rfl,hg,hb,Nat.le_refl _,by unfold maxLen;omega,by simp,by simp[ym]⟩⟩
end Go.Proofs.YtebjkmjfcijebaaGreat
namespace Go.Proofs.YtebjkmjfcijebaaGreat
def vr (W:List Nat) (a i:Nat):Nat:=if i+2<zt (wat W a) then wat W (a+2+i) else 0
theorem getW_in {W:List Nat} {a i:Nat} (h:i+2<zt (wat W a)):vr W a i=wat W (a+2+i):=if_pos h
theorem getW_out {W:List Nat} {a i:Nat} (h:¬i+2<zt (wat W a)):vr W a i=0:=if_neg h
theorem ydk {W:List Nat} (hW:∀x∈W,U64 x) (a i:Nat):U64 (vr W a i):=by
 unfold vr;split
 · exact zax hW _
 · exact (by decide:(0:Nat)<18446744073709551616)
noncomputable def lkB (W:List Nat) (top x:Nat):Bool:=@decide (zw x=0∧Seen W top (x/4)) (Classical.propDecidable _)
def lkA (x:Nat):Nat:=if zw x=0 then x/4 else 0
noncomputable def lkK (W:List Nat) (top x:Nat):Nat:=if lkB W top x then yf (wat W (x/4)) else 0
noncomputable def lkT (W:List Nat) (top x:Nat):Nat:=if lkB W top x then yg (wat W (x/4)) else 0
noncomputable def lkR (W:List Nat) (top x:Nat):Nat:=if lkB W top x then zt (wat W (x/4))-2-yg (wat W (x/4)) else 0
noncomputable def gdW (W:List Nat) (top x:Nat):Bool:=if zw x=0 then lkB W top x else (((zw x:Nat):Int) !=3)
def nmI (x:Nat):Int:=if zw x=1 then zzv x else 0
def nmE (x:Nat):Int:=if zw x=1 then 0 else 9
section
variable {W:List Nat} {top x:Nat}
theorem ytv (hk:zw x=0) (hS:Seen W top (x/4)):lkB W top x=true:=@decide_eq_true _ (Classical.propDecidable _) ⟨hk,hS⟩
theorem ypz (h:¬(zw x=0∧Seen W top (x/4))):lkB W top x=false:=@decide_eq_false _ (Classical.propDecidable _) h
theorem zxk (h:lkB W top x=true):zw x=0∧Seen W top (x/4):=@of_decide_eq_true _ (Classical.propDecidable _) h
theorem lkK_yes (hk:zw x=0) (hS:Seen W top (x/4)):lkK W top x=yf (wat W (x/4)):=by unfold lkK;rw[ytv hk hS];rfl
theorem lkT_yes (hk:zw x=0) (hS:Seen W top (x/4)):lkT W top x=yg (wat W (x/4)):=by unfold lkT;rw[ytv hk hS];rfl
theorem lkR_yes (hk:zw x=0) (hS:Seen W top (x/4)):lkR W top x=zt (wat W (x/4))-2-yg (wat W (x/4)):=by unfold lkR;rw[ytv hk hS];rfl
theorem lkK_no (h:¬(zw x=0∧Seen W top (x/4))):lkK W top x=0:=by unfold lkK;rw[ypz h];rfl
theorem lkT_no (h:¬(zw x=0∧Seen W top (x/4))):lkT W top x=0:=by unfold lkT;rw[ypz h];rfl
theorem lkR_no (h:¬(zw x=0∧Seen W top (x/4))):lkR W top x=0:=by unfold lkR;rw[ypz h];rfl
theorem yux (h:zw x=0):lkA x=x/4:=if_pos h
theorem lkA_1 (h:zw x≠0):lkA x=0:=if_neg h
theorem gdW_0 (h:zw x=0):gdW W top x=lkB W top x:=if_pos h
theorem gdW_1 (h:zw x≠0):gdW W top x=(((zw x:Nat):Int) !=3):=if_neg h
theorem qhk (h:zw x=1):nmI x=zzv x:=if_pos h
theorem nmI_no (h:zw x≠1):nmI x=0:=if_neg h
theorem qhv (h:zw x=1):nmE x=0:=if_pos h
theorem nmE_no (h:zw x≠1):nmE x=9:=if_neg h
theorem wkind_1 (h:zw x=1):x%4=1:=by
 unfold zw at h;split at h
 · split at h<;>cases h
 · split at h
   · rename_i h1;exact h1
   · split at h
     · split at h<;>cases h
     · cases h
theorem wkind_2 (h:zw x=2):x%4=2∧x<18:=by
 unfold zw at h;split at h
 · split at h<;>cases h
 · split at h
   · split at h<;>cases h
   · split at h
     · rename_i h2
       split at h
       · rename_i h3;exact ⟨h2,h3⟩
       · cases h
     · cases h
theorem nmI_in:-999999999999999999≤nmI x∧nmI x≤999999999999999999:=by
 unfold nmI;split
 · rename_i h
   unfold zw at h;split at h
   · split at h<;>cases h
   · split at h
     · split at h
       · rename_i h2;exact ⟨h2.2,h2.1⟩
       · cases h
     · split at h
       · split at h<;>cases h
       · cases h
 · omega
end
/-! ### what a word is taken for -/
def qq (W:List Nat) (a n:Nat):List Nat:=(List.range n).map (vr W a)
theorem oh (W:List Nat) (a n:Nat):(qq W a n).length=n:=by unfold qq;simp
theorem yfq {W:List Nat} {a n i:Nat} (h:i<n):(qq W a n)[i]? =some (vr W a i):=by
 unfold qq;rw[List.getElem?_map,List.getElem?_range h];rfl
theorem wordsO_snoc (W:List Nat) (a n:Nat):qq W a n++ [vr W a n]=qq W a (n+1):=by
 unfold qq;rw[List.range_succ,List.map_append];rfl
theorem zuq {W:List Nat} (hW:∀x∈W,U64 x) (a n:Nat):∀x∈qq W a n,U64 x:=fun x hx=>by
 unfold qq at hx;obtain ⟨i,_,rfl⟩:=List.mem_map.1 hx;exact ydk hW a i
def byW (R:List Nat) (i:Nat):UInt8:=UInt8.ofNat (wat R (1+i/8)/2^(8*(i%8)))
def jp (R:List Nat):ByteArray:=⟨((List.range (wat R 0)).map (byW R)).toArray⟩
theorem qez (R:List Nat):(jp R).size=wat R 0:=by unfold jp ByteArray.size;simp
def vNil:PV:=⟨0,false,false,[],0,⟨#[]⟩,0⟩
def vBool (b:Bool):PV:=⟨1,b,false,[],0,⟨#[]⟩,0⟩
def vInt (n:Bool) (xs:List Nat):PV:=⟨2,false,n,xs,0,⟨#[]⟩,0⟩
def vFlt (b:Nat):PV:=⟨3,false,false,[],b,⟨#[]⟩,0⟩
def vStr (s:ByteArray):PV:=⟨4,false,false,[],0,s,0⟩
def qcz (R:List Nat):Option PV:=if jo (jp R)=R then some (vStr (jp R)) else none
def zox (k:Nat) (R:List Nat):Option PV:=
 if k=2∧2<R.length∧wat R 0≤1 then (if yq (decide (wat R 0=1)) R.tail then some (vInt (decide (wat R 0=1)) R.tail) else none)
 else if k=3∧R.length=1∧wat R 0=yc (ya (yc (ya (wat R 0)))) then some (vFlt (wat R 0))
 else if k=4∧0<R.length∧wat R 0≤20000∧R.length=1+(wat R 0+7)/8 then qcz R else none
noncomputable def vm (W:List Nat) (top x:Nat):Option PV:=
 if zw x=1 then some (vInt (decide (zzv x<0)) (limbs (zzv x)))
 else if x=2 then some vNil else if x=6 then some (vBool false) else if x=10 then some (vBool true)
 else if lkB W top x=true∧lkT W top x=0 then zox (lkK W top x) (qq W (x/4) (lkR W top x)) else none
theorem bare_lt {b:Nat} (hb:b<18446744073709551616):yc b<18446744073709551616:=by
 unfold yc;split<;>omega
theorem takeO_bits {W:List Nat} {top x:Nat} {v:PV} (hW:∀y∈W,U64 y) (h:vm W top x=some v):v.bits<18446744073709551616:=by
 have h0:(0:Nat)<18446744073709551616:=by decide
 unfold vm at h;split at h
 · injection h with h;subst h;exact h0
 · split at h
   · injection h with h;subst h;exact h0
   · split at h
     · injection h with h;subst h;exact h0
     · split at h
       · injection h with h;subst h;exact h0
       · split at h
         · unfold zox at h;split at h
           · split at h
             · injection h with h;subst h;exact h0
             · cases h
           · split at h
             · injection h with h;subst h
               have:=zuq hW (x/4) (lkR W top x);exact zax this 0
             · split at h
               · unfold qcz at h;split at h
                 · injection h with h;subst h;exact h0
                 · cases h
               · cases h
         · cases h
/-! ### items -/
def lsN (W:List Nat) (x:Nat):Int:=nmI (vr W (x/4) 0)
noncomputable def lsSp (W:List Nat) (top x:Nat):Nat:=if vr W (x/4) 1=2 then 0 else lkT W top (vr W (x/4) 1)
def lsBk (W:List Nat) (x:Nat):Nat:=if vr W (x/4) 1=2 then 0 else vr W (x/4) 1/4
structure IsLs (W:List Nat) (top x:Nat):Prop where
 look:lkB W top x=true
 kind:lkK W top x=5
 tag:lkT W top x=2
 raw:lkR W top x=0
 num:zw (vr W (x/4) 0)=1
 pos:0≤lsN W x
 blk:vr W (x/4) 1≠2→lkB W top (vr W (x/4) 1)=true∧lkK W top (vr W (x/4) 1)=11
 fit:lsN W x≤((lsSp W top x:Nat):Int)
noncomputable def ki (W:List Nat) (top x:Nat):Option (List Nat):=by
 classical exact if lkB W top x=true then (if lkK W top x=6 then some (qq W (x/4) (lkT W top x)) else if IsLs W top x then some (qq W (lsBk W x) (lsN W x).toNat) else none) else none
end Go.Proofs.YtebjkmjfcijebaaGreat
namespace Go.Proofs.YtebjkmjfcijebaaGreat
open Go.RowKit
set_option maxHeartbeats 20000000
attribute [local irreducible] OW RS CW EW
section
variable (w:World) (A:Option Addr) (W:List Nat) (c n top a:Nat) (hM:MemA n w A W top) (h1:1≤a) (ha:a≤1048576) (hS:¬Seen W top a)
include hM h1 ha hS
theorem alook_no:Calls Tryz.prog 56 #[xg A W c top,.int .i64 ((a:Nat):Int)] w fun e w'=>(∃x k t s:Int,e= .returned (.tuple #[.agg #[.int .i64 x,.int .i64 k,.int .i64 t,.int .i64 s],.bool false]))∧Below w.heap.size w w':=by
 have h3:=hM.len;have h4:=hM.most;refine zh Tryz.func56 rfl Tryz.ntmps56 rfl (zy ?_);refine za rfl (zn rfl ?_);rintro g2 wA B2a E1 G1;refine za rfl (zp zfz ?_);rintro g4 wB B4 E2 G2;have B2:Blk wB g2 24 #[.slice A W.length c,.int .i64 ((top:Nat):Int)]:=B2a.ext E2 (fun h=>h.elim);have hE:=E1.trans E2;have hMB:=hM.no hE;have hs1:=E1.size;have h2b:=B2.lt;have h4b:=B4.lt;refine qa ?_;by_cases ht3:top<3
 ·
  refine zf 10 (.bool true) rfl ((by rw[decide_eq_true];omega:(.bool (decide (((top:Nat):Int)<3)):Value)=_)) (stp24 ?_);refine za rfl (ye (cs:=#[.int .i64 0,.int .i64 0,.int .i64 0,.int .i64 0]) pl101 zfz rfl rfl (zq (zm xk rfl rfl B4 rfl rfl rfl ?_)));rintro wE B4E E5;refine yb ?_;exact ⟨⟨_,_,_,_,rfl⟩,((hE.noL w.heap.size).step E5 (fun q hq=>Or.inl (show w.heap.size≤q by have:=yj hq;omega))).below (fun _ h=>h)⟩
 ·
  refine zf 10 (.bool false) rfl ((by rw[decide_eq_false];omega:(.bool (decide (((top:Nat):Int)<3)):Value)=_)) (yu ?_);refine zf 17 (.bool false) rfl ((by rw[decide_eq_false];omega:(.bool (decide (((W.length:Nat):Int)<((top:Nat):Int))):Value)=_)) (qb ?_);refine zf 21 (.bool false) rfl ((by rw[decide_eq_false];omega:(.bool (decide (((a:Nat):Int)<1)):Value)=_)) (yk ?_);refine onx rfl (qz rfl rfl (zg (by omega)) (stp ?_));by_cases hin:top<a+2
  ·
   refine zf 28 (.bool true) rfl ((by rw[decide_eq_true];omega:(.bool (decide (((top:Nat):Int)-1≤((a:Nat):Int))):Value)=_)) (yb ?_);refine za rfl (ye (cs:=#[.int .i64 0,.int .i64 0,.int .i64 0,.int .i64 0]) pl101 zfz rfl rfl (zq (zm xk rfl rfl B4 rfl rfl rfl ?_)));rintro wE B4E E5;refine yb ?_;exact ⟨⟨_,_,_,_,rfl⟩,((hE.noL w.heap.size).step E5 (fun q hq=>Or.inl (show w.heap.size≤q by have:=yj hq;omega))).below (fun _ h=>h)⟩
  ·
   refine zf 28 (.bool false) rfl ((by rw[decide_eq_false];omega:(.bool (decide (((top:Nat):Int)-1≤((a:Nat):Int))):Value)=_)) ?_;have haW:a<W.length:=by omega
   have hu:wat W a<18446744073709551616:=zax hM.words.in_ a;have h8:=ydq (wat W a);have h9:=zok (wat W a);have h10:=zcx (wat W a);refine zz ?_;obtain ⟨gm,om,hA,hgm,hcm⟩:=hMB.words.at haW;refine stp ?_;refine za rfl (zi (j:=a) u22 qk (congrArg (fun z↦some (Value.slice z W.length c)) hA) rfl rfl haW (za rfl (yl u27 rfl rfl hcm (yu ?_))));refine za rfl (kw rfl rfl (zev (y:=255) (k:=8) hu (by decide) rfl) (zf 38 (.int .u64 ((yf (wat W a):Nat):Int)) rfl (rfl) (za rfl (yi Tryz.underlying3 u27 rfl (zg (by omega)) (stp ?_)))));refine za rfl (je rfl rfl (by decide) (ylq (k:=8) (by decide)) (za rfl (kw rfl rfl (zev (y:=16777215) (k:=24) (by omega) (by decide) rfl) (zf 42 (.int .u64 ((yg (wat W a):Nat):Int)) rfl (rfl) (za rfl (yi Tryz.underlying3 u27 rfl (zg (by omega)) (stp ?_)))))));refine za rfl (je rfl rfl (by decide) (ylq (k:=32) (by decide)) (za rfl (kw rfl rfl (zev (y:=16777215) (k:=24) (by omega) (by decide) rfl) (zf 46 (.int .u64 ((zt (wat W a):Nat):Int)) rfl (rfl) (za rfl (yi Tryz.underlying3 u27 rfl (zg (by omega)) (za rfl (ye (cs:=#[.int .i64 ((a:Nat):Int),.int .i64 ((yf (wat W a):Nat):Int),.int .i64 ((yg (wat W a):Nat):Int),.int .i64 ((zt (wat W a):Nat):Int)]) pl101 zfz rfl rfl (za rfl (zp zfz ?_))))))))));rintro g7 wC B70 E3 G3;refine zq (zm xk rfl rfl B70 rfl rfl rfl ?_);rintro wD B71 E4;have B7:Blk wD g7 101 #[.int .i64 ((a:Nat):Int),.int .i64 ((yf (wat W a):Nat):Int),.int .i64 ((yg (wat W a):Nat):Int),.int .i64 ((zt (wat W a):Nat):Int)]:=B71
   have hX:Ext (fun q=>wB.heap.size≤q) wB wD:=(E3.noL wB.heap.size).step E4 (fun q hq=>Or.inl (show wB.heap.size≤q by have:=yj hq;omega));have B2D:=B2.ext hX (fun h=>by have h:wB.heap.size≤g2:=h;omega);have B4D:=B4.ext hX (fun h=>by have h:wB.heap.size≤g4:=h;omega);have h74:¬Mut [some g4] g7:=fun h=>by have:=yj h;omega
   have h24:¬Mut [some g4] g2:=fun h=>by have:=yj h;have:=B2a.lt;omega
   by_cases hk:0<yf (wat W a)
   ·
    by_cases hf:yg (wat W a)+2≤zt (wat W a)
    ·
     have hr:¬a+zt (wat W a)≤top:=fun hr↦hS ⟨h1,by omega,h3,hk,hf,hr⟩;refine qc ?_;refine zcz qt (zck 23 rfl ?_);refine yeq 21 (Mut [some g4]) (fun k hk=>(by have:=yj hk;have:=B4D.lt;omega:k<wD.heap.size)) (jh [Fx.of (.agg #[.int .i64 ((a:Nat):Int),.int .i64 ((yf (wat W a):Nat):Int),.int .i64 ((yg (wat W a):Nat):Int),.int .i64 ((zt (wat W a):Nat):Int)]),
      Fx.of (.pointer (some ⟨g7,1,none⟩)),
      Fx.of (.int .i64 ((yf (wat W a):Nat):Int)),
      Fx.of (.bool true),
      Fx.of (.bool true),
      Fx.of (.pointer (some ⟨g7,3,none⟩)),
      Fx.of (.int .i64 ((zt (wat W a):Nat):Int)),
      Fx.of (.pointer (some ⟨g7,2,none⟩)),
      Fx.of (.int .i64 ((yg (wat W a):Nat):Int)),
      Fx.of (.int .i64 (2+((yg (wat W a):Nat):Int))),
      Fx.of (.bool true),
      Fx.of (.bool true),
      Fx.of (.bool true),
      Fx.of (.pointer (some ⟨g7,3,none⟩)),
      Fx.of (.int .i64 ((zt (wat W a):Nat):Int)),
      Fx.of (.pointer (some ⟨g2,1,none⟩)),
      Fx.of (.int .i64 ((top:Nat):Int)),
      Fx.of (.int .i64 ((a:Nat):Int)),
      Fx.of (.int .i64 (((top:Nat):Int)-((a:Nat):Int))),
      Fx.of (.bool false),
      Fx.of (.bool false),
      ⟨World,fun w9=>undef,fun w9 b=>(Blk b g4 101 #[.int .i64 ((a:Nat):Int),.int .i64 ((yf (wat W a):Nat):Int),.int .i64 ((yg (wat W a):Nat):Int),.int .i64 ((zt (wat W a):Nat):Int)])⟩,
      Fx.of (.bool false)]) rfl ?_ ?_
     · refine ⟨?_,?_,?_,?_,?_,?_,?_,?_,?_,?_,?_,?_,?_,?_,?_,?_,?_,?_,?_,?_,?_,?_,?_,trivial⟩
       · intro vs X wq K KQ;have LE:=K.1;exact yy u101 rfl xk rfl (jg LE h74 B7) rfl ⟨Below.refl _ _,Left.of rfl⟩
       · intro vs X wq K KQ;exact yd u101 rfl sz3 (by decide) rfl ⟨Below.refl _ _,Left.of rfl⟩
       · intro vs X wq K KQ;have LE:=K.1;obtain ⟨_,e1,k1⟩:=K.dep 1 rfl rfl rfl;refine zc 50 _ rfl e1 ?_;exact zl Tryz.underlying3 rfl rfl (jg LE h74 B7) rfl ⟨Below.refl _ _,Left.of rfl⟩
       · intro vs X wq K KQ;obtain ⟨_,e2,k2⟩:=K.dep 2 rfl rfl rfl;refine zc 51 _ rfl e2 ?_;exact ko rfl rfl ⟨Below.refl _ _,Left.of ((by rw[decide_eq_true];omega:(.bool (decide (0<((yf (wat W a):Nat):Int))):Value)=_))⟩
       · intro vs X wq K KQ;obtain ⟨_,e3,k3⟩:=K.dep 3 rfl rfl rfl;refine zc 52 _ rfl e3 ?_;exact vk rfl ⟨Below.refl _ _,Left.of rfl⟩
       · intro vs X wq K KQ;obtain ⟨_,e4,k4⟩:=K.dep 4 rfl rfl rfl;refine zc 53 _ rfl e4 ?_;exact zo rfl (yd u101 rfl sz3 (by decide) rfl ⟨Below.refl _ _,Left.of rfl⟩)
       · intro vs X wq K KQ;have LE:=K.1;obtain ⟨_,e5,k5⟩:=K.dep 5 rfl rfl rfl;refine zc 54 _ rfl e5 ?_;obtain ⟨_,e4,k4⟩:=K.dep 4 rfl rfl rfl;refine zc 53 _ rfl e4 ?_;exact zo rfl (zl Tryz.underlying3 rfl rfl (jg LE h74 B7) rfl ⟨Below.refl _ _,Left.of rfl⟩)
       · intro vs X wq K KQ;obtain ⟨_,e4,k4⟩:=K.dep 4 rfl rfl rfl;refine zc 53 _ rfl e4 ?_;exact zo rfl (yd u101 rfl sz3 (by decide) rfl ⟨Below.refl _ _,Left.of rfl⟩)
       · intro vs X wq K KQ;have LE:=K.1;obtain ⟨_,e7,k7⟩:=K.dep 7 rfl rfl rfl;refine zc 56 _ rfl e7 ?_;obtain ⟨_,e4,k4⟩:=K.dep 4 rfl rfl rfl;refine zc 53 _ rfl e4 ?_;exact zo rfl (zl Tryz.underlying3 rfl rfl (jg LE h74 B7) rfl ⟨Below.refl _ _,Left.of rfl⟩)
       · intro vs X wq K KQ;obtain ⟨_,e8,k8⟩:=K.dep 8 rfl rfl rfl;refine zc 57 _ rfl e8 ?_;obtain ⟨_,e4,k4⟩:=K.dep 4 rfl rfl rfl;refine zc 53 _ rfl e4 ?_;exact zo rfl (zr rfl rfl (zg (by omega)) ⟨Below.refl _ _,Left.of rfl⟩)
       · intro vs X wq K KQ;obtain ⟨_,e6,k6⟩:=K.dep 6 rfl rfl rfl;refine zc 55 _ rfl e6 ?_;obtain ⟨_,e9,k9⟩:=K.dep 9 rfl rfl rfl;refine zc 58 _ rfl e9 ?_;obtain ⟨_,e4,k4⟩:=K.dep 4 rfl rfl rfl;refine zc 53 _ rfl e4 ?_;exact zo rfl (zwq rfl rfl ⟨Below.refl _ _,Left.of ((by rw[decide_eq_true];omega:(.bool (decide ((2+((yg (wat W a):Nat):Int))≤((zt (wat W a):Nat):Int))):Value)=_))⟩)
       · intro vs X wq K KQ;obtain ⟨_,e4,k4⟩:=K.dep 4 rfl rfl rfl;refine zc 53 _ rfl e4 ?_;obtain ⟨_,e10,k10⟩:=K.dep 10 rfl rfl rfl;refine zc 59 _ rfl e10 ?_;exact xo rfl rfl ⟨Below.refl _ _,Left.of rfl⟩
       · intro vs X wq K KQ;obtain ⟨_,e11,k11⟩:=K.dep 11 rfl rfl rfl;refine zc 60 _ rfl e11 ?_;exact vk rfl ⟨Below.refl _ _,Left.of rfl⟩
       · intro vs X wq K KQ;obtain ⟨_,e12,k12⟩:=K.dep 12 rfl rfl rfl;refine zc 61 _ rfl e12 ?_;exact zo rfl (yd u101 rfl sz3 (by decide) rfl ⟨Below.refl _ _,Left.of rfl⟩)
       · intro vs X wq K KQ;have LE:=K.1;obtain ⟨_,e13,k13⟩:=K.dep 13 rfl rfl rfl;refine zc 62 _ rfl e13 ?_;obtain ⟨_,e12,k12⟩:=K.dep 12 rfl rfl rfl;refine zc 61 _ rfl e12 ?_;exact zo rfl (zl Tryz.underlying3 rfl rfl (jg LE h74 B7) rfl ⟨Below.refl _ _,Left.of rfl⟩)
       · intro vs X wq K KQ;obtain ⟨_,e12,k12⟩:=K.dep 12 rfl rfl rfl;refine zc 61 _ rfl e12 ?_;exact zo rfl (yd u24 rfl sz3 (by decide) rfl ⟨Below.refl _ _,Left.of rfl⟩)
       · intro vs X wq K KQ;have LE:=K.1;obtain ⟨_,e15,k15⟩:=K.dep 15 rfl rfl rfl;refine zc 64 _ rfl e15 ?_;obtain ⟨_,e12,k12⟩:=K.dep 12 rfl rfl rfl;refine zc 61 _ rfl e12 ?_;exact zo rfl (zl Tryz.underlying3 rfl rfl (jg LE h24 B2D) rfl ⟨Below.refl _ _,Left.of rfl⟩)
       · intro vs X wq K KQ;obtain ⟨_,e12,k12⟩:=K.dep 12 rfl rfl rfl;refine zc 61 _ rfl e12 ?_;exact zo rfl (vk rfl ⟨Below.refl _ _,Left.of rfl⟩)
       · intro vs X wq K KQ;obtain ⟨_,e16,k16⟩:=K.dep 16 rfl rfl rfl;refine zc 65 _ rfl e16 ?_;obtain ⟨_,e17,k17⟩:=K.dep 17 rfl rfl rfl;refine zc 66 _ rfl e17 ?_;obtain ⟨_,e12,k12⟩:=K.dep 12 rfl rfl rfl;refine zc 61 _ rfl e12 ?_;exact zo rfl (qz rfl rfl (zg (by omega)) ⟨Below.refl _ _,Left.of rfl⟩)
       · intro vs X wq K KQ;obtain ⟨_,e14,k14⟩:=K.dep 14 rfl rfl rfl;refine zc 63 _ rfl e14 ?_;obtain ⟨_,e18,k18⟩:=K.dep 18 rfl rfl rfl;refine zc 67 _ rfl e18 ?_;obtain ⟨_,e12,k12⟩:=K.dep 12 rfl rfl rfl;refine zc 61 _ rfl e12 ?_;exact zo rfl (yzx rfl rfl ⟨Below.refl _ _,Left.of ((by rw[decide_eq_false];omega:(.bool (decide (((zt (wat W a):Nat):Int)≤(((top:Nat):Int)-((a:Nat):Int)))):Value)=_))⟩)
       · intro vs X wq K KQ;obtain ⟨_,e12,k12⟩:=K.dep 12 rfl rfl rfl;refine zc 61 _ rfl e12 ?_;obtain ⟨_,e19,k19⟩:=K.dep 19 rfl rfl rfl;refine zc 68 _ rfl e19 ?_;exact xo rfl rfl ⟨Below.refl _ _,Left.of rfl⟩
       · intro vs X wq K KQ;have LQ:=KQ rfl;obtain ⟨_,e0,k0⟩:=K.dep 0 rfl rfl rfl;refine zc 49 _ rfl e0 (zm xk rfl rfl (yh LQ B4D) rfl rfl rfl ?_);intro w9 B9 hb;exact ⟨hb,⟨w9,rfl,(fun z hz=>B9.ext hz (fun h=>h.elim))⟩⟩
       · intro vs X wq K KQ;obtain ⟨_,e20,k20⟩:=K.dep 20 rfl rfl rfl;refine zc 69 _ rfl e20 ?_;exact kh rfl ⟨Below.refl _ _,Left.of rfl⟩
     intro vs w1 LE AO AL AF AA;have hxd:Ext (Mut [some g4]) (wD) w1:=((Ext.refl _ (wD)).drew).trans LE;obtain ⟨w9,e21,k21⟩:=AL.2.2.2.2.2.2.2.2.2.2.2.2.2.2.2.2.2.2.2.2.2.1;obtain ⟨_,e22,k22⟩:=AL.2.2.2.2.2.2.2.2.2.2.2.2.2.2.2.2.2.2.2.2.2.2.1;have Wc21:=k21.here;refine qe (τ:=[(4,_),(5,.bool false)]) ⟨rfl,congrArg some e22,trivial⟩ ?_;clear AL AF AA AO;refine zov (gn (by kernel_rfl) (fun _ _ d_ _ _ h=>by cases d_<;>exact h) ?_);have B4E:=Wc21;refine qb ?_;exact ⟨⟨_,_,_,_,rfl⟩,(((hE.noL w.heap.size).step hX (fun q hq=>Or.inl (show w.heap.size≤q by have hq:wB.heap.size≤q:=hq;have:=hE.size;omega))).step hxd (fun q hq=>Or.inl (show w.heap.size≤q by have:=yj hq;omega))).below (fun _ h=>h)⟩
    ·
     refine qc ?_;refine zcz qt (zck 23 rfl ?_);refine yeq 21 (Mut [some g4]) (fun k hk=>(by have:=yj hk;have:=B4D.lt;omega:k<wD.heap.size)) (jh [Fx.of (.agg #[.int .i64 ((a:Nat):Int),.int .i64 ((yf (wat W a):Nat):Int),.int .i64 ((yg (wat W a):Nat):Int),.int .i64 ((zt (wat W a):Nat):Int)]),
      Fx.of (.pointer (some ⟨g7,1,none⟩)),
      Fx.of (.int .i64 ((yf (wat W a):Nat):Int)),
      Fx.of (.bool true),
      Fx.of (.bool true),
      Fx.of (.pointer (some ⟨g7,3,none⟩)),
      Fx.of (.int .i64 ((zt (wat W a):Nat):Int)),
      Fx.of (.pointer (some ⟨g7,2,none⟩)),
      Fx.of (.int .i64 ((yg (wat W a):Nat):Int)),
      Fx.of (.int .i64 (2+((yg (wat W a):Nat):Int))),
      Fx.of (.bool false),
      Fx.of (.bool false),
      Fx.of (.bool false),
      Fx.of undef,
      Fx.of undef,
      Fx.of undef,
      Fx.of undef,
      Fx.of undef,
      Fx.of undef,
      Fx.of undef,
      Fx.of (.bool false),
      ⟨World,fun w9=>undef,fun w9 b=>(Blk b g4 101 #[.int .i64 ((a:Nat):Int),.int .i64 ((yf (wat W a):Nat):Int),.int .i64 ((yg (wat W a):Nat):Int),.int .i64 ((zt (wat W a):Nat):Int)])⟩,
      Fx.of (.bool false)]) rfl ?_ ?_
     · refine ⟨?_,?_,?_,?_,?_,?_,?_,?_,?_,?_,?_,?_,?_,?_,?_,?_,?_,?_,?_,?_,?_,?_,?_,trivial⟩
       · intro vs X wq K KQ;have LE:=K.1;exact yy u101 rfl xk rfl (jg LE h74 B7) rfl ⟨Below.refl _ _,Left.of rfl⟩
       · intro vs X wq K KQ;exact yd u101 rfl sz3 (by decide) rfl ⟨Below.refl _ _,Left.of rfl⟩
       · intro vs X wq K KQ;have LE:=K.1;obtain ⟨_,e1,k1⟩:=K.dep 1 rfl rfl rfl;refine zc 50 _ rfl e1 ?_;exact zl Tryz.underlying3 rfl rfl (jg LE h74 B7) rfl ⟨Below.refl _ _,Left.of rfl⟩
       · intro vs X wq K KQ;obtain ⟨_,e2,k2⟩:=K.dep 2 rfl rfl rfl;refine zc 51 _ rfl e2 ?_;exact ko rfl rfl ⟨Below.refl _ _,Left.of ((by rw[decide_eq_true];omega:(.bool (decide (0<((yf (wat W a):Nat):Int))):Value)=_))⟩
       · intro vs X wq K KQ;obtain ⟨_,e3,k3⟩:=K.dep 3 rfl rfl rfl;refine zc 52 _ rfl e3 ?_;exact vk rfl ⟨Below.refl _ _,Left.of rfl⟩
       · intro vs X wq K KQ;obtain ⟨_,e4,k4⟩:=K.dep 4 rfl rfl rfl;refine zc 53 _ rfl e4 ?_;exact zo rfl (yd u101 rfl sz3 (by decide) rfl ⟨Below.refl _ _,Left.of rfl⟩)
       · intro vs X wq K KQ;have LE:=K.1;obtain ⟨_,e5,k5⟩:=K.dep 5 rfl rfl rfl;refine zc 54 _ rfl e5 ?_;obtain ⟨_,e4,k4⟩:=K.dep 4 rfl rfl rfl;refine zc 53 _ rfl e4 ?_;exact zo rfl (zl Tryz.underlying3 rfl rfl (jg LE h74 B7) rfl ⟨Below.refl _ _,Left.of rfl⟩)
       · intro vs X wq K KQ;obtain ⟨_,e4,k4⟩:=K.dep 4 rfl rfl rfl;refine zc 53 _ rfl e4 ?_;exact zo rfl (yd u101 rfl sz3 (by decide) rfl ⟨Below.refl _ _,Left.of rfl⟩)
       · intro vs X wq K KQ;have LE:=K.1;obtain ⟨_,e7,k7⟩:=K.dep 7 rfl rfl rfl;refine zc 56 _ rfl e7 ?_;obtain ⟨_,e4,k4⟩:=K.dep 4 rfl rfl rfl;refine zc 53 _ rfl e4 ?_;exact zo rfl (zl Tryz.underlying3 rfl rfl (jg LE h74 B7) rfl ⟨Below.refl _ _,Left.of rfl⟩)
       · intro vs X wq K KQ;obtain ⟨_,e8,k8⟩:=K.dep 8 rfl rfl rfl;refine zc 57 _ rfl e8 ?_;obtain ⟨_,e4,k4⟩:=K.dep 4 rfl rfl rfl;refine zc 53 _ rfl e4 ?_;exact zo rfl (zr rfl rfl (zg (by omega)) ⟨Below.refl _ _,Left.of rfl⟩)
       · intro vs X wq K KQ;obtain ⟨_,e6,k6⟩:=K.dep 6 rfl rfl rfl;refine zc 55 _ rfl e6 ?_;obtain ⟨_,e9,k9⟩:=K.dep 9 rfl rfl rfl;refine zc 58 _ rfl e9 ?_;obtain ⟨_,e4,k4⟩:=K.dep 4 rfl rfl rfl;refine zc 53 _ rfl e4 ?_;exact zo rfl (zwq rfl rfl ⟨Below.refl _ _,Left.of ((by rw[decide_eq_false];omega:(.bool (decide ((2+((yg (wat W a):Nat):Int))≤((zt (wat W a):Nat):Int))):Value)=_))⟩)
       · intro vs X wq K KQ;obtain ⟨_,e4,k4⟩:=K.dep 4 rfl rfl rfl;refine zc 53 _ rfl e4 ?_;obtain ⟨_,e10,k10⟩:=K.dep 10 rfl rfl rfl;refine zc 59 _ rfl e10 ?_;exact xo rfl rfl ⟨Below.refl _ _,Left.of rfl⟩
       · intro vs X wq K KQ;obtain ⟨_,e11,k11⟩:=K.dep 11 rfl rfl rfl;refine zc 60 _ rfl e11 ?_;exact vk rfl ⟨Below.refl _ _,Left.of rfl⟩
       · intro vs X wq K KQ;obtain ⟨_,e12,k12⟩:=K.dep 12 rfl rfl rfl;refine zc 61 _ rfl e12 ?_;exact qn rfl ⟨Below.refl _ _,Left.of rfl⟩
       · intro vs X wq K KQ;obtain ⟨_,e13,k13⟩:=K.dep 13 rfl rfl rfl;refine zc 62 _ rfl e13 ?_;obtain ⟨_,e12,k12⟩:=K.dep 12 rfl rfl rfl;refine zc 61 _ rfl e12 ?_;exact qn rfl ⟨Below.refl _ _,Left.of rfl⟩
       · intro vs X wq K KQ;obtain ⟨_,e12,k12⟩:=K.dep 12 rfl rfl rfl;refine zc 61 _ rfl e12 ?_;exact qn rfl ⟨Below.refl _ _,Left.of rfl⟩
       · intro vs X wq K KQ;obtain ⟨_,e15,k15⟩:=K.dep 15 rfl rfl rfl;refine zc 64 _ rfl e15 ?_;obtain ⟨_,e12,k12⟩:=K.dep 12 rfl rfl rfl;refine zc 61 _ rfl e12 ?_;exact qn rfl ⟨Below.refl _ _,Left.of rfl⟩
       · intro vs X wq K KQ;obtain ⟨_,e12,k12⟩:=K.dep 12 rfl rfl rfl;refine zc 61 _ rfl e12 ?_;exact qn rfl ⟨Below.refl _ _,Left.of rfl⟩
       · intro vs X wq K KQ;obtain ⟨_,e16,k16⟩:=K.dep 16 rfl rfl rfl;refine zc 65 _ rfl e16 ?_;obtain ⟨_,e17,k17⟩:=K.dep 17 rfl rfl rfl;refine zc 66 _ rfl e17 ?_;obtain ⟨_,e12,k12⟩:=K.dep 12 rfl rfl rfl;refine zc 61 _ rfl e12 ?_;exact qn rfl ⟨Below.refl _ _,Left.of rfl⟩
       · intro vs X wq K KQ;obtain ⟨_,e14,k14⟩:=K.dep 14 rfl rfl rfl;refine zc 63 _ rfl e14 ?_;obtain ⟨_,e18,k18⟩:=K.dep 18 rfl rfl rfl;refine zc 67 _ rfl e18 ?_;obtain ⟨_,e12,k12⟩:=K.dep 12 rfl rfl rfl;refine zc 61 _ rfl e12 ?_;exact qn rfl ⟨Below.refl _ _,Left.of rfl⟩
       · intro vs X wq K KQ;obtain ⟨_,e12,k12⟩:=K.dep 12 rfl rfl rfl;refine zc 61 _ rfl e12 ?_;obtain ⟨_,e19,k19⟩:=K.dep 19 rfl rfl rfl;refine zc 68 _ rfl e19 ?_;exact zmz rfl rfl ⟨Below.refl _ _,Left.of rfl⟩
       · intro vs X wq K KQ;have LQ:=KQ rfl;obtain ⟨_,e0,k0⟩:=K.dep 0 rfl rfl rfl;refine zc 49 _ rfl e0 (zm xk rfl rfl (yh LQ B4D) rfl rfl rfl ?_);intro w9 B9 hb;exact ⟨hb,⟨w9,rfl,(fun z hz=>B9.ext hz (fun h=>h.elim))⟩⟩
       · intro vs X wq K KQ;obtain ⟨_,e20,k20⟩:=K.dep 20 rfl rfl rfl;refine zc 69 _ rfl e20 ?_;exact kh rfl ⟨Below.refl _ _,Left.of rfl⟩
     intro vs w2 LE AO AL AF AA;have hxd:Ext (Mut [some g4]) (wD) w2:=((Ext.refl _ (wD)).drew).trans LE;obtain ⟨w9,e21,k21⟩:=AL.2.2.2.2.2.2.2.2.2.2.2.2.2.2.2.2.2.2.2.2.2.1;obtain ⟨_,e22,k22⟩:=AL.2.2.2.2.2.2.2.2.2.2.2.2.2.2.2.2.2.2.2.2.2.2.1;have Wc21:=k21.here;refine qe (τ:=[(4,_),(5,.bool false)]) ⟨rfl,congrArg some e22,trivial⟩ ?_;clear AL AF AA AO;refine zov (gn (by kernel_rfl) (fun _ _ d_ _ _ h=>by cases d_<;>exact h) ?_);have B4E:=Wc21;refine qb ?_;exact ⟨⟨_,_,_,_,rfl⟩,(((hE.noL w.heap.size).step hX (fun q hq=>Or.inl (show w.heap.size≤q by have hq:wB.heap.size≤q:=hq;have:=hE.size;omega))).step hxd (fun q hq=>Or.inl (show w.heap.size≤q by have:=yj hq;omega))).below (fun _ h=>h)⟩
   ·
    refine qc ?_;refine zcz qt (zck 23 rfl ?_);refine yeq 21 (Mut [some g4]) (fun k hk=>(by have:=yj hk;have:=B4D.lt;omega:k<wD.heap.size)) (jh [Fx.of (.agg #[.int .i64 ((a:Nat):Int),.int .i64 ((yf (wat W a):Nat):Int),.int .i64 ((yg (wat W a):Nat):Int),.int .i64 ((zt (wat W a):Nat):Int)]),
     Fx.of (.pointer (some ⟨g7,1,none⟩)),
     Fx.of (.int .i64 ((yf (wat W a):Nat):Int)),
     Fx.of (.bool false),
     Fx.of (.bool false),
     Fx.of undef,
     Fx.of undef,
     Fx.of undef,
     Fx.of undef,
     Fx.of undef,
     Fx.of undef,
     Fx.of (.bool false),
     Fx.of (.bool false),
     Fx.of undef,
     Fx.of undef,
     Fx.of undef,
     Fx.of undef,
     Fx.of undef,
     Fx.of undef,
     Fx.of undef,
     Fx.of (.bool false),
     ⟨World,fun w9=>undef,fun w9 b=>(Blk b g4 101 #[.int .i64 ((a:Nat):Int),.int .i64 ((yf (wat W a):Nat):Int),.int .i64 ((yg (wat W a):Nat):Int),.int .i64 ((zt (wat W a):Nat):Int)])⟩,
     Fx.of (.bool false)]) rfl ?_ ?_
    · refine ⟨?_,?_,?_,?_,?_,?_,?_,?_,?_,?_,?_,?_,?_,?_,?_,?_,?_,?_,?_,?_,?_,?_,?_,trivial⟩
      · intro vs X wq K KQ;have LE:=K.1;exact yy u101 rfl xk rfl (jg LE h74 B7) rfl ⟨Below.refl _ _,Left.of rfl⟩
      · intro vs X wq K KQ;exact yd u101 rfl sz3 (by decide) rfl ⟨Below.refl _ _,Left.of rfl⟩
      · intro vs X wq K KQ;have LE:=K.1;obtain ⟨_,e1,k1⟩:=K.dep 1 rfl rfl rfl;refine zc 50 _ rfl e1 ?_;exact zl Tryz.underlying3 rfl rfl (jg LE h74 B7) rfl ⟨Below.refl _ _,Left.of rfl⟩
      · intro vs X wq K KQ;obtain ⟨_,e2,k2⟩:=K.dep 2 rfl rfl rfl;refine zc 51 _ rfl e2 ?_;exact ko rfl rfl ⟨Below.refl _ _,Left.of ((by rw[decide_eq_false];omega:(.bool (decide (0<((yf (wat W a):Nat):Int))):Value)=_))⟩
      · intro vs X wq K KQ;obtain ⟨_,e3,k3⟩:=K.dep 3 rfl rfl rfl;refine zc 52 _ rfl e3 ?_;exact vk rfl ⟨Below.refl _ _,Left.of rfl⟩
      · intro vs X wq K KQ;obtain ⟨_,e4,k4⟩:=K.dep 4 rfl rfl rfl;refine zc 53 _ rfl e4 ?_;exact qn rfl ⟨Below.refl _ _,Left.of rfl⟩
      · intro vs X wq K KQ;obtain ⟨_,e5,k5⟩:=K.dep 5 rfl rfl rfl;refine zc 54 _ rfl e5 ?_;obtain ⟨_,e4,k4⟩:=K.dep 4 rfl rfl rfl;refine zc 53 _ rfl e4 ?_;exact qn rfl ⟨Below.refl _ _,Left.of rfl⟩
      · intro vs X wq K KQ;obtain ⟨_,e4,k4⟩:=K.dep 4 rfl rfl rfl;refine zc 53 _ rfl e4 ?_;exact qn rfl ⟨Below.refl _ _,Left.of rfl⟩
      · intro vs X wq K KQ;obtain ⟨_,e7,k7⟩:=K.dep 7 rfl rfl rfl;refine zc 56 _ rfl e7 ?_;obtain ⟨_,e4,k4⟩:=K.dep 4 rfl rfl rfl;refine zc 53 _ rfl e4 ?_;exact qn rfl ⟨Below.refl _ _,Left.of rfl⟩
      · intro vs X wq K KQ;obtain ⟨_,e8,k8⟩:=K.dep 8 rfl rfl rfl;refine zc 57 _ rfl e8 ?_;obtain ⟨_,e4,k4⟩:=K.dep 4 rfl rfl rfl;refine zc 53 _ rfl e4 ?_;exact qn rfl ⟨Below.refl _ _,Left.of rfl⟩
      · intro vs X wq K KQ;obtain ⟨_,e6,k6⟩:=K.dep 6 rfl rfl rfl;refine zc 55 _ rfl e6 ?_;obtain ⟨_,e9,k9⟩:=K.dep 9 rfl rfl rfl;refine zc 58 _ rfl e9 ?_;obtain ⟨_,e4,k4⟩:=K.dep 4 rfl rfl rfl;refine zc 53 _ rfl e4 ?_;exact qn rfl ⟨Below.refl _ _,Left.of rfl⟩
      · intro vs X wq K KQ;obtain ⟨_,e4,k4⟩:=K.dep 4 rfl rfl rfl;refine zc 53 _ rfl e4 ?_;obtain ⟨_,e10,k10⟩:=K.dep 10 rfl rfl rfl;refine zc 59 _ rfl e10 ?_;exact zmz rfl rfl ⟨Below.refl _ _,Left.of rfl⟩
      · intro vs X wq K KQ;obtain ⟨_,e11,k11⟩:=K.dep 11 rfl rfl rfl;refine zc 60 _ rfl e11 ?_;exact vk rfl ⟨Below.refl _ _,Left.of rfl⟩
      · intro vs X wq K KQ;obtain ⟨_,e12,k12⟩:=K.dep 12 rfl rfl rfl;refine zc 61 _ rfl e12 ?_;exact qn rfl ⟨Below.refl _ _,Left.of rfl⟩
      · intro vs X wq K KQ;obtain ⟨_,e13,k13⟩:=K.dep 13 rfl rfl rfl;refine zc 62 _ rfl e13 ?_;obtain ⟨_,e12,k12⟩:=K.dep 12 rfl rfl rfl;refine zc 61 _ rfl e12 ?_;exact qn rfl ⟨Below.refl _ _,Left.of rfl⟩
      · intro vs X wq K KQ;obtain ⟨_,e12,k12⟩:=K.dep 12 rfl rfl rfl;refine zc 61 _ rfl e12 ?_;exact qn rfl ⟨Below.refl _ _,Left.of rfl⟩
      · intro vs X wq K KQ;obtain ⟨_,e15,k15⟩:=K.dep 15 rfl rfl rfl;refine zc 64 _ rfl e15 ?_;obtain ⟨_,e12,k12⟩:=K.dep 12 rfl rfl rfl;refine zc 61 _ rfl e12 ?_;exact qn rfl ⟨Below.refl _ _,Left.of rfl⟩
      · intro vs X wq K KQ;obtain ⟨_,e12,k12⟩:=K.dep 12 rfl rfl rfl;refine zc 61 _ rfl e12 ?_;exact qn rfl ⟨Below.refl _ _,Left.of rfl⟩
      · intro vs X wq K KQ;obtain ⟨_,e16,k16⟩:=K.dep 16 rfl rfl rfl;refine zc 65 _ rfl e16 ?_;obtain ⟨_,e17,k17⟩:=K.dep 17 rfl rfl rfl;refine zc 66 _ rfl e17 ?_;obtain ⟨_,e12,k12⟩:=K.dep 12 rfl rfl rfl;refine zc 61 _ rfl e12 ?_;exact qn rfl ⟨Below.refl _ _,Left.of rfl⟩
      · intro vs X wq K KQ;obtain ⟨_,e14,k14⟩:=K.dep 14 rfl rfl rfl;refine zc 63 _ rfl e14 ?_;obtain ⟨_,e18,k18⟩:=K.dep 18 rfl rfl rfl;refine zc 67 _ rfl e18 ?_;obtain ⟨_,e12,k12⟩:=K.dep 12 rfl rfl rfl;refine zc 61 _ rfl e12 ?_;exact qn rfl ⟨Below.refl _ _,Left.of rfl⟩
      · intro vs X wq K KQ;obtain ⟨_,e12,k12⟩:=K.dep 12 rfl rfl rfl;refine zc 61 _ rfl e12 ?_;obtain ⟨_,e19,k19⟩:=K.dep 19 rfl rfl rfl;refine zc 68 _ rfl e19 ?_;exact zmz rfl rfl ⟨Below.refl _ _,Left.of rfl⟩
      · intro vs X wq K KQ;have LQ:=KQ rfl;obtain ⟨_,e0,k0⟩:=K.dep 0 rfl rfl rfl;refine zc 49 _ rfl e0 (zm xk rfl rfl (yh LQ B4D) rfl rfl rfl ?_);intro w9 B9 hb;exact ⟨hb,⟨w9,rfl,(fun z hz=>B9.ext hz (fun h=>h.elim))⟩⟩
      · intro vs X wq K KQ;obtain ⟨_,e20,k20⟩:=K.dep 20 rfl rfl rfl;refine zc 69 _ rfl e20 ?_;exact kh rfl ⟨Below.refl _ _,Left.of rfl⟩
    intro vs w3 LE AO AL AF AA;have hxd:Ext (Mut [some g4]) (wD) w3:=((Ext.refl _ (wD)).drew).trans LE;obtain ⟨w9,e21,k21⟩:=AL.2.2.2.2.2.2.2.2.2.2.2.2.2.2.2.2.2.2.2.2.2.1;obtain ⟨_,e22,k22⟩:=AL.2.2.2.2.2.2.2.2.2.2.2.2.2.2.2.2.2.2.2.2.2.2.1;have Wc21:=k21.here;refine qe (τ:=[(4,_),(5,.bool false)]) ⟨rfl,congrArg some e22,trivial⟩ ?_;clear AL AF AA AO;refine zov (gn (by kernel_rfl) (fun _ _ d_ _ _ h=>by cases d_<;>exact h) ?_);have B4E:=Wc21;refine qb ?_;exact ⟨⟨_,_,_,_,rfl⟩,(((hE.noL w.heap.size).step hX (fun q hq=>Or.inl (show w.heap.size≤q by have hq:wB.heap.size≤q:=hq;have:=hE.size;omega))).step hxd (fun q hq=>Or.inl (show w.heap.size≤q by have:=yj hq;omega))).below (fun _ h=>h)⟩
theorem akind_no:Calls Tryz.prog 59 #[xg A W c top,.int .i64 ((a:Nat):Int)] w fun e w'=>e= .returned (.tuple #[.int .i64 0,.int .i64 1])∧Below w.heap.size w w':=by
 refine zh Tryz.func59 rfl Tryz.ntmps59 rfl (zy ?_);refine za rfl (zn rfl ?_);rintro g1 wA B1 E1 G1;have hsA:=E1.size;refine yx ?_;refine za rfl (zd en56 rfl ((alook_no _ A W c n top a (hM.no E1) h1 ha hS).mono ?_));rintro e w1 ⟨⟨x,k,t,s,rfl⟩,hb⟩;refine ⟨_,rfl,?_⟩;have E2:=E1.trans (Ext.of_below hb No);have hs2:=(Ext.of_below hb No).size;refine qc ?_;refine za rfl (zp zfz ?_);rintro g6 wB B60 E3 G6;refine zq (zm xk rfl rfl B60 rfl rfl rfl ?_);rintro wC B6 E4;refine xl ?_;exact ⟨rfl,(((E2.trans E3).noL w.heap.size).step E4 (fun q hq=>Or.inl (show w.heap.size≤q by have:=yj hq;omega))).below (fun _ h=>h)⟩
theorem asize_no:Calls Tryz.prog 60 #[xg A W c top,.int .i64 ((a:Nat):Int)] w fun e w'=>e= .returned (.tuple #[.int .i64 0,.int .i64 0,.int .i64 1])∧Below w.heap.size w w':=by
 refine zh Tryz.func60 rfl Tryz.ntmps60 rfl (zy ?_);refine za rfl (zn rfl ?_);rintro g1 wA B1 E1 G1;have hsA:=E1.size;refine qa ?_;refine za rfl (zd en56 rfl ((alook_no _ A W c n top a (hM.no E1) h1 ha hS).mono ?_));rintro e w1 ⟨⟨x,k,t,s,rfl⟩,hb⟩;refine ⟨_,rfl,?_⟩;have E2:=E1.trans (Ext.of_below hb No);have hs2:=(Ext.of_below hb No).size;refine qc ?_;refine za rfl (zp zfz ?_);rintro g6 wB B60 E3 G6;refine zq (zm xk rfl rfl B60 rfl rfl rfl ?_);rintro wC B6 E4;refine xl ?_;refine vc (rs:=[.tmp 4,.tmp 5,.tmp 6]) (vs:=[_,_,_]) rfl ⟨rfl,rfl,rfl,trivial⟩ ?_;exact ⟨rfl,(((E2.trans E3).noL w.heap.size).step E4 (fun q hq=>Or.inl (show w.heap.size≤q by have:=yj hq;omega))).below (fun _ h=>h)⟩
end
section
variable (w:World) (A:Option Addr) (W:List Nat) (c n top a i:Nat) (hM:MemA n w A W top) (hS:Seen W top a)
theorem ahas_no (k t s:Nat) (hs:s<16777216) (hi:¬i+2<s):Calls Tryz.prog 73 #[.agg #[.int .i64 ((a:Nat):Int),.int .i64 ((k:Nat):Int),.int .i64 ((t:Nat):Int),.int .i64 ((s:Nat):Int)],.int .i64 ((i:Nat):Int)] w fun e w'=>e= .returned (.bool false)∧Below w.heap.size w w':=by
 refine zh Tryz.func73 rfl Tryz.ntmps73 rfl (zy ?_);refine za rfl (zn rfl ?_);rintro g1 wA B1 E1 G1;refine yu ?_;refine zf 6 (.bool true) rfl ((by rw[decide_eq_true];omega:(.bool (decide ((0:Int)≤((i:Nat):Int))):Value)=_)) (qb ?_);refine onx rfl (qz rfl rfl (zg (by omega)) (stp ?_));refine zf 12 (.bool false) rfl ((by rw[decide_eq_false];omega:(.bool (decide (((i:Nat):Int)<((s:Nat):Int)-2)):Value)=_)) (yb ?_);exact ⟨rfl,E1.toBelow⟩
include hM hS
theorem aget_no (hi:¬i+2<zt (wat W a)):Calls Tryz.prog 61 #[xg A W c top,.int .i64 ((a:Nat):Int),.int .i64 ((i:Nat):Int)] w fun e w'=>e= .returned (.tuple #[.int .u64 0,.int .i64 1])∧Below w.heap.size w w':=by
 have h10:=zcx (wat W a);refine zh Tryz.func61 rfl Tryz.ntmps61 rfl (zy ?_);refine za rfl (zn rfl ?_);rintro g1 wA B1 E1 G1;have hsA:=E1.size;have h1l:=B1.lt;refine yx ?_;refine za rfl (zd en56 rfl ((znq _ A W c n top a (hM.no E1) hS).mono ?_));rintro e w1 ⟨rfl,hb⟩;refine ⟨_,rfl,?_⟩;have E2:=E1.trans (Ext.of_below hb No);have hs2:=(Ext.of_below hb No).size;refine qc ?_;refine za rfl (zp zfz ?_);rintro g6 wB B60 E3 G6;refine zq (zm xk rfl rfl B60 rfl rfl rfl ?_);rintro wC B6 E4;have hEC:=((E2.trans E3).noL w.heap.size).step E4 (fun q hq=>Or.inl (show w.heap.size≤q by have:=yj hq;omega));refine yt ?_;refine onx rfl (zd en73 rfl ((ahas_no _ a i _ _ _ h10 hi).mono ?_));rintro e w2 ⟨rfl,hb⟩;refine ⟨_,rfl,?_⟩;have hED:=hEC.step (Ext.of_below hb No) (fun _ h=>h.elim);refine jt ?_;exact ⟨rfl,hED.below (fun _ h=>h)⟩
theorem zmk:Calls Tryz.prog 35 #[xg A W c top,.int .i64 ((a:Nat):Int),.int .i64 ((i:Nat):Int)] w fun e w'=>e= .returned (.int .u64 ((vr W a i:Nat):Int))∧Below w.heap.size w w':=by
 by_cases hi:i+2<zt (wat W a)
 · rw[getW_in hi];exact ycz w A W c n top a hM hS i hi
 rw[getW_out hi];refine zh Tryz.func35 rfl Tryz.ntmps35 rfl (zy ?_);refine za rfl (zn rfl ?_);rintro g1 wA B1 E1 G1;refine yx ?_;refine za rfl (zd en61 rfl ((aget_no _ A W c n top a i (hM.no E1) hS hi).mono ?_));rintro e w1 ⟨rfl,hb⟩;refine ⟨_,rfl,(xb ?_)⟩;exact ⟨rfl,(E1.trans (Ext.of_below hb No)).toBelow⟩
end
section
variable (w:World) (A:Option Addr) (W:List Nat) (c n top x:Nat) (hM:MemA n w A W top) (hx:U64 x)
include hM hx
theorem olook_no0 (hk:zw x=0) (hS:¬Seen W top (x/4)):Calls Tryz.prog 34 #[xg A W c top,.int .u64 ((x:Nat):Int)] w fun e w'=>e= .returned (.tuple #[.int .i64 ((x/4:Nat):Int),.agg #[.int .i64 0,.int .i64 0,.int .i64 0],.bool false])∧Below w.heap.size w w':=by
 have hka:=wkind_addr hk;refine zh Tryz.func34 rfl Tryz.ntmps34 rfl (zy ?_);refine za rfl (zn rfl ?_);rintro g1 wA B1 E1 G1;refine stp ?_;refine za rfl (zp og ?_);rintro g5 wB B5 E2 G5;have hsA:=E1.size;have h5l:=B5.lt;have B1b:Blk wB g1 24 #[.slice A W.length c,.int .i64 ((top:Nat):Int)]:=B1.ext E2 (fun h=>h.elim);have hEB:=E1.trans E2;refine yb ?_;refine za rfl (zd en57 rfl (((at_any _ x hx).mono (fun _ _ h=>by rw[if_pos hk] at h;exact h)).mono ?_));rintro e w1 ⟨rfl,hb⟩;refine ⟨_,rfl,?_⟩;have E3:=Ext.of_below hb No;have B12:=B1b.ext E3 (fun h=>h.elim);have hE3:=hEB.trans E3;refine stp21 ?_;refine za rfl (zd en59 rfl ((akind_no _ A W c n top (x/4) (hM.no hE3) hka.2.1 (by omega) hS).mono ?_));rintro e w2 ⟨rfl,hb⟩;refine ⟨_,rfl,?_⟩;have E4:=Ext.of_below hb No;have B13:=B12.ext E4 (fun h=>h.elim);have hE4:=hE3.trans E4;refine yt ?_;refine za rfl (zd en60 rfl ((asize_no _ A W c n top (x/4) (hM.no hE4) hka.2.1 (by omega) hS).mono ?_));rintro e w3 ⟨rfl,hb⟩;refine ⟨_,rfl,?_⟩;have E5:=Ext.of_below hb No;have hE5:=hE4.trans E5;have B5e:=((B5.ext E3 (fun h=>h.elim)).ext E4 (fun h=>h.elim)).ext E5 (fun h=>h.elim);refine xb ?_;refine za rfl (ye (cs:=#[.int .i64 0,.int .i64 0,.int .i64 0]) pl68 og rfl rfl (qc ?_));refine zq (zm xj rfl rfl B5e rfl rfl rfl ?_);rintro wC B5f E6;refine qb ?_;refine vc (rs:=[.tmp 4,.cell 5 68,.tmp 6]) (vs:=[_,_,_]) rfl ⟨rfl,⟨_,rfl,xd u68 rfl xj B5f rfl⟩,rfl,trivial⟩ ?_;exact ⟨rfl,((hE5.noL w.heap.size).step E6 (fun q hq=>Or.inl (show w.heap.size≤q by have:=yj hq;omega))).below (fun _ h=>h)⟩
theorem olook_no1 (hk:zw x≠0):Calls Tryz.prog 34 #[xg A W c top,.int .u64 ((x:Nat):Int)] w fun e w'=>e= .returned (.tuple #[.int .i64 0,.agg #[.int .i64 0,.int .i64 0,.int .i64 0],.bool false])∧Below w.heap.size w w':=by
 have _:=hM;refine zh Tryz.func34 rfl Tryz.ntmps34 rfl (zy ?_);refine za rfl (zn rfl ?_);rintro g1 wA B1 E1 G1;refine stp ?_;refine za rfl (zp og ?_);rintro g5 wB B5 E2 G5;have hsA:=E1.size;have h5l:=B5.lt;have hEB:=E1.trans E2;refine yb ?_;refine za rfl (zd en57 rfl (((at_any _ x hx).mono (fun _ _ h=>by rw[if_neg hk] at h;exact h)).mono ?_));rintro e w1 ⟨rfl,hb⟩;refine ⟨_,rfl,?_⟩;have E3:=Ext.of_below hb No;have hE3:=hEB.trans E3;have B5e:=B5.ext E3 (fun h=>h.elim);refine zhq ?_;refine za rfl (ye (cs:=#[.int .i64 0,.int .i64 0,.int .i64 0]) pl68 og rfl rfl (stp ?_));refine zq (zm xj rfl rfl B5e rfl rfl rfl ?_);rintro wC B5f E6;refine yk ?_;refine vc (rs:=[.tmp 4,.cell 5 68,.tmp 6]) (vs:=[_,_,_]) rfl ⟨rfl,⟨_,rfl,xd u68 rfl xj B5f rfl⟩,rfl,trivial⟩ ?_;exact ⟨rfl,((hE3.noL w.heap.size).step E6 (fun q hq=>Or.inl (show w.heap.size≤q by have:=yj hq;omega))).below (fun _ h=>h)⟩
theorem gc:Calls Tryz.prog 34 #[xg A W c top,.int .u64 ((x:Nat):Int)] w fun e w'=>e= .returned (.tuple #[.int .i64 ((lkA x:Nat):Int),.agg #[.int .i64 ((lkK W top x:Nat):Int),.int .i64 ((lkT W top x:Nat):Int),.int .i64 ((lkR W top x:Nat):Int)],.bool (lkB W top x)])∧Below w.heap.size w w':=by
 by_cases hk:zw x=0
 · by_cases hS:Seen W top (x/4)
   · rw[yux hk,lkK_yes hk hS,lkT_yes hk hS,lkR_yes hk hS,ytv hk hS];exact zsk w A W c n top x hM hx hk hS
   · rw[yux hk,lkK_no (fun h=>hS h.2),lkT_no (fun h=>hS h.2),lkR_no (fun h=>hS h.2),ypz (fun h=>hS h.2)];exact olook_no0 w A W c n top x hM hx hk hS
 · rw[lkA_1 hk,lkK_no (fun h=>hk h.1),lkT_no (fun h=>hk h.1),lkR_no (fun h=>hk h.1),ypz (fun h=>hk h.1)];exact olook_no1 w A W c n top x hM hx hk
theorem yzk:Calls Tryz.prog 40 #[xg A W c top,.int .u64 ((x:Nat):Int)] w fun e w'=>e= .returned (.bool (gdW W top x))∧Below w.heap.size w w':=by
 refine zh Tryz.func40 rfl Tryz.ntmps40 rfl (zy ?_);refine za rfl (zn rfl ?_);rintro g1 wA B1 E1 G1;have hsA:=E1.size;refine yu ?_;refine za rfl (zd en30 rfl ((ji _ x hx).mono ?_));rintro e w1 ⟨rfl,hb⟩;refine ⟨_,rfl,?_⟩;have E2:=Ext.of_below hb No;have hE2:=E1.trans E2;have B12:=B1.ext E2 (fun h=>h.elim);have hs2:=E2.size;refine stp ?_;by_cases hk:zw x=0
 ·
  refine zf 10 (.bool true) rfl ((by rw[hk];rfl:(.bool (((zw x:Nat):Int)==0):Value)=_)) (yu ?_);refine za rfl (zd ykv rfl ((gc _ A W c n top x (hM.no hE2) hx).mono ?_));rintro e w2 ⟨rfl,hb⟩;refine ⟨_,rfl,?_⟩;have E3:=Ext.of_below hb No;have hs3:=E3.size;refine qb ?_;refine za rfl (zp og ?_);rintro g5 wB B5 E4 G5;refine stp ?_;refine zq (zm xj rfl rfl B5 rfl rfl rfl ?_);rintro wC B5f E6;refine qo ?_;exact ⟨by rw[gdW_0 hk];rfl,((((hE2.trans E3).trans E4).noL w.heap.size).step E6 (fun q hq=>Or.inl (show w.heap.size≤q by have:=yj hq;omega))).below (fun _ h=>h)⟩
 ·
  refine zf 10 (.bool false) rfl ((by congr 1;rw[beq_eq_false_iff_ne];omega:(.bool (((zw x:Nat):Int)==0):Value)=_)) (yx ?_);refine za rfl (zd en30 rfl ((ji _ x hx).mono ?_));rintro e w3 ⟨rfl,hb⟩;refine ⟨_,rfl,(yb ?_)⟩;exact ⟨by rw[gdW_1 hk];rfl,(hE2.trans (Ext.of_below hb No)).toBelow⟩
theorem num_all:Calls Tryz.prog 31 #[.int .u64 ((x:Nat):Int)] w fun e w'=>e= .returned (.tuple #[.int .i64 (nmI x),.int .i64 (nmE x)])∧Below w.heap.size w w':=by
 have hu:x<18446744073709551616:=hx;have _:=hM;refine zh Tryz.func31 rfl Tryz.ntmps31 rfl (zz ?_);refine za rfl (zd en30 rfl ((ji _ x hx).mono ?_));rintro e w1 ⟨rfl,hb⟩;refine ⟨_,rfl,(qc ?_)⟩;refine zx rfl (fun h0=>?_) (fun h0=>?_)
 ·
  have h0:zw x≠1:=by have:=bne_iff_ne.1 h0;omega
  refine qa ?_;exact ⟨by rw[nmI_no h0,nmE_no h0];rfl,hb⟩
 ·
  have h0:zw x=1:=by have h9:(((zw x:Nat):Int) !=1)=false:=h0;have:=bne_eq_false_iff_eq.1 h9;omega
  have h4:x%4=1:=wkind_1 h0;refine yk ?_;refine za rfl (yi Tryz.underlying2 u27 rfl rfl (za rfl (je rfl rfl (by decide) (ydx hu h4) (yb ?_))));exact ⟨by rw[qhk h0,qhv h0];rfl,hb⟩
theorem which_all:Calls Tryz.prog 33 #[.int .u64 ((x:Nat):Int)] w fun e w'=>e= .returned (.tuple (if zw x=2 then #[.int .i64 ((x/4:Nat):Int),.int .i64 0] else #[.int .i64 0,.int .i64 9]))∧Below w.heap.size w w':=by
 have hu:x<18446744073709551616:=hx;have _:=hM;refine zh Tryz.func33 rfl Tryz.ntmps33 rfl (zz ?_);refine za rfl (zd en30 rfl ((ji _ x hx).mono ?_));rintro e w1 ⟨rfl,hb⟩;refine ⟨_,rfl,(qc ?_)⟩;refine zx rfl (fun h0=>?_) (fun h0=>?_)
 ·
  have h0:zw x≠2:=by have:=bne_iff_ne.1 h0;omega
  refine qa ?_;exact ⟨by rw[if_neg h0];rfl,hb⟩
 ·
  have h0:zw x=2:=by have h9:(((zw x:Nat):Int) !=2)=false:=h0;have:=bne_eq_false_iff_eq.1 h9;omega
  refine yk ?_;refine za rfl (je rfl rfl (by decide) (ylq (k:=2) (by decide)) (za rfl (yi Tryz.underlying3 u27 rfl (zg (by omega)) (yb ?_))));exact ⟨by rw[if_pos h0];rfl,hb⟩
end
end Go.Proofs.YtebjkmjfcijebaaGreat
namespace Go.Proofs.YtebjkmjfcijebaaGreat
open Go.RowKit
set_option maxHeartbeats 20000000
attribute [local irreducible] OW RS CW EW
def optV (o:Option PV) (A:Option Addr) (c:Nat):Value:=.tuple #[.agg #[.int .i64 (o.getD vNil).k,.bool (o.getD vNil).yes,.bool (o.getD vNil).neg,.slice A (o.getD vNil).xs.length c,.int .u64 (((o.getD vNil).bits:Nat):Int),.string (o.getD vNil).s,.slice none 0 0],.int .i64 (if o.isSome then 0 else 9)]
def bytV (l:List Nat):List Value:=l.map fun x:Nat=>Value.int .u8 ((x:Nat):Int)
theorem bytV_len (l:List Nat):(bytV l).length=l.length:=by unfold bytV;rw[List.length_map]
theorem bytV_set (l:List Nat) (j x:Nat):(bytV l).set j (.int .u8 ((x:Nat):Int))=bytV (l.set j x):=by unfold bytV;rw[List.map_set]
theorem bytV_rep (n:Nat):bytV (List.replicate n 0)=List.replicate n (.int .u8 0):=by unfold bytV;rw[List.map_replicate];rfl
theorem bytV_at {l:List Nat} {j x:Nat} (h:l[j]? =some x):(bytV l).toArray[j]? =some (.int .u8 ((x:Nat):Int)):=by
 unfold bytV;rw[List.getElem?_toArray,List.getElem?_map,h];rfl
def byL (R:List Nat):List Nat:=(List.range (wat R 0)).map fun i=>(byW R i).toNat
theorem byL_len (R:List Nat):(byL R).length=wat R 0:=by unfold byL;simp
theorem byL_at {R:List Nat} {i:Nat} (h:i<wat R 0):(byL R)[i]? =some (byW R i).toNat:=by
 unfold byL;rw[List.getElem?_map,List.getElem?_range h];rfl
theorem byW_wrap (R:List Nat) (i:Nat):IntKind.u8.wrap ((wat R (1+i/8)/2^(8*(i%8)):Nat):Int)=(((byW R i).toNat:Nat):Int):=by
 unfold byW IntKind.wrap;simp only[IntKind.bits,IntKind.signed,Bool.false_and,Bool.false_eq_true,if_false,UInt8.toNat_ofNat']
 rfl
theorem ygz {R:List Nat} (h:jo (jp R)=R):qcz R=some (vStr (jp R)):=if_pos h
theorem yrx {R:List Nat} (h:jo (jp R)≠R):qcz R=none:=if_neg h
theorem otext_any (w:World) (A:Option Addr) (R:List Nat) (c n:Nat) (hR:WordsA n w A R) (hn:n≤w.heap.size) (h0:wat R 0≤20000) (hl:R.length=1+(wat R 0+7)/8):Calls Tryz.prog 37 #[.slice A R.length c] w fun e w'=>e= .returned (optV (qcz R) none 0)∧Below w.heap.size w w':=by
 obtain ⟨L,hL⟩:∃L,L=wat R 0:=⟨_,rfl⟩;have hLl:(byL R).length=L:=by rw[byL_len,hL]
 have hpl:(jo (jp R)).length=R.length:=by rw[zjq,qez,hl]
 refine zh Tryz.func37 rfl Tryz.ntmps37 rfl (zy ?_);refine za rfl (zp xt ?_);rintro gv wA Bv E1 Gv;obtain ⟨gm,om,hA,hgm,hcm⟩:=(hR.no E1).at (show 0<R.length by omega);refine yb ?_;refine za rfl (zi (j:=0) u22 qk (congrArg (fun z↦some (Value.slice z R.length c)) hA) rfl rfl (by omega) (za rfl (yl u27 rfl rfl hcm (za rfl (ziv (n:=L) u109 inf5 rfl rfl rfl (by rw[hL]) (by rw[hL]) (by omega) (by omega) ?_)))));rintro gs wB Bs E2 Gs;have hE:=E1.trans E2;have hvl:=Bv.lt;have hs1:=E1.size;have B0:Blk wB gs 5 (bytV (qh (byL R) 0 0)).toArray:=by
  rw[yoz,bytV_rep,hLl];exact Bs
 refine qo ?_;refine qw (ι:=Nat) (fun i=>[(0,.slice A R.length c),(2,.pointer (some ⟨gv,0,none⟩)),(3,.int .i64 0),(4,.slice (some ⟨gs,0,none⟩) L L),(13,.int .i64 ((L:Nat):Int)),(14,.int .i64 ((i:Nat):Int))]) (fun i w'=>i≤L∧Blk w' gs 5 (bytV (qh (byL R) 0 i)).toArray∧Ext (fun q=>gs≤q) wB w') (fun i=>L-i) 0 ⟨rfl,rfl,rfl,rfl,rfl,rfl,trivial⟩ (⟨Nat.zero_le _,B0,Ext.refl _ _⟩) ?_;rintro i w2 ⟨hi0,Bi,hEi⟩;have hEw:=(hE.noL gs).step hEi (fun q hq=>Or.inl hq);refine yb ?_;refine zx rfl (fun hc=>?_) (fun hc=>?_)
 ·
  have hc:=of_decide_eq_true hc;have hlt:i<L:=by omega
  obtain ⟨r8,hr8⟩:∃r8,r8=8*(i%8):=⟨_,rfl⟩;have hr64:r8<64:=by omega
  have hRi:=hR.low (X:=fun q=>gs≤q) ⟨hEw,fun q hq=>Nat.le_trans hn (by have hq:gs≤q:=hq;omega)⟩;obtain ⟨gm,om,hA,hgm,hcm⟩:=hRi.at (show 1+i/8<R.length by omega);refine xb ?_;refine za rfl (oi rfl rfl (by decide) (show IntKind.i64.wrap (((i:Nat):Int).tdiv 8)=((i/8:Nat):Int) from by rw[Int.tdiv_eq_ediv_of_nonneg (by omega)];exact zg (by omega)) (za rfl (zr rfl rfl (show IntKind.i64.wrap (1+((i/8:Nat):Int))=((1+i/8:Nat):Int) from by rw[zg (by omega)];omega) (za rfl (zi (j:=1+i/8) u22 qk (congrArg (fun z↦some (Value.slice z R.length c)) hA) rfl rfl (by omega) (za rfl (yl u27 rfl rfl hcm (stp ?_))))))));refine za rfl (ju rfl rfl (by decide) (show (((i:Nat):Int).tmod 8)=((i%8:Nat):Int) from by rw[Int.tmod_eq_emod_of_nonneg (by omega)];rfl) (za rfl (vn rfl rfl (show IntKind.i64.wrap (8*((i%8:Nat):Int))=((r8:Nat):Int) from by rw[hr8,zg (by omega)];omega) (za rfl (je rfl rfl (by omega) (ylq (k:=r8) hr64) (za rfl (yi u5 u27 rfl (show IntKind.u8.wrap ((wat R (1+i/8)/2^r8:Nat):Int)=(((byW R i).toNat:Nat):Int) from by rw[hr8];exact byW_wrap R i) (za rfl (zi (j:=i) u109 sz5 rfl rfl rfl hlt (zq (jz (cs':=(bytV (qh (byL R) 0 (i+1))).toArray) sz5 rfl rfl Bi rfl rfl (by rw[List.size_toArray,bytV_len,zav (by omega)];omega) (by rw[Nat.zero_add,List.setIfInBounds_toArray,bytV_set,zlq (byL_at (by omega))]) ?_)))))))))));rintro wT BT ET;refine qb ?_;refine za rfl (zr rfl rfl (zg (by omega)) (zy ?_));exact qf (i+1) (by show L-(i+1)<L-i;omega) ⟨rfl,rfl,rfl,rfl,rfl,rfl,trivial⟩ (⟨hlt,BT,hEi.step ET (fun q hq=>Or.inl (show gs≤q by have:=yj hq;omega))⟩)
 ·
  have hc:=of_decide_eq_false hc;have hie:i=(byL R).length:=by omega
  rw[hie,zlk] at Bi;refine qa ?_;refine za rfl (qdz (l:=(List.range (wat R 0)).map (byW R)) u109 u5 Tryz.underlying9 (by rw[List.length_map,List.length_range,←hL];rfl) (fun _↦⟨gs,0,rfl,fun j hj↦by rw[List.length_map,List.length_range] at hj;rw[Bi.cell,Nat.zero_add,bytV_at (byL_at hj)];simp⟩) (za rfl (zd en25 rfl ((yoq _ (jp R) (by rw[qez];exact h0)).mono ?_))));rintro e w3 ⟨⟨gp,rfl,Bp,Gp⟩,hb⟩;refine ⟨_,rfl,?_⟩;have E5:=Ext.of_below hb No;have hEx:=hEw.step E5 (fun _ h=>h.elim);have Bvx:=(Bv.ext E2 (fun h=>h.elim)).ext (hEi.step E5 (fun _ h=>h.elim)) (fun h=>by have h:gs≤gv:=h;omega);have hRx:=hR.low (X:=fun q=>gs≤q) ⟨hEx,fun q hq=>Nat.le_trans hn (by have hq:gs≤q:=hq;omega)⟩;have hsx:=hEx.size;obtain ⟨wu5,hwu5⟩:∃z,z=w3:=⟨_,rfl⟩;subst hwu5;refine yk ?_;refine qw (ι:=Nat) (fun i=>[(0,.slice A R.length c),(2,.pointer (some ⟨gv,0,none⟩)),(3,.int .i64 0),(4,.slice (some ⟨gs,0,none⟩) L L),(34,.slice (some ⟨gp,0,none⟩) (jo (jp R)).length (jo (jp R)).length),(35,.int .i64 (((jo (jp R)).length:Nat):Int)),(36,.int .i64 ((i:Nat):Int))]) (fun i w'=>i≤R.length∧Ext No wu5 w'∧ ∀j,j<i→R[j]? =(jo (jp R))[j]?) (fun i=>R.length-i) 0 ⟨rfl,rfl,rfl,rfl,rfl,rfl,rfl,trivial⟩ (⟨Nat.zero_le _,Ext.refl _ _,fun j h=>absurd h (Nat.not_lt_zero j)⟩) ?_;rintro i w5 ⟨hi0,hEj,hsame⟩;have Bvi:=Bvx.ext hEj (fun h=>h.elim);have hEw2:=hEx.step hEj (fun _ h=>h.elim);refine yb ?_;refine zx rfl (fun hc=>?_) (fun hc=>?_)
  ·
   have hc:=of_decide_eq_true hc;have hlt:i<R.length:=by omega
   obtain ⟨gm,om,hA,hgm,hcm⟩:=(hRx.no hEj).at hlt;have hpi:(jo (jp R))[i]? =some (wat (jo (jp R)) i):=ke (by omega);refine yu ?_;refine za rfl (zi (j:=i) u22 qk rfl rfl rfl (by omega) (za rfl (zl u27 rfl rfl (Bp.ext hEj (fun h↦h.elim)) (by rw[Nat.zero_add];exact ka hpi) (yx ?_))));refine za rfl (zi (j:=i) u22 qk (congrArg (fun z↦some (Value.slice z R.length c)) hA) rfl rfl hlt (za rfl (yl u27 rfl rfl hcm (zy ?_))));by_cases he:wat R i=wat (jo (jp R)) i
   ·
    refine zf 46 (.bool false) rfl ((by rw[he,bne_self_eq_false]:(.bool (((wat R i:Nat):Int) !=((wat (jo (jp R)) i:Nat):Int)):Value)=_)) ?_;have hnx:∀j,j<i+1→R[j]? =(jo (jp R))[j]? :=fun j hj=>by
     rcases Nat.lt_or_ge j i with h | h
     · exact hsame j h
     · obtain rfl:j=i:=by omega
       rw[hpi,ke hlt,he]
    refine yu ?_;refine za rfl (zr rfl rfl (zg (by omega)) (zy ?_));exact qf (i+1) (by show R.length-(i+1)<R.length-i;omega) ⟨rfl,rfl,rfl,rfl,rfl,rfl,rfl,trivial⟩ (⟨hlt,hEj,hnx⟩)
   ·
    refine zf 46 (.bool true) rfl ((by congr 1;rw[bne_iff_ne];omega:(.bool (((wat R i:Nat):Int) !=((wat (jo (jp R)) i:Nat):Int)):Value)=_)) (yk ?_);refine za rfl (ye (cs:=#[.int .i64 0,.bool false,.bool false,.slice none 0 0,.int .u64 0,.string ⟨#[]⟩,.slice none 0 0]) zhz xt rfl rfl (zq (zm kd rfl rfl Bvi rfl rfl rfl ?_)));rintro wC B2e E4;refine zz ?_;exact ⟨by rw[yrx (fun h↦he (by rw[h]))];rfl,((hEw2.mono (Y:=fun q=>w.heap.size≤q) (fun q h _=>by have h:gs≤q:=h;omega)).step E4 (fun q hq=>Or.inl (show w.heap.size≤q by have:=yj hq;omega))).below (fun _ h=>h)⟩
  ·
   have hc:=of_decide_eq_false hc;have hall:jo (jp R)=R:=List.ext_getElem? fun j=>by
    rcases Nat.lt_or_ge j i with h | h
    · exact (hsame j h).symm
    · rw[List.getElem?_eq_none (by omega),List.getElem?_eq_none (by omega)]
   refine yx ?_;refine za rfl (qdz (l:=(List.range (wat R 0)).map (byW R)) u109 u5 Tryz.underlying9 (by rw[List.length_map,List.length_range,←hL];rfl) (fun _↦⟨gs,0,rfl,fun j hj↦by rw[List.length_map,List.length_range] at hj;rw[(Bi.ext (E5.trans hEj) (fun h↦h.elim)).cell,Nat.zero_add,bytV_at (byL_at hj)];simp⟩) (za rfl (ye (cs:=#[.int .i64 4,.bool false,.bool false,.slice none 0 0,.int .u64 0,.string (jp R),.slice none 0 0]) zhz xt rfl rfl (zq (zm kd rfl rfl Bvi rfl rfl rfl ?_)))));rintro wC B2e E4;refine yk ?_;exact ⟨by rw[ygz hall];rfl,((hEw2.mono (Y:=fun q=>w.heap.size≤q) (fun q h _=>by have h:gs≤q:=h;omega)).step E4 (fun q hq=>Or.inl (show w.heap.size≤q by have:=yj hq;omega))).below (fun _ h=>h)⟩
end Go.Proofs.YtebjkmjfcijebaaGreat
namespace Go.Proofs.YtebjkmjfcijebaaGreat
open Go.RowKit
attribute [local irreducible] OW RS CW EW
set_option maxHeartbeats 20000000
theorem retErr_zero {W w':World} {f:Int} (hb:Below W.heap.size W w'):vq W 0 f (.returned (.tuple #[.agg #[.bool false,.slice none 0 0],.int .i64 f])) w':=
 ⟨none,0,by rw[vu];rfl,by rw[vu];exact Own.nil _ _,hb⟩
theorem own_apart {w:World} {base c g:Nat} {A:Option Addr} {xs:List Nat} {t:TypeId} {cs:Array Value} (h:Own w base A c xs) (hb:Blk w g t cs) (ht:27≠t):Apart (Value.slice A xs.length c).ownBlock (some g):=
 fun k e f=>zwx h.1 hb ht (e.trans f.symm)
theorem Per.ownN {l:List (Option Nat)} {w:World} {base c:Nat} {A:Option Addr} {xs:List Nat} (h:Own w base A c xs) (hn:NotIn (Value.slice A xs.length c).ownBlock l):Per (Mut l) w (fun b=>Own b base A c xs):=
 fun _ hb=>⟨owns_extN h.1 hb hn,h.2⟩
theorem Per.ownX {X:Nat→Prop} {w:World} {base c:Nat} {A:Option Addr} {xs:List Nat} (h:Own w base A c xs) (hx:∀k,X k→k<base):Per X w (fun b=>Own b base A c xs):=fun b hb=>by
 have hb':Ext (Mut [none]) w b∨True:=Or.inr trivial;refine ⟨(⟨h.1.1,?_⟩),h.2⟩;rcases h.1.2 with h2 | ⟨g,cap,cur,hv,hg,hh,r⟩
 · exact Or.inl h2
 · exact Or.inr ⟨g,cap,cur,hv,hg,(hb.block g (Array.getElem?_eq_some_iff.1 hh).1 (fun e=>by have:=hx g e;omega)).trans hh,r⟩
theorem cellAt_lt {w:World} {b o:Nat} {v:Value} (h:w.cell? ⟨b,o,none⟩=some v):b<w.heap.size:=by
 unfold World.cell? at h;simp only[] at h
 split at h
 · rename_i c t fr hh;exact (Array.getElem?_eq_some_iff.1 hh).1
 · cases h
theorem Per.cell0 {w:World} {g o:Nat} {v:Value} (h:w.cell? ⟨g,o,none⟩=some v):Per No w (fun b=>b.cell? ⟨g,o,none⟩=some v):=fun b hb=>by
 have hlt:g<w.heap.size:=cellAt_lt h;show b.cell? ⟨g,o,none⟩=some v
 rw[hb.cell (p:=⟨g,o,none⟩) hlt (fun e=>e.elim)];exact h
section
variable (n1 n2:Bool) (A B:Option Addr) (c d:Nat) (xs ys:List Nat) (w:World)
end
section
variable (i j:Int) (A B:Option Addr) (c d:Nat) (w:World) (hi:i.natAbs<B18^30) (hj:j.natAbs<B18^30) (hx:Nums w A (limbs i)) (hy:Nums w B (limbs j))
include hi hj hx hy
theorem pow_zero (h0:j=0):Calls Tryz.prog 112 #[.agg #[.bool (decide (i<0)),.slice A (limbs i).length c],.agg #[.bool (decide (j<0)),.slice B (limbs j).length d]] w (vq w 1 0):=by
 have hd:decide (j<0)=false:=by rw[h0];rfl
 have hlen:(limbs j).length=0:=by rw[h0,vu];rfl
 refine zh Tryz.func112 rfl Tryz.ntmps112 rfl ?_;have HF:Per (No) w (fun _=>True):=Per.true_;have LW:=erx (No) w;have XLW:=grx (No) w;have E:=erx (No) w;replace HF:=HF.on E;replace LW:=LW.step E XLW;replace E:=erx (No) w;replace HF:=HF.and (Per.nums0 hx);replace HF:=HF.on E;replace LW:=LW.step E XLW;replace E:=erx (No) w;replace HF:=HF.and (Per.nums0 hy);refine zy ?_;refine za rfl (zn rfl ?_);intro gb1 w2 Bb1 Eb1 Gb1;have Gb1:_≤gb1:=Nat.le_trans E.size Gb1;have GLb1:=Nat.le_trans LW.size Gb1;replace E:=E.trans Eb1.no;replace HF:=HF.cons (zj Gb1);replace E:=E.cons (some gb1);replace XLW:=Mut.grow XLW (fun k e=>Or.inr (Nat.le_trans LW.size ((zj Gb1) k e)));replace HF:=HF.on E;replace LW:=LW.step E XLW;have SB:∀q9,No q9→Mut [(some gb1)] q9:=(Mut.skip Mut.nil_);replace HF:=HF.less SB;replace XLW:=fun k h=>XLW k (SB k h);clear SB;replace E:=erx (No) w2;replace HF:=HF.and (Per.blkN Bb1 NotIn.nil);refine za rfl (zn rfl ?_);intro gb3 w4 Bb3 Eb3 Gb3;have Gb3:_≤gb3:=Nat.le_trans E.size Gb3;have GLb3:=Nat.le_trans LW.size Gb3;replace E:=E.trans Eb3.no;replace HF:=HF.cons (zj Gb3);replace E:=E.cons (some gb3);replace XLW:=Mut.grow XLW (fun k e=>Or.inr (Nat.le_trans LW.size ((zj Gb3) k e)));replace HF:=HF.on E;replace LW:=LW.step E XLW;have SB:∀q9,No q9→Mut [(some gb3)] q9:=(Mut.skip Mut.nil_);replace HF:=HF.less SB;replace XLW:=fun k h=>XLW k (SB k h);clear SB;replace E:=erx (No) w4;replace HF:=HF.and (Per.blkN Bb3 NotIn.nil);refine za rfl (zp ziz ?_);intro gb5 w6 Bb5 Eb5 Gb5;have Gb5:_≤gb5:=Nat.le_trans E.size Gb5;have GLb5:=Nat.le_trans LW.size Gb5;replace E:=E.trans Eb5.no;replace HF:=HF.cons (zj Gb5);replace E:=E.cons (some gb5);replace XLW:=Mut.grow XLW (fun k e=>Or.inr (Nat.le_trans LW.size ((zj Gb5) k e)));refine yu ?_
 refine za rfl (zd en36 rfl ((qdk A c _ hi (HF.on E).here.1.1.1.2).mono ?_));rintro e w7 ⟨rfl,hb⟩;refine ⟨_,rfl,?_⟩;have Ec:=Ext.of_below hb No;replace Bb5:=Bb5.extN Ec NotIn.nil;replace E:=E.trans Ec.no;refine qc ?_;refine onx rfl (zd en36 rfl ((qdk B d _ hj (HF.on E).here.1.1.2).mono ?_));rintro e w8 ⟨rfl,hb⟩;refine ⟨_,rfl,?_⟩;have Ec:=Ext.of_below hb No;replace Bb5:=Bb5.extN Ec NotIn.nil;replace E:=E.trans Ec.no;refine jt ?_;refine zk 19 (.bool false) rfl ((by rw[hd]:(.bool (decide (j<0)):Value)=_)) (yk ?_);refine za rfl (zd en32 rfl ((zmv 1 _ (by decide) (by decide)).mono ?_));rintro e w9 ⟨A1,c1,rfl,o1,hb⟩;refine ⟨_,rfl,?_⟩;have XC:∀q9,(Mut [(some gb5)]) q9→q9<w8.heap.size:=(Mut.grow Mut.none_ (yp Bb5.lt));have SC:=Nat.le_trans LW.size E.size;have Ec:=Ext.of_below hb No;replace Bb5:=Bb5.extN Ec NotIn.nil;replace E:=E.trans Ec.no;have S1:=SC;replace HF:=HF.on E;replace LW:=LW.step E XLW;replace E:=erx (Mut [(some gb5)]) w9;replace HF:=HF.and (Per.ownX o1 XC);refine za rfl (zp ziz ?_);intro gb10 w11 Bb10 Eb10 Gb10;have Db10_b5:Apart (some gb10) (some gb5):=Apart.of_lt (yp Bb5.lt) Gb10;have Db5_b10:=Db10_b5.symm;have Gb10:_≤gb10:=Nat.le_trans E.size Gb10;have GLb10:=Nat.le_trans LW.size Gb10;replace Bb5:=Bb5.extN Eb10 NotIn.nil;replace E:=E.trans Eb10.no;replace HF:=HF.cons (zj Gb10);replace E:=E.cons (some gb10);replace XLW:=Mut.grow XLW (fun k e=>Or.inr (Nat.le_trans LW.size ((zj Gb10) k e)));refine zq (qu kj rfl rfl Bb10 rfl rfl (Nat.le_of_ble_eq_true rfl) ?_);intro w12 Bx Eb10;replace Bb10:=Bx;replace Bb5:=Bb5.extN Eb10 (NotIn.cons Db5_b10 NotIn.nil);replace E:=E.step1 Eb10 Mut.head;refine yt ?_;refine zk 25 (.bool true) rfl ((by rw[hlen];rfl:(.bool (((((limbs j).length:Nat)):Int)==0):Value)=_)) (qb ?_)
 refine zq (qu kj rfl rfl Bb5 rfl rfl (Nat.le_of_ble_eq_true rfl) ?_);intro w13 Bx Eb5;replace Bb5:=Bx;replace Bb10:=Bb10.extN Eb5 (NotIn.cons Db10_b5 NotIn.nil);replace E:=E.step1 Eb5 (Mut.tail Mut.head);refine yb ?_;exact ⟨A1,c1,rfl,((HF.on E).here.2).mono S1,(LW.step E XLW).toBelow⟩
end
/-! ### what stands in the limbs -/
theorem nth_lim0 {j:Int} (h0:j≠0):nth (limbs j) 0=((j.natAbs%B18:Nat):Int):=by
 unfold nth;rw[vg,xx vd (by omega)];rfl
theorem lim_len1 {j:Int} (h0:j≠0) (h:j.natAbs<B18):(limbs j).length=1:=by
 rw[vg,xx vd (by omega),Nat.div_eq_of_lt h];rfl
theorem lim_pos {j:Int} (h0:j≠0):0<(limbs j).length:=by rw[vg];exact yez vd (by omega)
theorem pow_abs (i:Int) (n:Nat):(i^n).natAbs=i.natAbs^n:=Int.natAbs_pow i n
theorem pow_mono {i:Int} (h:1≤i.natAbs) {k n:Nat} (hk:k≤n):(i^k).natAbs≤(i^n).natAbs:=by
 rw[pow_abs,pow_abs];exact Nat.pow_le_pow_right h hk
section
variable (i j:Int) (A B:Option Addr) (c d:Nat) (w:World) (hi:i.natAbs<B18^30) (hj:j.natAbs<B18^30) (hx:Nums w A (limbs i)) (hy:Nums w B (limbs j))
include hi hj hx hy
theorem pow_l1 (h0:0<j) (hj2:j≤2000) (h2i:2≤i.natAbs) (h:i.natAbs<B18):Calls Tryz.prog 112 #[.agg #[.bool (decide (i<0)),.slice A (limbs i).length c],.agg #[.bool (decide (j<0)),.slice B (limbs j).length d]] w (vq w (outV true (i^j.toNat)) (outE true (i^j.toNat))):=by
 have hjb:j.natAbs<B18:=by unfold B18;omega
 have ejm:j.natAbs%B18=j.toNat:=by rw[Nat.mod_eq_of_lt hjb];omega
 have hd:decide (j<0)=false:=decide_eq_false (by omega);have hip:=lim_pos (j:=i) (by omega);have hjp:=lim_pos (j:=j) (by omega);have hlen:((limbs j).length:Int)≠0:=by omega
 have hleni:((limbs i).length:Int)≠0:=by omega
 obtain ⟨bx,ox,rfl,hbx,hcx⟩:=hx.2 hip;obtain ⟨by_,oy,rfl,hby,hcy⟩:=hy.2 hjp;have hc0:w.cell? ⟨bx,ox+0,none⟩=some (.int .u64 ((i.natAbs%B18:Nat):Int)):=by rw[hcx 0 hip,nth_lim0 (by omega)]
 have hd0:w.cell? ⟨by_,oy+0,none⟩=some (.int .u64 (((j.toNat:Nat):Int))):=by rw[hcy 0 hjp,nth_lim0 (by omega)];rw[ejm]
 refine zh Tryz.func112 rfl Tryz.ntmps112 rfl ?_;have HF:Per (No) w (fun _=>True):=Per.true_;have LW:=erx (No) w;have XLW:=grx (No) w;have E:=erx (No) w;replace HF:=HF.on E;replace LW:=LW.step E XLW;replace E:=erx (No) w;replace HF:=HF.and (Per.nums0 hx);replace HF:=HF.on E;replace LW:=LW.step E XLW;replace E:=erx (No) w;replace HF:=HF.and (Per.nums0 hy);replace HF:=HF.on E;replace LW:=LW.step E XLW;replace E:=erx (No) w;replace HF:=HF.and (Per.cell0 hc0);replace HF:=HF.on E;replace LW:=LW.step E XLW;replace E:=erx (No) w;replace HF:=HF.and (Per.cell0 hd0);refine zy ?_;refine za rfl (zn rfl ?_);intro gb1 w2 Bb1 Eb1 Gb1;have Gb1:_≤gb1:=Nat.le_trans E.size Gb1;have GLb1:=Nat.le_trans LW.size Gb1;replace E:=E.trans Eb1.no;replace HF:=HF.cons (zj Gb1);replace E:=E.cons (some gb1);replace XLW:=Mut.grow XLW (fun k e=>Or.inr (Nat.le_trans LW.size ((zj Gb1) k e)));replace HF:=HF.on E;replace LW:=LW.step E XLW;have SB:∀q9,No q9→Mut [(some gb1)] q9:=(Mut.skip Mut.nil_);replace HF:=HF.less SB;replace XLW:=fun k h=>XLW k (SB k h);clear SB;replace E:=erx (No) w2;replace HF:=HF.and (Per.blkN Bb1 NotIn.nil);refine za rfl (zn rfl ?_);intro gb3 w4 Bb3 Eb3 Gb3;have Gb3:_≤gb3:=Nat.le_trans E.size Gb3;have GLb3:=Nat.le_trans LW.size Gb3;replace E:=E.trans Eb3.no;replace HF:=HF.cons (zj Gb3);replace E:=E.cons (some gb3);replace XLW:=Mut.grow XLW (fun k e=>Or.inr (Nat.le_trans LW.size ((zj Gb3) k e)));replace HF:=HF.on E;replace LW:=LW.step E XLW;have SB:∀q9,No q9→Mut [(some gb3)] q9:=(Mut.skip Mut.nil_);replace HF:=HF.less SB;replace XLW:=fun k h=>XLW k (SB k h);clear SB;replace E:=erx (No) w4;replace HF:=HF.and (Per.blkN Bb3 NotIn.nil);refine za rfl (zp ziz ?_);intro gb5 w6 Bb5 Eb5 Gb5;have Gb5:_≤gb5:=Nat.le_trans E.size Gb5;have GLb5:=Nat.le_trans LW.size Gb5;replace E:=E.trans Eb5.no
 replace HF:=HF.cons (zj Gb5);replace E:=E.cons (some gb5);replace XLW:=Mut.grow XLW (fun k e=>Or.inr (Nat.le_trans LW.size ((zj Gb5) k e)));refine yu ?_;refine za rfl (zd en36 rfl ((qdk _ c _ hi (HF.on E).here.1.1.1.1.1.2).mono ?_));rintro e w7 ⟨rfl,hb⟩;refine ⟨_,rfl,?_⟩;have Ec:=Ext.of_below hb No;replace Bb5:=Bb5.extN Ec NotIn.nil;replace E:=E.trans Ec.no;refine qc ?_;refine onx rfl (zd en36 rfl ((qdk _ d _ hj (HF.on E).here.1.1.1.1.2).mono ?_));rintro e w8 ⟨rfl,hb⟩;refine ⟨_,rfl,?_⟩;have Ec:=Ext.of_below hb No;replace Bb5:=Bb5.extN Ec NotIn.nil;replace E:=E.trans Ec.no;refine jt ?_;refine zk 19 (.bool false) rfl ((by rw[hd]:(.bool (decide (j<0)):Value)=_)) (yk ?_);refine za rfl (zd en32 rfl ((zmv 1 _ (by decide) (by decide)).mono ?_));rintro e w9 ⟨A1,c1,rfl,o1,hb⟩;refine ⟨_,rfl,?_⟩;have XC:∀q9,(Mut [(some gb5)]) q9→q9<w8.heap.size:=(Mut.grow Mut.none_ (yp Bb5.lt));have SC:=Nat.le_trans LW.size E.size;have Ec:=Ext.of_below hb No;replace Bb5:=Bb5.extN Ec NotIn.nil;replace E:=E.trans Ec.no;have S1:=SC;replace HF:=HF.on E;replace LW:=LW.step E XLW;replace E:=erx (Mut [(some gb5)]) w9;replace HF:=HF.and (Per.ownX o1 XC);refine za rfl (zp ziz ?_);intro gb10 w11 Bb10 Eb10 Gb10;have Db10_b5:Apart (some gb10) (some gb5):=Apart.of_lt (yp Bb5.lt) Gb10;have Db5_b10:=Db10_b5.symm;have Gb10:_≤gb10:=Nat.le_trans E.size Gb10;have GLb10:=Nat.le_trans LW.size Gb10;replace Bb5:=Bb5.extN Eb10 NotIn.nil;replace E:=E.trans Eb10.no;replace HF:=HF.cons (zj Gb10);replace E:=E.cons (some gb10);replace XLW:=Mut.grow XLW (fun k e=>Or.inr (Nat.le_trans LW.size ((zj Gb10) k e)));refine zq (qu kj rfl rfl Bb10 rfl rfl (Nat.le_of_ble_eq_true rfl) ?_);intro w12 Bx Eb10;replace Bb10:=Bx;replace Bb5:=Bb5.extN Eb10 (NotIn.cons Db5_b10 NotIn.nil);replace E:=E.step1 Eb10 Mut.head;refine yt ?_
 refine zk 25 (.bool false) rfl ((by rw[beq_eq_false_iff_ne.2 hlen]:(.bool (((((limbs j).length:Nat)):Int)==0):Value)=_)) (yt ?_);refine zf 31 (.bool false) rfl ((by rw[beq_eq_false_iff_ne.2 hleni]:(.bool (((((limbs i).length:Nat)):Int)==0):Value)=_)) (yk ?_);have h1:((limbs i).length:Int)=1:=by rw[lim_len1 (by omega) h];rfl
 refine zf 36 (.bool true) rfl ((by rw[h1];rfl:(.bool (((((limbs i).length:Nat)):Int)==1):Value)=_)) (zy ?_);refine onx rfl (zi (j:=0) u22 qk rfl rfl rfl hip (onx rfl (yl u27 rfl rfl (HF.on E).here.1.1.1.1.2 (yk ?_))));refine zk 43 (.bool false) rfl ((by rw[Nat.mod_eq_of_lt h,beq_eq_false_iff_ne.2 (by omega)]:(.bool (((i.natAbs%B18:Nat):Int)==1):Value)=_)) (yt ?_);have h2:¬(1:Int)<((limbs j).length:Int):=by rw[lim_len1 (by omega) hjb];decide
 refine zf 61 (.bool false) rfl ((by rw[decide_eq_false h2]:(.bool (decide (1<((((limbs j).length:Nat)):Int))):Value)=_)) (zy ?_);refine onx rfl (zi (j:=0) u22 qk rfl rfl rfl hjp (onx rfl (yl u27 rfl rfl (HF.on E).here.1.1.1.2 (qb ?_))));refine zk 67 (.bool false) rfl ((by rw[decide_eq_false (by omega)]:(.bool (decide (2000<(((j.toNat:Nat):Int)))):Value)=_)) (yx ?_);refine za rfl (zi (j:=0) u22 qk rfl rfl rfl hjp (za rfl (yl u27 rfl rfl (HF.on E).here.1.1.1.2 (qb ?_))));have b1:(i^0).natAbs<B18^30:=by rw[Int.pow_zero];exact Nat.one_lt_pow (by decide) (by unfold B18;omega)
 have e0:i^0=1:=Int.pow_zero i;replace Bb10:Blk w12 gb10 26 #[.bool (decide (i^0<0)),.slice A1 (limbs (i^0)).length c1]:=by rw[e0];exact Bb10
 replace HF:=HF.on E;replace LW:=LW.step E XLW;replace E:=erx (Mut [(some gb10),(some gb5)]) w12;refine qw (ι:=Nat×Option Addr×Nat) (fun (k,A1,c1)=>[(2,.pointer (some ⟨gb1,0,none⟩)),(4,.pointer (some ⟨gb5,0,none⟩)),(6,.pointer (some ⟨gb10,0,none⟩)),(72,.int .u64 ((j.toNat:Nat):Int)),(73,.int .u64 ((k:Nat):Int))]) (fun (k,A1,c1) w'=>Ext (Mut [(some gb10),(some gb5)]) w12 w'∧Blk w' gb10 26 (#[.bool (decide (i^k<0)),.slice A1 (limbs (i^k)).length c1])∧Blk w' gb5 26 (#[.bool false,.slice none 0 0])∧(k≤j.toNat∧(i^k).natAbs<B18^30∧Own w' w.heap.size A1 c1 (limbs (i^k)))) (fun (k,A1,c1)=>j.toNat-k) (0,A1,c1) ⟨rfl,rfl,rfl,rfl,rfl,trivial⟩ ⟨Ext.refl _ _,(by exact Bb10),(by exact Bb5),⟨Nat.zero_le _,b1,by rw[e0];exact ((HF.on E).here.2).mono S1⟩⟩ ?_;have LTb10:=(yp Bb10.lt);have LTb5:=(yp Bb5.lt);rintro ⟨k,A1,c1⟩ w14 ⟨M13,Bb10,Bb5,⟨hk,hb1,hown⟩⟩;have XM13:Gro (Mut [(some gb10),(some gb5)]) (Mut [(some gb10),(some gb5)]) w12:=(Mut.grow (Mut.grow Mut.none_ (fun k e=>Or.inl ((Mut.tail Mut.head) k e))) (fun k e=>Or.inl (Mut.head k e)));replace E:=E.trans M13;replace HF:=HF.on E;replace LW:=LW.step E XLW;replace E:=erx (Mut [(some gb10),(some gb5)]) w14;clear LTb10;clear LTb5;replace HF:=HF.on E;replace LW:=LW.step E XLW;replace M13:=M13.step E XM13;replace E:=erx (Mut [(some gb10),(some gb5)]) w14;replace HF:=HF.and (Per.ownN hown (NotIn.cons (own_apart hown Bb10 (by decide)) (NotIn.cons (own_apart hown Bb5 (by decide)) NotIn.nil)));refine yb ?_;refine zx rfl (fun hlt=>?_) (fun hlt=>?_)
 ·
  have hlt:=of_decide_eq_true hlt;refine yx ?_;refine za rfl (zd en113 rfl ((mulI A1 _ c1 c _ hb1 hi ((HF.on E).here.2).nums (HF.on E).here.1.1.1.1.1.1.1.2).mono ?_));rintro e w15 ⟨A3,c3,rfl,o3,hb⟩;refine ⟨_,rfl,?_⟩;have XC:∀q9,(Mut [(some gb10),(some gb5)]) q9→q9<w14.heap.size:=(Mut.grow (Mut.grow Mut.none_ (yp Bb5.lt)) (yp Bb10.lt));have SC:=Nat.le_trans LW.size E.size;have Ec:=Ext.of_below hb No;replace Bb10:=Bb10.extN Ec NotIn.nil;replace Bb5:=Bb5.extN Ec NotIn.nil;replace E:=E.trans Ec.no;have S3:=SC;replace HF:=HF.on E;replace LW:=LW.step E XLW;replace M13:=M13.step E XM13;replace E:=erx (Mut [(some gb10),(some gb5)]) w15;replace HF:=HF.and (Per.ownX o3 XC);refine qc ?_;refine za rfl (zp ziz ?_);intro gb16 w17 Bb16 Eb16 Gb16;have Db16_b10:Apart (some gb16) (some gb10):=Apart.of_lt (yp Bb10.lt) Gb16;have Db10_b16:=Db16_b10.symm;have Db16_b5:Apart (some gb16) (some gb5):=Apart.of_lt (yp Bb5.lt) Gb16;have Db5_b16:=Db16_b5.symm;have Gb16:_≤gb16:=Nat.le_trans E.size Gb16;have GLb16:=Nat.le_trans LW.size Gb16;replace Bb10:=Bb10.extN Eb16 NotIn.nil;replace Bb5:=Bb5.extN Eb16 NotIn.nil;replace E:=E.trans Eb16.no;replace HF:=HF.cons (zj Gb16);replace E:=E.cons (some gb16);replace XLW:=Mut.grow XLW (fun k e=>Or.inr (Nat.le_trans LW.size ((zj Gb16) k e)));replace XM13:=Mut.grow XM13 (fun k e=>Or.inr (Nat.le_trans M13.size ((zj Gb16) k e)));refine zq (qu kj rfl rfl Bb16 rfl rfl (Nat.le_of_ble_eq_true rfl) ?_);intro w18 Bx Eb16;replace Bb16:=Bx;replace Bb10:=Bb10.extN Eb16 (NotIn.cons Db10_b16 NotIn.nil);replace Bb5:=Bb5.extN Eb16 (NotIn.cons Db5_b16 NotIn.nil);replace E:=E.step1 Eb16 Mut.head;refine zz ?_;refine zx rfl (fun q=>?_) (fun q=>?_)
  ·
   have e1:B18^30≤(i^j.toNat).natAbs:=by
    have h7:¬(i^k*i).natAbs<B18^30:=fun h9=>by rw[yix h9] at q;exact absurd q (by decide)
    have h8:=pow_mono (i:=i) (by omega) (show k+1≤j.toNat by omega);rw[Int.pow_succ] at h8;omega
   have e2:outE true (i^k*i)=7:=outE_big (by
    rcases Nat.lt_or_ge (i^k*i).natAbs (B18^30) with h9 | h9
    · rw[yix h9] at q;exact absurd q (by decide)
    · exact h9)
   refine zy ?_;refine za rfl (ye (cs:=#[.bool false,.slice none 0 0]) pl26 ziz rfl rfl (stp ?_));refine zq (qu kj rfl rfl Bb5 rfl rfl (Nat.le_of_ble_eq_true rfl) ?_);intro w19 Bx Eb5;replace Bb5:=Bx;replace Bb16:=Bb16.extN Eb5 (NotIn.cons Db16_b5 NotIn.nil);replace Bb10:=Bb10.extN Eb5 (NotIn.cons Db10_b5 NotIn.nil);replace E:=E.step1 Eb5 (Mut.tail (Mut.tail Mut.head));refine zz ?_;refine ew_set 5 (.int .i64 7) rfl ((by rw[e2]:(.int .i64 (outE true (i^k*i)):Value)=_)) (stp ?_);exact by rw[outV_big e1,outE_big e1];exact retErr_zero (LW.step E XLW).toBelow
  ·
   have h9:(i^k*i).natAbs<B18^30:=outE_zero (by simpa using q);have eV:outV true (i^k*i)=i^(k+1):=by rw[yhv h9,Int.pow_succ]
   refine qb ?_;refine zq (qu kj rfl rfl Bb10 rfl rfl (Nat.le_of_ble_eq_true rfl) ?_);intro w20 Bx Eb10;replace Bb10:=Bx;replace Bb16:=Bb16.extN Eb10 (NotIn.cons Db16_b10 NotIn.nil);replace Bb5:=Bb5.extN Eb10 (NotIn.cons Db5_b10 NotIn.nil);replace E:=E.step1 Eb10 (Mut.tail Mut.head);refine qb ?_;refine za rfl (zr rfl rfl (wrap_u64 (by omega)) (zy ?_));rw[eV] at Bb10;exact qf (k+1,A3,c3) (by show j.toNat-(k+1)<j.toNat-k;omega) ⟨rfl,rfl,rfl,rfl,rfl,trivial⟩ ⟨M13.step E XM13,(by exact Bb10),(by exact Bb5),by omega,by rw[Int.pow_succ];exact h9,by rw[←eV];exact ((HF.on E).here.2).mono S3⟩
 ·
  have hge:=of_decide_eq_false hlt;obtain rfl:k=j.toNat:=by omega
  refine yx ?_;refine zq (qu kj rfl rfl Bb5 rfl rfl (Nat.le_of_ble_eq_true rfl) ?_);intro w21 Bx Eb5;replace Bb5:=Bx;replace Bb10:=Bb10.extN Eb5 (NotIn.cons Db10_b5 NotIn.nil);replace E:=E.step1 Eb5 (Mut.tail Mut.head);replace HF:=HF.on E;replace LW:=LW.step E XLW;have SB:∀q9,Mut [(some gb10)] q9→Mut [(some gb10),(some gb5)] q9:=(Mut.keep (Mut.skip Mut.nil_));replace HF:=HF.less SB;replace XLW:=fun k h=>XLW k (SB k h);clear SB;replace E:=erx (Mut [(some gb10)]) w21;replace HF:=HF.and (Per.blkN Bb5 (NotIn.cons Db5_b10 NotIn.nil));refine yk ?_;exact ⟨A1,c1,by rw[yhv hb1,yix hb1];rfl,by rw[yhv hb1];exact (HF.on E).here.1.2,(LW.step E XLW).toBelow⟩
end
end Go.Proofs.YtebjkmjfcijebaaGreat
namespace Go.Proofs.YtebjkmjfcijebaaGreat
open Go.RowKit
attribute [local irreducible] OW RS CW EW
set_option maxHeartbeats 20000000
theorem ygq {z:Int} (h:z.natAbs<9223372036854775809):z.natAbs<B18^30:=Nat.lt_of_lt_of_le (Nat.lt_of_lt_of_le h (by decide)) (Nat.le_trans (two_mono2 (k:=64) (K:=1024) rfl rfl (by decide)) B18_30)
theorem two_natAbs (k:Nat):((2:Int)^k).natAbs=2^k:=by rw[Int.natAbs_pow];rfl
theorem two_posI (k:Nat):(0:Int)<2^k:=Int.pow_pos (by decide)
theorem two_neg (k:Nat):decide ((2:Int)^k<0)=false:=decide_eq_false (by have:=two_posI k;omega)
theorem two_30 {k:Nat} (h:k≤1023):((2:Int)^k).natAbs<B18^30:=by
 rw[two_natAbs];exact Nat.lt_of_lt_of_le (Nat.pow_lt_pow_right (by decide) (show k<1024 by omega)) B18_30
theorem two_pow (k:Nat) (A B:Option Addr) (c d:Nat) (w:World) (hk:k≤1023) (hx:Nums w A (limbs 2)) (hy:Nums w B (limbs ((k:Nat):Int))) :
 Calls Tryz.prog 112 #[.agg #[.bool (decide ((2:Int)<0)),.slice A (limbs 2).length c],.agg #[.bool (decide (((k:Nat):Int)<0)),.slice B (limbs ((k:Nat):Int)).length d]] w (vq w ((2:Int)^k) 0):=by
 rcases Nat.eq_zero_or_pos k with h0 | h0
 · have h:=pow_zero 2 ((k:Nat):Int) A B c d w (ygq (by decide)) (ygq (by omega)) hx hy (by omega);rw[h0] at h ⊢;exact h
 · have h:=pow_l1 2 ((k:Nat):Int) A B c d w (ygq (by decide)) (ygq (by omega)) hx hy (by omega) (by omega) (by decide) (by decide);rw[Int.toNat_natCast,yhv (two_30 hk),yix (two_30 hk)] at h;exact h
theorem dq_whole {a M k:Nat} (hM:M=ve a*2^k) {n1:Bool} {m0:Int} (h0:m0=if ng a then -((M:Nat):Int) else ((M:Nat):Int)) (h1:n1=decide (m0<0)):dq n1 false M (2^k)=xi a:=by
 have hp:=zik k;have e1:M/2^k=ve a:=by rw[hM];exact Nat.mul_div_cancel _ hp
 have e2:M%2^k=0:=by rw[hM];exact Nat.mul_mod_left _ _
 unfold dq xi;rw[e1,e2,h1,h0];by_cases hz:ve a=0
 · rw[hz] at hM ⊢;rw[Nat.zero_mul] at hM;subst hM;cases ng a<;>simp
 · have hMp:0<M:=by rw[hM];exact Nat.mul_pos (by omega) hp
   cases ng a with
   | true=>simp only[if_true];rw[decide_eq_true (by omega)];rfl
   | false=>simp only[Bool.false_eq_true,if_false];rw[decide_eq_false (by omega)];rfl
theorem pos_zero {x P:Nat} (hP:0<P) (h:0=x*P):x=0:=by
 rcases Nat.eq_zero_or_pos x with h' | h'
 · exact h'
 · have:=Nat.mul_pos h' hP;omega
theorem val_gen_hi {m e W P n k M:Nat} (hP:P=2^1074) (h:m*2^e=W*P*2^n) (hc:1074+n≤e) (hk:k=e-(1074+n)) (hM:M=m):W=M*2^k:=by
 have h1:P*2^n=2^(1074+n):=by rw[hP,Nat.pow_add]
 rw[Nat.mul_assoc,h1,qgk hc] at h;rw[hM,hk];exact (Nat.eq_of_mul_eq_mul_right (zik _) h).symm
theorem val_gen_lo {m e W P n k M:Nat} (hP:P=2^1074) (h:m*2^e=W*P*2^n) (hc:e≤1074+n) (hk:k=1074+n-e) (hM:M=m):M=W*2^k:=by
 have h1:P*2^n=2^(1074+n):=by rw[hP,Nat.pow_add]
 rw[Nat.mul_assoc,h1,qgk hc W] at h;rw[hM,hk];exact Nat.eq_of_mul_eq_mul_right (zik _) h
theorem val_hi {m e W n k M:Nat} (h:m*2^e=W*2^1074*2^n) (hc:1074+n≤e) (hk:k=e-(1074+n)) (hM:M=m):W=M*2^k:=val_gen_hi rfl h hc hk hM
theorem val_lo {m e W n k M:Nat} (h:m*2^e=W*2^1074*2^n) (hc:e≤1074+n) (hk:k=1074+n-e) (hM:M=m):M=W*2^k:=val_gen_lo rfl h hc hk hM
theorem div_two {a M k:Nat} {m0:Int} (hM:M=ve a*2^k) (h0:m0=if ng a then -((M:Nat):Int) else ((M:Nat):Int)) (hMb:M<9223372036854775808) (hk:k≤1023) (A B:Option Addr) (c d:Nat) (w:World) (hx:Nums w A (limbs m0)) (hy:Nums w B (limbs ((2:Int)^k))) :
 Calls Tryz.prog 114 #[.agg #[.bool (decide (m0<0)),.slice A (limbs m0).length c],.agg #[.bool (decide ((2:Int)^k<0)),.slice B (limbs ((2:Int)^k)).length d]] w fun e w'=>∃A5 c5 B6 c6 r,e= .returned (.tuple #[.agg #[.bool (decide (xi a<0)),.slice A5 (limbs (xi a)).length c5],.agg #[.bool (decide (r<0)),.slice B6 (limbs r).length c6],.int .i64 0])∧Own w' w.heap.size A5 c5 (limbs (xi a))∧Below w.heap.size w w':=by
 have hma:m0.natAbs=M:=by rw[h0];split<;>omega
 have h:=divmod_ok A B c d (limbs m0) (limbs ((2:Int)^k)) w (decide (m0<0)) (decide ((2:Int)^k<0)) hx hy (jw (ygq (by omega))) (jw (two_30 hk)) (lim_pos (by have:=two_posI k;omega));rw[vg m0,vg ((2:Int)^k),kf vd,kf vd,←vg,←vg,hma,two_natAbs,two_neg,dq_whole hM h0 rfl] at h;rw[two_neg];exact h.mono fun e w' ⟨A5,c5,B6,c6,he,o1,o2,hb,_⟩=>⟨A5,c5,B6,c6,_,he,o1,hb⟩
section
variable (w:World) (a:Nat) (ha:a<18446744073709551616)
theorem yxq (hf:rg a<9218868437227405312):Calls Tryz.prog 103 #[.float .f64 a] w fun e w'=>e= .returned (.float .f64 (od .zero a))∧Below w.heap.size w w':=by
 refine zh Tryz.func103 rfl Tryz.ntmps103 rfl ?_;have LW:=erx (No) w;have XLW:=grx (No) w;have E:=erx (No) w;refine zz ?_;refine za rfl (ow_round ex115 rfl ((isN_read a).trans (gi hf)) (yb ?_));exact ⟨rfl,(LW.step E XLW).toBelow⟩
include ha
section
variable (hf:rg a<9218868437227405312)
include hf
theorem whole_zero (h0:ve a=0):Calls Tryz.prog 102 #[.int .u64 ((a:Nat):Int)] w (vq w (xi a) 0):=by
 obtain ⟨q,hq1,hq2,hq3⟩:=ydv hf;have hq0:q=0:=qbv.1 (zero_p hq1 h0);obtain ⟨r1,r2,r3⟩:=gg (ng a) q (by omega);obtain ⟨M,hMd⟩:∃M,M=0:=⟨_,rfl⟩;obtain ⟨k,hk⟩:∃k,k=53:=⟨_,rfl⟩;obtain ⟨m0,hm0⟩:∃m0:Int,m0=if ng a then -((M:Nat):Int) else ((M:Nat):Int):=⟨_,rfl⟩
 have hM:M=ve a*2^k:=by rw[h0,Nat.zero_mul,hMd]
 have hwz:ve (Ieee.double.word (ng a) q)=0:=(yax (ng a) (by omega) hq1).trans h0;have hfz:floatToIntVal .f64 (Ieee.double.word (ng a) q) .i64=some m0:=by
  rw[f2i_i64 (by rw[r1];omega) (by rw[hwz];decide),hwz,r2,hm0,hMd]
 refine zh Tryz.func102 rfl Tryz.ntmps102 rfl ?_;have HF:Per (No) w (fun _=>True):=Per.true_;have LW:=erx (No) w;have XLW:=grx (No) w;have E:=erx (No) w;refine zy ?_;refine za rfl (zp ziz ?_);intro gb1 w2 Bb1 Eb1 Gb1;have Gb1:_≤gb1:=Nat.le_trans E.size Gb1;have GLb1:=Nat.le_trans LW.size Gb1;replace E:=E.trans Eb1.no;replace HF:=HF.cons (zj Gb1);replace E:=E.cons (some gb1);replace XLW:=Mut.grow XLW (fun k e=>Or.inr (Nat.le_trans LW.size ((zj Gb1) k e)));refine yb ?_;refine za rfl (qp (b:=a) zzz rfl (qa ?_));refine za rfl (xf rfl rfl (qc ?_));refine zk 18 (.bool false) rfl ((by rw[jj,gi hf]:(.bool (jf a a !=some .eq):Value)=_)) (qb ?_);refine za rfl (zd en91 rfl ((jm _ a ha).mono ?_));rintro e w3 ⟨rfl,hb⟩;refine ⟨_,rfl,?_⟩;have Ec:=Ext.of_below hb No;replace Bb1:=Bb1.extN Ec NotIn.nil;replace E:=E.trans Ec.no;refine zf 25 (.bool false) rfl ((by rw[decide_eq_false (by omega)]:(.bool (decide (rg a=9218868437227405312)):Value)=_)) (zz ?_);refine za rfl (zd en103 rfl ((yxq _ a hf).mono ?_));rintro e w4 ⟨rfl,hb⟩;refine ⟨_,rfl,?_⟩;have Ec:=Ext.of_below hb No;replace Bb1:=Bb1.extN Ec NotIn.nil;replace E:=E.trans Ec.no;refine zf 29 (.float .f64 (Ieee.double.word (ng a) q)) rfl ((by rw[hq3]:(.float .f64 (od .zero a):Value)=_)) (za rfl (zd en92 rfl ((Frexp_zero _ (Ieee.double.word (ng a) q) r3 (by rw[r1];exact hq0)).mono ?_)));rintro e w5 ⟨rfl,hb⟩;refine ⟨_,rfl,?_⟩;have Ec:=Ext.of_below hb No;replace Bb1:=Bb1.extN Ec NotIn.nil;replace E:=E.trans Ec.no;refine zz ?_;refine za rfl (zd en94 rfl ((Ldexp_zero _ (Ieee.double.word (ng a) q) r3 (by rw[r1];exact hq0) 53).mono ?_));rintro e w6 ⟨rfl,hb⟩;refine ⟨_,rfl,?_⟩;have Ec:=Ext.of_below hb No;replace Bb1:=Bb1.extN Ec NotIn.nil;replace E:=E.trans Ec.no
 refine za rfl (yzz (z:=m0) Tryz.underlying3 (by rw[u98];rfl) rfl hfz (za rfl (zd en32 rfl ((zmv m0 _ (by rw[hm0];split<;>omega) (by rw[hm0];split<;>omega)).mono ?_))));rintro e w7 ⟨A1,c1,rfl,o1,hb⟩;refine ⟨_,rfl,?_⟩;have XC:∀q9,(Mut [(some gb1)]) q9→q9<w6.heap.size:=(Mut.grow Mut.none_ (yp Bb1.lt));have Ec:=Ext.of_below hb No;replace Bb1:=Bb1.extN Ec NotIn.nil;replace E:=E.trans Ec.no;replace HF:=HF.on E;replace LW:=LW.step E XLW;replace E:=erx (Mut [(some gb1)]) w7;replace HF:=HF.and (Per.own o1 XC);refine za rfl (zp ziz ?_);intro gb8 w9 Bb8 Eb8 Gb8;have Db8_b1:Apart (some gb8) (some gb1):=Apart.of_lt (yp Bb1.lt) Gb8;have Db1_b8:=Db8_b1.symm;have Gb8:_≤gb8:=Nat.le_trans E.size Gb8;have GLb8:=Nat.le_trans LW.size Gb8;replace Bb1:=Bb1.extN Eb8 NotIn.nil;replace E:=E.trans Eb8.no;replace HF:=HF.cons (zj Gb8);replace E:=E.cons (some gb8);replace XLW:=Mut.grow XLW (fun k e=>Or.inr (Nat.le_trans LW.size ((zj Gb8) k e)));refine zq (qu kj rfl rfl Bb8 rfl rfl (Nat.le_of_ble_eq_true rfl) ?_);intro w10 Bx Eb8;replace Bb8:=Bx;replace Bb1:=Bb1.extN Eb8 (NotIn.cons Db1_b8 NotIn.nil);replace E:=E.step1 Eb8 Mut.head;refine qb ?_;refine za rfl (zd en32 rfl ((zmv 2 _ (by decide) (by decide)).mono ?_));rintro e w11 ⟨A2,c2,rfl,o2,hb⟩;refine ⟨_,rfl,?_⟩;have XC:∀q9,(Mut [(some gb8),(some gb1)]) q9→q9<w10.heap.size:=(Mut.grow (Mut.grow Mut.none_ (yp Bb1.lt)) (yp Bb8.lt));have Ec:=Ext.of_below hb No;replace Bb8:=Bb8.extN Ec NotIn.nil;replace Bb1:=Bb1.extN Ec NotIn.nil;replace E:=E.trans Ec.no;replace HF:=HF.on E;replace LW:=LW.step E XLW;replace E:=erx (Mut [(some gb8),(some gb1)]) w11;replace HF:=HF.and (Per.own o2 XC);refine za rfl (zp ziz ?_);intro gb12 w13 Bb12 Eb12 Gb12;have Db12_b8:Apart (some gb12) (some gb8):=Apart.of_lt (yp Bb8.lt) Gb12
 have Db8_b12:=Db12_b8.symm;have Db12_b1:Apart (some gb12) (some gb1):=Apart.of_lt (yp Bb1.lt) Gb12;have Db1_b12:=Db12_b1.symm;have Gb12:_≤gb12:=Nat.le_trans E.size Gb12;have GLb12:=Nat.le_trans LW.size Gb12;replace Bb8:=Bb8.extN Eb12 NotIn.nil;replace Bb1:=Bb1.extN Eb12 NotIn.nil;replace E:=E.trans Eb12.no;replace HF:=HF.cons (zj Gb12);replace E:=E.cons (some gb12);replace XLW:=Mut.grow XLW (fun k e=>Or.inr (Nat.le_trans LW.size ((zj Gb12) k e)));refine zq (qu kj rfl rfl Bb12 rfl rfl (Nat.le_of_ble_eq_true rfl) ?_);intro w14 Bx Eb12;replace Bb12:=Bx;replace Bb8:=Bb8.extN Eb12 (NotIn.cons Db8_b12 NotIn.nil);replace Bb1:=Bb1.extN Eb12 (NotIn.cons Db1_b12 NotIn.nil);replace E:=E.step1 Eb12 Mut.head;replace HF:=HF.on E;replace LW:=LW.step E XLW;have SB:∀q9,Mut [(some gb8),(some gb1)] q9→Mut [(some gb12),(some gb8),(some gb1)] q9:=(Mut.skip (Mut.keep (Mut.keep Mut.nil_)));replace HF:=HF.less SB;replace XLW:=fun k h=>XLW k (SB k h);clear SB;replace E:=erx (Mut [(some gb8),(some gb1)]) w14;replace HF:=HF.and (Per.blkN Bb12 (NotIn.cons Db12_b8 (NotIn.cons Db12_b1 NotIn.nil)));refine yb ?_;refine za rfl (qz (z:=(-53)) rfl rfl (by kernel_rfl) (zoz ?_));have OY:∀q9,(Mut (ybq [])) q9→q9<(World.drew w14).heap.size→(Mut [(some gb8),(some gb1)]) q9:=fun k h _=>(Mut.none_) k h;refine yv (Mut [(some gb8),(some gb1)]) (Mut.grow (Mut.grow Mut.none_ (yp Bb1.lt)) (yp Bb8.lt)) [⟨8,9,26,#[.bool false,.slice none 0 0]⟩] [] (jh [Fx.of (.agg #[.bool (decide ((2:Int)<0)),.slice A2 (limbs 2).length c2]),
  Fx.of (.int .i64 (-53)),
  Fx.of (.int .i64 ((k:Nat):Int)),
  ⟨(Option Addr×Nat),fun (A3,c3)=>.agg #[.bool (decide (((k:Nat):Int)<0)),.slice A3 (limbs ((k:Nat):Int)).length c3],fun (A3,c3) b=>(Nums b A3 (limbs ((k:Nat):Int)))⟩,
  ⟨(Option Addr×Nat),fun (A4,c4)=>.tuple #[.agg #[.bool (decide ((2:Int)^k<0)),.slice A4 (limbs ((2:Int)^k)).length c4],.int .i64 0],fun (A4,c4) b=>(Nums b A4 (limbs ((2:Int)^k)))⟩,
  ⟨(Option Addr×Nat),fun (A4,c4)=>.tuple #[.agg #[.bool (decide ((2:Int)^k<0)),.slice A4 (limbs ((2:Int)^k)).length c4],.int .i64 0],fun (A4,c4) b=>(Nums b A4 (limbs ((2:Int)^k)))⟩,
  ⟨(Option Addr×Nat),fun (A4,c4)=>.agg #[.bool (decide ((2:Int)^k<0)),.slice A4 (limbs ((2:Int)^k)).length c4],fun (A4,c4) b=>(Nums b A4 (limbs ((2:Int)^k)))⟩,
  Fx.of (.int .i64 0),
  Fx.of undef,
  Fx.of undef,
  Fx.of (.int .i64 0)]) qt rfl trivial (fun _ h=>by cases h) ?_ ?_
 · refine ⟨arm,arm,?_,?_,?_,?_,?_,?_,?_,?_,arm,trivial⟩
   · intro vs X wq K;obtain ⟨_,e1,k1⟩:=K.dep 1 rfl rfl rfl;refine zc 61 _ rfl e1 ?_;exact yyv (z:=53) rfl (by kernel_rfl) ⟨Below.refl _ _,Left.of (by rw[hk];rfl)⟩
   · intro vs X wq K;have XN:=K.2.1;obtain ⟨_,e2,k2⟩:=K.dep 2 rfl rfl rfl;refine zc 62 _ rfl e2 (zd en32 rfl ((zmv ((k:Nat):Int) _ (by omega) (by omega)).mono ?_));rintro e w2 ⟨A3,c3,rfl,o3,hb⟩;exact ⟨_,rfl,hb,⟨(A3,c3),rfl,Per.own o3 XN⟩⟩
   · intro vs X wq K;have LE:=K.1;have XN:=K.2.1;obtain ⟨_,e0,k0⟩:=K.dep 0 rfl rfl rfl;refine zc 60 _ rfl e0 ?_;obtain ⟨⟨A3,c3⟩,e3,k3⟩:=K.dep 3 rfl rfl rfl;refine zc 63 _ rfl e3 (zd en112 rfl ((two_pow k A2 A3 c2 c3 _ (by omega) (HF.on (E.drew.trans (LE.mono OY))).here.1.2 k3.here).mono ?_));rintro e w2 ⟨A4,c4,rfl,o4,hb⟩;exact ⟨_,rfl,hb,⟨(A4,c4),rfl,Per.own o4 XN⟩⟩
   · intro vs X wq K;obtain ⟨⟨A4,c4⟩,e4,k4⟩:=K.dep 4 rfl rfl rfl;refine zc 64 _ rfl e4 ?_;exact vk rfl ⟨Below.refl _ _,⟨⟨A4,c4⟩,rfl,(k4.map (fun _ h=>h))⟩⟩
   · intro vs X wq K;obtain ⟨⟨A4,c4⟩,e5,k5⟩:=K.dep 5 rfl rfl rfl;refine zc 59 _ rfl e5 ?_;exact oj rfl rfl ⟨Below.refl _ _,⟨⟨A4,c4⟩,rfl,(k5.map (fun _ h=>h))⟩⟩
   · intro vs X wq K;obtain ⟨⟨A4,c4⟩,e5,k5⟩:=K.dep 5 rfl rfl rfl;refine zc 59 _ rfl e5 ?_;exact oj rfl rfl ⟨Below.refl _ _,Left.of rfl⟩
   · exact ⟨_,_,_,_,_,rfl,ziz,rfl⟩
   · refine ⟨_,_,_,_,_,rfl,rfl,rfl,kj,fun vs X wq K=>?_⟩;obtain ⟨⟨A4,c4⟩,e0,_⟩:=K.dep 6 rfl rfl rfl;exact ⟨vs 6,rfl,by rw[e0];rfl,by rw[e0];rfl⟩
 intro vs w15 LE AO AL AF AA;have LBb8:=Bb8;have LBb1:=Bb1;replace Bb8:=Bb8.drew.extN LE NotIn.nil;replace Bb1:=Bb1.drew.extN LE NotIn.nil;replace E:=E.drew.trans (LE.mono OY);obtain ⟨⟨A4,c4⟩,e6,k6⟩:=AL.2.2.2.2.2.2.1;replace HF:=HF.on E;replace LW:=LW.step E XLW;replace E:=erx (Mut [(some gb8),(some gb1)]) w15;replace HF:=HF.and ((k6.map (fun _ h=>h):Per (Mut [(some gb8),(some gb1)]) w15 (fun b=>Nums b A4 (limbs ((2:Int)^k)))));obtain ⟨gb16,v0,y0,qb16,Gb16,Bb16,ey,ev0⟩:=AF.1;cases ey
 obtain rfl:vs 6=v0:=Option.some.inj ev0;rw[e6] at Bb16;have Db16_b8:Apart (some gb16) (some gb8):=Apart.of_lt (yp LBb8.lt) Gb16;have Db8_b16:=Db16_b8.symm;have Db16_b1:Apart (some gb16) (some gb1):=Apart.of_lt (yp LBb1.lt) Gb16;have Db1_b16:=Db16_b1.symm;replace HF:=HF.on E;replace LW:=LW.step E XLW;replace E:=erx (Mut [(some gb8),(some gb1)]) w15;replace HF:=HF.and ((Per.blkN Bb16 (NotIn.cons Db16_b8 (NotIn.cons Db16_b1 NotIn.nil)):Per (Mut [(some gb8),(some gb1)]) w15 (fun b=>Blk b gb16 26 #[.bool (decide ((2:Int)^k<0)),.slice A4 (limbs ((2:Int)^k)).length c4])));have e8:=qb16;refine qe (τ:=[(2,_),(3,_),(7,_),(11,.pointer (some ⟨gb16,0,none⟩))]) ⟨rfl,rfl,rfl,congrArg some e8,trivial⟩ ?_;clear AL AF AA LE AO OY e6 e8 k6 LBb8 LBb1;refine yk ?_;refine za rfl (zd en114 rfl ((div_two hM hm0 (by omega) (by omega) A1 A4 c1 c4 _ (HF.on E).here.1.1.1.1.2 (HF.on E).here.1.2).mono ?_));rintro e w17 ⟨A5,c5,B6,c6,r,rfl,o5,hb⟩;refine ⟨_,rfl,?_⟩;have XC:∀q9,(Mut [(some gb8),(some gb1)]) q9→q9<w15.heap.size:=(Mut.grow (Mut.grow Mut.none_ (yp Bb1.lt)) (yp Bb8.lt));have SC:=Nat.le_trans LW.size E.size;have Ec:=Ext.of_below hb No;replace Bb8:=Bb8.extN Ec NotIn.nil;replace Bb1:=Bb1.extN Ec NotIn.nil;replace E:=E.trans Ec.no;have hS:=SC;replace HF:=HF.on E;replace LW:=LW.step E XLW;replace E:=erx (Mut [(some gb8),(some gb1)]) w17;replace HF:=HF.and (Per.ownX o5 XC);refine qb ?_;refine za rfl (zp ziz ?_);intro gb18 w19 Bb18 Eb18 Gb18;have Db18_b8:Apart (some gb18) (some gb8):=Apart.of_lt (yp Bb8.lt) Gb18;have Db8_b18:=Db18_b8.symm;have Db18_b1:Apart (some gb18) (some gb1):=Apart.of_lt (yp Bb1.lt) Gb18;have Db1_b18:=Db18_b1.symm;have Gb18:_≤gb18:=Nat.le_trans E.size Gb18;have GLb18:=Nat.le_trans LW.size Gb18;replace Bb8:=Bb8.extN Eb18 NotIn.nil;replace Bb1:=Bb1.extN Eb18 NotIn.nil
 replace E:=E.trans Eb18.no;replace HF:=HF.cons (zj Gb18);replace E:=E.cons (some gb18);replace XLW:=Mut.grow XLW (fun k e=>Or.inr (Nat.le_trans LW.size ((zj Gb18) k e)));refine za rfl (zp ziz ?_);intro gb20 w21 Bb20 Eb20 Gb20;have Db20_b18:Apart (some gb20) (some gb18):=Apart.of_lt (yp Bb18.lt) Gb20;have Db18_b20:=Db20_b18.symm;have Db20_b8:Apart (some gb20) (some gb8):=Apart.of_lt (yp Bb8.lt) Gb20;have Db8_b20:=Db20_b8.symm;have Db20_b1:Apart (some gb20) (some gb1):=Apart.of_lt (yp Bb1.lt) Gb20;have Db1_b20:=Db20_b1.symm;have Gb20:_≤gb20:=Nat.le_trans E.size Gb20;have GLb20:=Nat.le_trans LW.size Gb20;replace Bb18:=Bb18.extN Eb20 NotIn.nil;replace Bb8:=Bb8.extN Eb20 NotIn.nil;replace Bb1:=Bb1.extN Eb20 NotIn.nil;replace E:=E.trans Eb20.no;replace HF:=HF.cons (zj Gb20);replace E:=E.cons (some gb20);replace XLW:=Mut.grow XLW (fun k e=>Or.inr (Nat.le_trans LW.size ((zj Gb20) k e)));refine zq (qu kj rfl rfl Bb18 rfl rfl (Nat.le_of_ble_eq_true rfl) ?_);intro w22 Bx Eb18;replace Bb18:=Bx;replace Bb20:=Bb20.extN Eb18 (NotIn.cons Db20_b18 NotIn.nil);replace Bb8:=Bb8.extN Eb18 (NotIn.cons Db8_b18 NotIn.nil);replace Bb1:=Bb1.extN Eb18 (NotIn.cons Db1_b18 NotIn.nil);replace E:=E.step1 Eb18 (Mut.tail Mut.head);replace HF:=HF.on E;replace LW:=LW.step E XLW;have SB:∀q9,Mut [(some gb20),(some gb8),(some gb1)] q9→Mut [(some gb20),(some gb18),(some gb8),(some gb1)] q9:=(Mut.keep (Mut.skip (Mut.keep (Mut.keep Mut.nil_))));replace HF:=HF.less SB;replace XLW:=fun k h=>XLW k (SB k h);clear SB;replace E:=erx (Mut [(some gb20),(some gb8),(some gb1)]) w22;replace HF:=HF.and (Per.blkN Bb18 (NotIn.cons Db18_b20 (NotIn.cons Db18_b8 (NotIn.cons Db18_b1 NotIn.nil))));refine zq (qu kj rfl rfl Bb20 rfl rfl (Nat.le_of_ble_eq_true rfl) ?_);intro w23 Bx Eb20;replace Bb20:=Bx;replace Bb8:=Bb8.extN Eb20 (NotIn.cons Db8_b20 NotIn.nil)
 replace Bb1:=Bb1.extN Eb20 (NotIn.cons Db1_b20 NotIn.nil);replace E:=E.step1 Eb20 Mut.head;replace HF:=HF.on E;replace LW:=LW.step E XLW;have SB:∀q9,Mut [(some gb8),(some gb1)] q9→Mut [(some gb20),(some gb8),(some gb1)] q9:=(Mut.skip (Mut.keep (Mut.keep Mut.nil_)));replace HF:=HF.less SB;replace XLW:=fun k h=>XLW k (SB k h);clear SB;replace E:=erx (Mut [(some gb8),(some gb1)]) w23;replace HF:=HF.and (Per.blkN Bb20 (NotIn.cons Db20_b8 (NotIn.cons Db20_b1 NotIn.nil)));refine yb ?_;refine zq (qu kj rfl rfl Bb1 rfl rfl (Nat.le_of_ble_eq_true rfl) ?_);intro w24 Bx Eb1;replace Bb1:=Bx;replace Bb8:=Bb8.extN Eb1 (NotIn.cons Db8_b1 NotIn.nil);replace E:=E.step1 Eb1 (Mut.tail Mut.head);replace HF:=HF.on E;replace LW:=LW.step E XLW;have SB:∀q9,Mut [(some gb8)] q9→Mut [(some gb8),(some gb1)] q9:=(Mut.keep (Mut.skip Mut.nil_));replace HF:=HF.less SB;replace XLW:=fun k h=>XLW k (SB k h);clear SB;replace E:=erx (Mut [(some gb8)]) w24;replace HF:=HF.and (Per.blkN Bb1 (NotIn.cons Db1_b8 NotIn.nil));refine yk ?_;exact ⟨A5,c5,rfl,((HF.on E).here.1.1.1.2).mono hS,(LW.step E XLW).toBelow⟩
/-! ### a whole number that is not nought -/
theorem whole_num (h0:ve a≠0):Calls Tryz.prog 102 #[.int .u64 ((a:Nat):Int)] w (vq w (xi a) 0):=by
 obtain ⟨q,hq1,hq2,hq3⟩:=ydv hf;have hqf:q<9218868437227405312:=by omega
 have hq0:q≠0:=fun e=>by
  subst e;rw[zaz] at hq1;exact h0 (pos_zero (zik 1074) hq1)
 obtain ⟨r1,r2,r3⟩:=gg (ng a) q (by omega);obtain ⟨T,hT⟩:∃T,T=Ieee.double.word (ng a) q:=⟨_,rfl⟩;have hT1:rg T=q:=by rw[hT,r1]
 have hT2:ng T=ng a:=by rw[hT,r2]
 obtain ⟨F,hF⟩:∃F,F=frF T:=⟨_,rfl⟩;have hmn:=mg_nr hq0;have hFp:rg F=4602678819172646912+(mg (nr q)-4503599627370496)∧ng F=ng a∧F<18446744073709551616:=by
  rw[hF,frF,hT1,hT2];exact gg _ _ (by omega)
 obtain ⟨fq1,fq2⟩:=fullQ (r:=q) hq0;have hFv:vl (rg F)=mg (nr q)*2^1021:=by
  rw[hFp.1,←frF_pos hqf];exact (frF_parts hqf hq0).2.2
 have fq3:vl (1074*4503599627370496+mg (nr q))=vl (rg F)*2^53:=by rewrite [fq1,hFv];exact yyq (p:=1074) (q:=1021) (s:=53) (by decide) _
 obtain ⟨M,hMd⟩:∃M,M=mg (nr q):=⟨_,rfl⟩;obtain ⟨m0,hm0⟩:∃m0:Int,m0=if ng a then -((M:Nat):Int) else ((M:Nat):Int):=⟨_,rfl⟩
 have fw:=gg (ng F) (1074*4503599627370496+mg (nr q)) (by omega);have hwM:ve (Ieee.double.word (ng F) (1074*4503599627370496+mg (nr q)))=M:=by rw[hMd];exact yax (ng F) fq2 fq1
 have hfz:floatToIntVal .f64 (Ieee.double.word (ng F) (1074*4503599627370496+mg (nr q))) .i64=some m0:=by
  rw[f2i_i64 (by rw[fw.1];exact fq2) (by rw[hwM];omega),hwM,fw.2.1,hFp.2.1,hm0]
 have hE:frE T=((ex (nr q):Nat):Int)-1021-((nd q:Nat):Int):=by
  have:=frE_pos hqf;rw[←this];unfold frE;rw[hT1,(ygv (r:=q) (by omega)).1]
 have hval:=nr_value hq0;rw[hq1] at hval;have hxn:ex (nr q)≤2045:=by have:=yiz hq0 hqf;unfold ex;split<;>omega
 have hnd:nd q≤52:=by unfold nd;split<;>omega
 refine zh Tryz.func102 rfl Tryz.ntmps102 rfl ?_;have HF:Per (No) w (fun _=>True):=Per.true_;have LW:=erx (No) w;have XLW:=grx (No) w;have E:=erx (No) w;refine zy ?_;refine za rfl (zp ziz ?_);intro gb1 w2 Bb1 Eb1 Gb1;have Gb1:_≤gb1:=Nat.le_trans E.size Gb1;have GLb1:=Nat.le_trans LW.size Gb1;replace E:=E.trans Eb1.no;replace HF:=HF.cons (zj Gb1);replace E:=E.cons (some gb1);replace XLW:=Mut.grow XLW (fun k e=>Or.inr (Nat.le_trans LW.size ((zj Gb1) k e)));refine yb ?_;refine za rfl (qp (b:=a) zzz rfl (qa ?_));refine za rfl (xf rfl rfl (qc ?_));refine zk 18 (.bool false) rfl ((by rw[jj,gi hf]:(.bool (jf a a !=some .eq):Value)=_)) (qb ?_);refine za rfl (zd en91 rfl ((jm _ a ha).mono ?_));rintro e w3 ⟨rfl,hb⟩;refine ⟨_,rfl,?_⟩;have Ec:=Ext.of_below hb No;replace Bb1:=Bb1.extN Ec NotIn.nil;replace E:=E.trans Ec.no;refine zf 25 (.bool false) rfl ((by rw[decide_eq_false (by omega)]:(.bool (decide (rg a=9218868437227405312)):Value)=_)) (zz ?_);refine za rfl (zd en103 rfl ((yxq _ a hf).mono ?_));rintro e w4 ⟨rfl,hb⟩;refine ⟨_,rfl,?_⟩;have Ec:=Ext.of_below hb No;replace Bb1:=Bb1.extN Ec NotIn.nil;replace E:=E.trans Ec.no;refine zf 29 (.float .f64 (Ieee.double.word (ng a) q)) rfl ((by rw[hq3]:(.float .f64 (od .zero a):Value)=_)) (zf 29 (.float .f64 T) rfl ((by rw[hT]:(.float .f64 (Ieee.double.word (ng a) q):Value)=_)) (za rfl (zd en92 rfl ((qbx _ T (by rw[hT];exact r3) (by rw[hT1];exact hq0) (by rw[hT1];exact hqf)).mono ?_))));rintro e w5 ⟨rfl,hb⟩;refine ⟨_,rfl,?_⟩;have Ec:=Ext.of_below hb No;replace Bb1:=Bb1.extN Ec NotIn.nil;replace E:=E.trans Ec.no;refine zf 30 (.tuple #[.float .f64 F,.int .i64 (frE T)]) rfl ((by rw[hF]:(.tuple #[.float .f64 (frF T),.int .i64 (frE T)]:Value)=_)) (zz ?_)
 refine za rfl (zd en94 rfl ((qav _ F hFp.2.2 (by rw[hFp.1];omega) (by rw[hFp.1];omega) 53 (1074*4503599627370496+mg (nr q)) (by decide) fq2 fq3).mono ?_));rintro e w6 ⟨rfl,hb⟩;refine ⟨_,rfl,?_⟩;have Ec:=Ext.of_below hb No;replace Bb1:=Bb1.extN Ec NotIn.nil;replace E:=E.trans Ec.no;refine za rfl (yzz (z:=m0) Tryz.underlying3 (by rw[u98];rfl) rfl hfz (za rfl (zd en32 rfl ((zmv m0 _ (by rw[hm0];split<;>omega) (by rw[hm0];split<;>omega)).mono ?_))));rintro e w7 ⟨A1,c1,rfl,o1,hb⟩;refine ⟨_,rfl,?_⟩;have XC:∀q9,(Mut [(some gb1)]) q9→q9<w6.heap.size:=(Mut.grow Mut.none_ (yp Bb1.lt));have Ec:=Ext.of_below hb No;replace Bb1:=Bb1.extN Ec NotIn.nil;replace E:=E.trans Ec.no;replace HF:=HF.on E;replace LW:=LW.step E XLW;replace E:=erx (Mut [(some gb1)]) w7;replace HF:=HF.and (Per.own o1 XC);refine za rfl (zp ziz ?_);intro gb8 w9 Bb8 Eb8 Gb8;have Db8_b1:Apart (some gb8) (some gb1):=Apart.of_lt (yp Bb1.lt) Gb8;have Db1_b8:=Db8_b1.symm;have Gb8:_≤gb8:=Nat.le_trans E.size Gb8;have GLb8:=Nat.le_trans LW.size Gb8;replace Bb1:=Bb1.extN Eb8 NotIn.nil;replace E:=E.trans Eb8.no;replace HF:=HF.cons (zj Gb8);replace E:=E.cons (some gb8);replace XLW:=Mut.grow XLW (fun k e=>Or.inr (Nat.le_trans LW.size ((zj Gb8) k e)));refine zq (qu kj rfl rfl Bb8 rfl rfl (Nat.le_of_ble_eq_true rfl) ?_);intro w10 Bx Eb8;replace Bb8:=Bx;replace Bb1:=Bb1.extN Eb8 (NotIn.cons Db1_b8 NotIn.nil);replace E:=E.step1 Eb8 Mut.head;refine qb ?_;refine za rfl (zd en32 rfl ((zmv 2 _ (by decide) (by decide)).mono ?_));rintro e w11 ⟨A2,c2,rfl,o2,hb⟩;refine ⟨_,rfl,?_⟩;have XC:∀q9,(Mut [(some gb8),(some gb1)]) q9→q9<w10.heap.size:=(Mut.grow (Mut.grow Mut.none_ (yp Bb1.lt)) (yp Bb8.lt));have Ec:=Ext.of_below hb No;replace Bb8:=Bb8.extN Ec NotIn.nil;replace Bb1:=Bb1.extN Ec NotIn.nil
 replace E:=E.trans Ec.no;replace HF:=HF.on E;replace LW:=LW.step E XLW;replace E:=erx (Mut [(some gb8),(some gb1)]) w11;replace HF:=HF.and (Per.own o2 XC);refine za rfl (zp ziz ?_);intro gb12 w13 Bb12 Eb12 Gb12;have Db12_b8:Apart (some gb12) (some gb8):=Apart.of_lt (yp Bb8.lt) Gb12;have Db8_b12:=Db12_b8.symm;have Db12_b1:Apart (some gb12) (some gb1):=Apart.of_lt (yp Bb1.lt) Gb12;have Db1_b12:=Db12_b1.symm;have Gb12:_≤gb12:=Nat.le_trans E.size Gb12;have GLb12:=Nat.le_trans LW.size Gb12;replace Bb8:=Bb8.extN Eb12 NotIn.nil;replace Bb1:=Bb1.extN Eb12 NotIn.nil;replace E:=E.trans Eb12.no;replace HF:=HF.cons (zj Gb12);replace E:=E.cons (some gb12);replace XLW:=Mut.grow XLW (fun k e=>Or.inr (Nat.le_trans LW.size ((zj Gb12) k e)));refine zq (qu kj rfl rfl Bb12 rfl rfl (Nat.le_of_ble_eq_true rfl) ?_);intro w14 Bx Eb12;replace Bb12:=Bx;replace Bb8:=Bb8.extN Eb12 (NotIn.cons Db8_b12 NotIn.nil);replace Bb1:=Bb1.extN Eb12 (NotIn.cons Db1_b12 NotIn.nil);replace E:=E.step1 Eb12 Mut.head;replace HF:=HF.on E;replace LW:=LW.step E XLW;have SB:∀q9,Mut [(some gb8),(some gb1)] q9→Mut [(some gb12),(some gb8),(some gb1)] q9:=(Mut.skip (Mut.keep (Mut.keep Mut.nil_)));replace HF:=HF.less SB;replace XLW:=fun k h=>XLW k (SB k h);clear SB;replace E:=erx (Mut [(some gb8),(some gb1)]) w14;replace HF:=HF.and (Per.blkN Bb12 (NotIn.cons Db12_b8 (NotIn.cons Db12_b1 NotIn.nil)));refine yb ?_;refine za rfl (qz rfl rfl (zg (by omega)) (qa ?_));refine zk 41 (.bool (decide (1074+nd q≤ex (nr q)))) rfl (bool_dec (by rw[hE];omega)) (zx rfl (fun hc=>?_) (fun hc=>?_))
 ·
  have hc:=of_decide_eq_true hc;obtain ⟨k,hk⟩:∃k,k=ex (nr q)-(1074+nd q):=⟨_,rfl⟩;have hW:ve a=M*2^k:=val_hi hval hc hk hMd;have hprod:m0*(2:Int)^k=xi a:=by
   rw[xi,hW,hm0];split
   · rw[Int.neg_mul,Int.natCast_mul,Int.natCast_pow];rfl
   · rw[Int.natCast_mul,Int.natCast_pow];rfl
  have hwl:=wholeI_lt hf;refine zk 6 (.int .i64 ((k:Nat):Int)) rfl ((by rw[hE];congr 1;omega:(.int .i64 ((frE T)-53):Value)=_)) (stp ?_);have OY:∀q9,(Mut (ybq [])) q9→q9<(World.drew w14).heap.size→(Mut [(some gb8),(some gb1)]) q9:=fun k h _=>(Mut.none_) k h;refine yv (Mut [(some gb8),(some gb1)]) (Mut.grow (Mut.grow Mut.none_ (yp Bb1.lt)) (yp Bb8.lt)) [⟨7,8,26,#[.bool false,.slice none 0 0]⟩] [] (jh [Fx.of (.agg #[.bool (decide ((2:Int)<0)),.slice A2 (limbs 2).length c2]),
   Fx.of (.int .i64 ((k:Nat):Int)),
   ⟨(Option Addr×Nat),fun (A3,c3)=>.agg #[.bool (decide (((k:Nat):Int)<0)),.slice A3 (limbs ((k:Nat):Int)).length c3],fun (A3,c3) b=>(Nums b A3 (limbs ((k:Nat):Int)))⟩,
   ⟨(Option Addr×Nat),fun (A4,c4)=>.tuple #[.agg #[.bool (decide ((2:Int)^k<0)),.slice A4 (limbs ((2:Int)^k)).length c4],.int .i64 0],fun (A4,c4) b=>(Nums b A4 (limbs ((2:Int)^k)))⟩,
   ⟨(Option Addr×Nat),fun (A4,c4)=>.tuple #[.agg #[.bool (decide ((2:Int)^k<0)),.slice A4 (limbs ((2:Int)^k)).length c4],.int .i64 0],fun (A4,c4) b=>(Nums b A4 (limbs ((2:Int)^k)))⟩,
   ⟨(Option Addr×Nat),fun (A4,c4)=>.agg #[.bool (decide ((2:Int)^k<0)),.slice A4 (limbs ((2:Int)^k)).length c4],fun (A4,c4) b=>(Nums b A4 (limbs ((2:Int)^k)))⟩,
   Fx.of (.int .i64 0),
   Fx.of undef,
   Fx.of undef,
   Fx.of (.int .i64 0)]) qt rfl trivial (fun _ h=>by cases h) ?_ ?_
  · refine ⟨arm,arm,?_,?_,?_,?_,?_,?_,?_,arm,trivial⟩
    · intro vs X wq K;have XN:=K.2.1;obtain ⟨_,e1,k1⟩:=K.dep 1 rfl rfl rfl;refine zc 44 _ rfl e1 (zd en32 rfl ((zmv ((k:Nat):Int) _ (by omega) (by omega)).mono ?_));rintro e w2 ⟨A3,c3,rfl,o3,hb⟩;exact ⟨_,rfl,hb,⟨(A3,c3),rfl,Per.own o3 XN⟩⟩
    · intro vs X wq K;have LE:=K.1;have XN:=K.2.1;obtain ⟨_,e0,k0⟩:=K.dep 0 rfl rfl rfl;refine zc 43 _ rfl e0 ?_;obtain ⟨⟨A3,c3⟩,e2,k2⟩:=K.dep 2 rfl rfl rfl;refine zc 45 _ rfl e2 (zd en112 rfl ((two_pow k A2 A3 c2 c3 _ (by omega) (HF.on (E.drew.trans (LE.mono OY))).here.1.2 k2.here).mono ?_));rintro e w2 ⟨A4,c4,rfl,o4,hb⟩;exact ⟨_,rfl,hb,⟨(A4,c4),rfl,Per.own o4 XN⟩⟩
    · intro vs X wq K;obtain ⟨⟨A4,c4⟩,e3,k3⟩:=K.dep 3 rfl rfl rfl;refine zc 46 _ rfl e3 ?_;exact vk rfl ⟨Below.refl _ _,⟨⟨A4,c4⟩,rfl,(k3.map (fun _ h=>h))⟩⟩
    · intro vs X wq K;obtain ⟨⟨A4,c4⟩,e4,k4⟩:=K.dep 4 rfl rfl rfl;refine zc 42 _ rfl e4 ?_;exact oj rfl rfl ⟨Below.refl _ _,⟨⟨A4,c4⟩,rfl,(k4.map (fun _ h=>h))⟩⟩
    · intro vs X wq K;obtain ⟨⟨A4,c4⟩,e4,k4⟩:=K.dep 4 rfl rfl rfl;refine zc 42 _ rfl e4 ?_;exact oj rfl rfl ⟨Below.refl _ _,Left.of rfl⟩
    · exact ⟨_,_,_,_,_,rfl,ziz,rfl⟩
    · refine ⟨_,_,_,_,_,rfl,rfl,rfl,kj,fun vs X wq K=>?_⟩;obtain ⟨⟨A4,c4⟩,e0,_⟩:=K.dep 5 rfl rfl rfl;exact ⟨vs 5,rfl,by rw[e0];rfl,by rw[e0];rfl⟩
  intro vs w15 LE AO AL AF AA;have LBb8:=Bb8;have LBb1:=Bb1;replace Bb8:=Bb8.drew.extN LE NotIn.nil;replace Bb1:=Bb1.drew.extN LE NotIn.nil;replace E:=E.drew.trans (LE.mono OY);obtain ⟨⟨A4,c4⟩,e5,k5⟩:=AL.2.2.2.2.2.1;replace HF:=HF.on E;replace LW:=LW.step E XLW;replace E:=erx (Mut [(some gb8),(some gb1)]) w15;replace HF:=HF.and ((k5.map (fun _ h=>h):Per (Mut [(some gb8),(some gb1)]) w15 (fun b=>Nums b A4 (limbs ((2:Int)^k)))));obtain ⟨gb16,v0,y0,qb16,Gb16,Bb16,ey,ev0⟩:=AF.1;cases ey
  obtain rfl:vs 5=v0:=Option.some.inj ev0;rw[e5] at Bb16;have Db16_b8:Apart (some gb16) (some gb8):=Apart.of_lt (yp LBb8.lt) Gb16;have Db8_b16:=Db16_b8.symm;have Db16_b1:Apart (some gb16) (some gb1):=Apart.of_lt (yp LBb1.lt) Gb16;have Db1_b16:=Db16_b1.symm;replace HF:=HF.on E;replace LW:=LW.step E XLW;replace E:=erx (Mut [(some gb8),(some gb1)]) w15;replace HF:=HF.and ((Per.blkN Bb16 (NotIn.cons Db16_b8 (NotIn.cons Db16_b1 NotIn.nil)):Per (Mut [(some gb8),(some gb1)]) w15 (fun b=>Blk b gb16 26 #[.bool (decide ((2:Int)^k<0)),.slice A4 (limbs ((2:Int)^k)).length c4])));have e7:=qb16;refine qe (τ:=[(2,_),(3,_),(6,_),(7,_),(8,_),(9,.pointer (some ⟨gb16,0,none⟩))]) ⟨rfl,rfl,rfl,rfl,rfl,congrArg some e7,trivial⟩ ?_;clear AL AF AA LE AO OY e5 e7 k5 LBb8 LBb1;have hmul:∀(A B:Option Addr) (c d:Nat) (w:World),Nums w A (limbs m0)→Nums w B (limbs ((2:Int)^k))→Calls Tryz.prog 113 #[.agg #[.bool (decide (m0<0)),.slice A (limbs m0).length c],.agg #[.bool (decide ((2:Int)^k<0)),.slice B (limbs ((2:Int)^k)).length d]] w (vq w (xi a) 0):=by
   intro A B c d w hx hy;have h:=mulI A B c d w (ygq (by rw[hm0];split<;>omega)) (two_30 (by omega)) hx hy;rw[hprod,yhv hwl,yix hwl] at h;exact h
  refine yk ?_;refine za rfl (zd en113 rfl ((hmul A1 A4 c1 c4 _ (HF.on E).here.1.1.1.1.2 (HF.on E).here.1.2).mono ?_));rintro e w17 ⟨A5,c5,rfl,o5,hb⟩;refine ⟨_,rfl,?_⟩;have XC:∀q9,(Mut [(some gb8),(some gb1)]) q9→q9<w15.heap.size:=(Mut.grow (Mut.grow Mut.none_ (yp Bb1.lt)) (yp Bb8.lt));have SC:=Nat.le_trans LW.size E.size;have Ec:=Ext.of_below hb No;replace Bb8:=Bb8.extN Ec NotIn.nil;replace Bb1:=Bb1.extN Ec NotIn.nil;replace E:=E.trans Ec.no;have hS:=SC;replace HF:=HF.on E;replace LW:=LW.step E XLW;replace E:=erx (Mut [(some gb8),(some gb1)]) w17;replace HF:=HF.and (Per.ownX o5 XC);refine qc ?_;refine zq (qu kj rfl rfl Bb8 rfl rfl (Nat.le_of_ble_eq_true rfl) ?_);intro w18 Bx Eb8;replace Bb8:=Bx;replace Bb1:=Bb1.extN Eb8 (NotIn.cons Db1_b8 NotIn.nil);replace E:=E.step1 Eb8 Mut.head;replace HF:=HF.on E;replace LW:=LW.step E XLW;have SB:∀q9,Mut [(some gb1)] q9→Mut [(some gb8),(some gb1)] q9:=(Mut.skip (Mut.keep Mut.nil_));replace HF:=HF.less SB;replace XLW:=fun k h=>XLW k (SB k h);clear SB;replace E:=erx (Mut [(some gb1)]) w18;replace HF:=HF.and (Per.blkN Bb8 (NotIn.cons Db8_b1 NotIn.nil));refine yk ?_;refine zq (qu kj rfl rfl Bb1 rfl rfl (Nat.le_of_ble_eq_true rfl) ?_);intro w19 Bx Eb1;replace Bb1:=Bx;replace E:=E.step1 Eb1 Mut.head;refine yb ?_;exact ⟨A5,c5,rfl,((HF.on E).here.1.2).mono hS,(LW.step E XLW).toBelow⟩
 ·
  have hc:=of_decide_eq_false hc;obtain ⟨k,hk⟩:∃k,k=1074+nd q-ex (nr q):=⟨_,rfl⟩;have hM:M=ve a*2^k:=val_lo hval (by omega) hk hMd;have hk52:k≤52:=by
   rcases Nat.lt_or_ge 52 k with h | h
   · exfalso
     have h1:2^53≤2^k:=Nat.pow_le_pow_right (by decide) (by omega);have h2:1*2^k≤ve a*2^k:=Nat.mul_le_mul_right _ (by omega);omega
   · exact h
  refine qa ?_;refine zk 57 (.bool false) rfl ((by rw[hE,decide_eq_false (by omega)]:(.bool (decide (((frE T)-53)<(-60))):Value)=_)) (qb ?_);have OY:∀q9,(Mut (ybq [])) q9→q9<(World.drew w14).heap.size→(Mut [(some gb8),(some gb1)]) q9:=fun k h _=>(Mut.none_) k h;refine yv (Mut [(some gb8),(some gb1)]) (Mut.grow (Mut.grow Mut.none_ (yp Bb1.lt)) (yp Bb8.lt)) [⟨8,9,26,#[.bool false,.slice none 0 0]⟩] [] (jh [Fx.of (.agg #[.bool (decide ((2:Int)<0)),.slice A2 (limbs 2).length c2]),
   Fx.of (.int .i64 ((frE T)-53)),
   Fx.of (.int .i64 ((k:Nat):Int)),
   ⟨(Option Addr×Nat),fun (A3,c3)=>.agg #[.bool (decide (((k:Nat):Int)<0)),.slice A3 (limbs ((k:Nat):Int)).length c3],fun (A3,c3) b=>(Nums b A3 (limbs ((k:Nat):Int)))⟩,
   ⟨(Option Addr×Nat),fun (A4,c4)=>.tuple #[.agg #[.bool (decide ((2:Int)^k<0)),.slice A4 (limbs ((2:Int)^k)).length c4],.int .i64 0],fun (A4,c4) b=>(Nums b A4 (limbs ((2:Int)^k)))⟩,
   ⟨(Option Addr×Nat),fun (A4,c4)=>.tuple #[.agg #[.bool (decide ((2:Int)^k<0)),.slice A4 (limbs ((2:Int)^k)).length c4],.int .i64 0],fun (A4,c4) b=>(Nums b A4 (limbs ((2:Int)^k)))⟩,
   ⟨(Option Addr×Nat),fun (A4,c4)=>.agg #[.bool (decide ((2:Int)^k<0)),.slice A4 (limbs ((2:Int)^k)).length c4],fun (A4,c4) b=>(Nums b A4 (limbs ((2:Int)^k)))⟩,
   Fx.of (.int .i64 0),
   Fx.of undef,
   Fx.of undef,
   Fx.of (.int .i64 0)]) qt rfl trivial (fun _ h=>by cases h) ?_ ?_
  · refine ⟨arm,arm,?_,?_,?_,?_,?_,?_,?_,?_,arm,trivial⟩
    · intro vs X wq K;obtain ⟨_,e1,k1⟩:=K.dep 1 rfl rfl rfl;refine zc 61 _ rfl e1 ?_;exact yyv rfl (zg (by omega)) ⟨Below.refl _ _,Left.of ((by rw[hE,hk];congr 1;omega:(.int .i64 (0-((frE T)-53)):Value)=_))⟩
    · intro vs X wq K;have XN:=K.2.1;obtain ⟨_,e2,k2⟩:=K.dep 2 rfl rfl rfl;refine zc 62 _ rfl e2 (zd en32 rfl ((zmv ((k:Nat):Int) _ (by omega) (by omega)).mono ?_));rintro e w2 ⟨A3,c3,rfl,o3,hb⟩;exact ⟨_,rfl,hb,⟨(A3,c3),rfl,Per.own o3 XN⟩⟩
    · intro vs X wq K;have LE:=K.1;have XN:=K.2.1;obtain ⟨_,e0,k0⟩:=K.dep 0 rfl rfl rfl;refine zc 60 _ rfl e0 ?_;obtain ⟨⟨A3,c3⟩,e3,k3⟩:=K.dep 3 rfl rfl rfl;refine zc 63 _ rfl e3 (zd en112 rfl ((two_pow k A2 A3 c2 c3 _ (by omega) (HF.on (E.drew.trans (LE.mono OY))).here.1.2 k3.here).mono ?_));rintro e w2 ⟨A4,c4,rfl,o4,hb⟩;exact ⟨_,rfl,hb,⟨(A4,c4),rfl,Per.own o4 XN⟩⟩
    · intro vs X wq K;obtain ⟨⟨A4,c4⟩,e4,k4⟩:=K.dep 4 rfl rfl rfl;refine zc 64 _ rfl e4 ?_;exact vk rfl ⟨Below.refl _ _,⟨⟨A4,c4⟩,rfl,(k4.map (fun _ h=>h))⟩⟩
    · intro vs X wq K;obtain ⟨⟨A4,c4⟩,e5,k5⟩:=K.dep 5 rfl rfl rfl;refine zc 59 _ rfl e5 ?_;exact oj rfl rfl ⟨Below.refl _ _,⟨⟨A4,c4⟩,rfl,(k5.map (fun _ h=>h))⟩⟩
    · intro vs X wq K;obtain ⟨⟨A4,c4⟩,e5,k5⟩:=K.dep 5 rfl rfl rfl;refine zc 59 _ rfl e5 ?_;exact oj rfl rfl ⟨Below.refl _ _,Left.of rfl⟩
    · exact ⟨_,_,_,_,_,rfl,ziz,rfl⟩
    · refine ⟨_,_,_,_,_,rfl,rfl,rfl,kj,fun vs X wq K=>?_⟩;obtain ⟨⟨A4,c4⟩,e0,_⟩:=K.dep 6 rfl rfl rfl;exact ⟨vs 6,rfl,by rw[e0];rfl,by rw[e0];rfl⟩
  intro vs w20 LE AO AL AF AA;have LBb8:=Bb8;have LBb1:=Bb1;replace Bb8:=Bb8.drew.extN LE NotIn.nil;replace Bb1:=Bb1.drew.extN LE NotIn.nil;replace E:=E.drew.trans (LE.mono OY);obtain ⟨⟨A4,c4⟩,e6,k6⟩:=AL.2.2.2.2.2.2.1;replace HF:=HF.on E;replace LW:=LW.step E XLW;replace E:=erx (Mut [(some gb8),(some gb1)]) w20;replace HF:=HF.and ((k6.map (fun _ h=>h):Per (Mut [(some gb8),(some gb1)]) w20 (fun b=>Nums b A4 (limbs ((2:Int)^k)))));obtain ⟨gb21,v0,y0,qb21,Gb21,Bb21,ey,ev0⟩:=AF.1;cases ey
  obtain rfl:vs 6=v0:=Option.some.inj ev0;rw[e6] at Bb21;have Db21_b8:Apart (some gb21) (some gb8):=Apart.of_lt (yp LBb8.lt) Gb21;have Db8_b21:=Db21_b8.symm;have Db21_b1:Apart (some gb21) (some gb1):=Apart.of_lt (yp LBb1.lt) Gb21;have Db1_b21:=Db21_b1.symm;replace HF:=HF.on E;replace LW:=LW.step E XLW;replace E:=erx (Mut [(some gb8),(some gb1)]) w20;replace HF:=HF.and ((Per.blkN Bb21 (NotIn.cons Db21_b8 (NotIn.cons Db21_b1 NotIn.nil)):Per (Mut [(some gb8),(some gb1)]) w20 (fun b=>Blk b gb21 26 #[.bool (decide ((2:Int)^k<0)),.slice A4 (limbs ((2:Int)^k)).length c4])));have e8:=qb21;refine qe (τ:=[(2,_),(3,_),(7,_),(11,.pointer (some ⟨gb21,0,none⟩))]) ⟨rfl,rfl,rfl,congrArg some e8,trivial⟩ ?_;clear AL AF AA LE AO OY e6 e8 k6 LBb8 LBb1;refine yk ?_;refine za rfl (zd en114 rfl ((div_two hM hm0 (by omega) (by omega) A1 A4 c1 c4 _ (HF.on E).here.1.1.1.1.2 (HF.on E).here.1.2).mono ?_));rintro e w22 ⟨A5,c5,B6,c6,r,rfl,o5,hb⟩;refine ⟨_,rfl,?_⟩;have XC:∀q9,(Mut [(some gb8),(some gb1)]) q9→q9<w20.heap.size:=(Mut.grow (Mut.grow Mut.none_ (yp Bb1.lt)) (yp Bb8.lt));have SC:=Nat.le_trans LW.size E.size;have Ec:=Ext.of_below hb No;replace Bb8:=Bb8.extN Ec NotIn.nil;replace Bb1:=Bb1.extN Ec NotIn.nil;replace E:=E.trans Ec.no;have hS:=SC;replace HF:=HF.on E;replace LW:=LW.step E XLW;replace E:=erx (Mut [(some gb8),(some gb1)]) w22;replace HF:=HF.and (Per.ownX o5 XC);refine qb ?_;refine za rfl (zp ziz ?_);intro gb23 w24 Bb23 Eb23 Gb23;have Db23_b8:Apart (some gb23) (some gb8):=Apart.of_lt (yp Bb8.lt) Gb23;have Db8_b23:=Db23_b8.symm;have Db23_b1:Apart (some gb23) (some gb1):=Apart.of_lt (yp Bb1.lt) Gb23;have Db1_b23:=Db23_b1.symm;have Gb23:_≤gb23:=Nat.le_trans E.size Gb23;have GLb23:=Nat.le_trans LW.size Gb23;replace Bb8:=Bb8.extN Eb23 NotIn.nil;replace Bb1:=Bb1.extN Eb23 NotIn.nil
  replace E:=E.trans Eb23.no;replace HF:=HF.cons (zj Gb23);replace E:=E.cons (some gb23);replace XLW:=Mut.grow XLW (fun k e=>Or.inr (Nat.le_trans LW.size ((zj Gb23) k e)));refine za rfl (zp ziz ?_);intro gb25 w26 Bb25 Eb25 Gb25;have Db25_b23:Apart (some gb25) (some gb23):=Apart.of_lt (yp Bb23.lt) Gb25;have Db23_b25:=Db25_b23.symm;have Db25_b8:Apart (some gb25) (some gb8):=Apart.of_lt (yp Bb8.lt) Gb25;have Db8_b25:=Db25_b8.symm;have Db25_b1:Apart (some gb25) (some gb1):=Apart.of_lt (yp Bb1.lt) Gb25;have Db1_b25:=Db25_b1.symm;have Gb25:_≤gb25:=Nat.le_trans E.size Gb25;have GLb25:=Nat.le_trans LW.size Gb25;replace Bb23:=Bb23.extN Eb25 NotIn.nil;replace Bb8:=Bb8.extN Eb25 NotIn.nil;replace Bb1:=Bb1.extN Eb25 NotIn.nil;replace E:=E.trans Eb25.no;replace HF:=HF.cons (zj Gb25);replace E:=E.cons (some gb25);replace XLW:=Mut.grow XLW (fun k e=>Or.inr (Nat.le_trans LW.size ((zj Gb25) k e)));refine zq (qu kj rfl rfl Bb23 rfl rfl (Nat.le_of_ble_eq_true rfl) ?_);intro w27 Bx Eb23;replace Bb23:=Bx;replace Bb25:=Bb25.extN Eb23 (NotIn.cons Db25_b23 NotIn.nil);replace Bb8:=Bb8.extN Eb23 (NotIn.cons Db8_b23 NotIn.nil);replace Bb1:=Bb1.extN Eb23 (NotIn.cons Db1_b23 NotIn.nil);replace E:=E.step1 Eb23 (Mut.tail Mut.head);replace HF:=HF.on E;replace LW:=LW.step E XLW;have SB:∀q9,Mut [(some gb25),(some gb8),(some gb1)] q9→Mut [(some gb25),(some gb23),(some gb8),(some gb1)] q9:=(Mut.keep (Mut.skip (Mut.keep (Mut.keep Mut.nil_))));replace HF:=HF.less SB;replace XLW:=fun k h=>XLW k (SB k h);clear SB;replace E:=erx (Mut [(some gb25),(some gb8),(some gb1)]) w27;replace HF:=HF.and (Per.blkN Bb23 (NotIn.cons Db23_b25 (NotIn.cons Db23_b8 (NotIn.cons Db23_b1 NotIn.nil))));refine zq (qu kj rfl rfl Bb25 rfl rfl (Nat.le_of_ble_eq_true rfl) ?_);intro w28 Bx Eb25;replace Bb25:=Bx;replace Bb8:=Bb8.extN Eb25 (NotIn.cons Db8_b25 NotIn.nil)
  replace Bb1:=Bb1.extN Eb25 (NotIn.cons Db1_b25 NotIn.nil);replace E:=E.step1 Eb25 Mut.head;replace HF:=HF.on E;replace LW:=LW.step E XLW;have SB:∀q9,Mut [(some gb8),(some gb1)] q9→Mut [(some gb25),(some gb8),(some gb1)] q9:=(Mut.skip (Mut.keep (Mut.keep Mut.nil_)));replace HF:=HF.less SB;replace XLW:=fun k h=>XLW k (SB k h);clear SB;replace E:=erx (Mut [(some gb8),(some gb1)]) w28;replace HF:=HF.and (Per.blkN Bb25 (NotIn.cons Db25_b8 (NotIn.cons Db25_b1 NotIn.nil)));refine yb ?_;refine zq (qu kj rfl rfl Bb1 rfl rfl (Nat.le_of_ble_eq_true rfl) ?_);intro w29 Bx Eb1;replace Bb1:=Bx;replace Bb8:=Bb8.extN Eb1 (NotIn.cons Db8_b1 NotIn.nil);replace E:=E.step1 Eb1 (Mut.tail Mut.head);replace HF:=HF.on E;replace LW:=LW.step E XLW;have SB:∀q9,Mut [(some gb8)] q9→Mut [(some gb8),(some gb1)] q9:=(Mut.keep (Mut.skip Mut.nil_));replace HF:=HF.less SB;replace XLW:=fun k h=>XLW k (SB k h);clear SB;replace E:=erx (Mut [(some gb8)]) w29;replace HF:=HF.and (Per.blkN Bb1 (NotIn.cons Db1_b8 NotIn.nil));refine yk ?_;exact ⟨A5,c5,rfl,((HF.on E).here.1.1.1.2).mono hS,(LW.step E XLW).toBelow⟩
theorem whole_fin:Calls Tryz.prog 102 #[.int .u64 ((a:Nat):Int)] w (vq w (xi a) 0):=by
 by_cases h0:ve a=0
 · exact whole_zero w a ha hf h0
 · exact whole_num w a ha hf h0
end
end
end Go.Proofs.YtebjkmjfcijebaaGreat
namespace Go.Proofs.YtebjkmjfcijebaaGreat
open Go.RowKit
attribute [local irreducible] OW RS CW EW
set_option maxHeartbeats 20000000
noncomputable def cmpB (a:Nat) (i:Int):Int:=if xy (xi a) i≠0 then xy (xi a) i else if lostB a then (if ng a then -1 else 1) else 0
theorem cmp_trunc {a q:Nat} (hf:rg a<9218868437227405312) (h1:vl q=ve a*2^1074) (h2:q≤rg a):cmpF a (Ieee.double.word (ng a) q)=(if lostB a then (if ng a then -1 else 1) else 0)∧jd a (Ieee.double.word (ng a) q)=true:=by
 obtain ⟨w1,w2,w3⟩:=gg (ng a) q (by omega);have hn:isN (Ieee.double.word (ng a) q)=false:=gi (by rw[w1];omega);have ho:jd a (Ieee.double.word (ng a) q)=true:=by rw[jd,gi hf,hn];rfl
 refine ⟨?_,ho⟩;have hl:lostB a=decide (q<rg a):=by
  refine (lost_eq ?_).symm;rw[isWh_iff,←h1];constructor
  · intro h e;have:=vl_lt h;omega
  · intro h;rcases Nat.lt_or_ge q (rg a) with h' | h'
    · exact h'
    · exact absurd (congrArg vl (show rg a=q by omega)) h
 rw[cmpF,if_pos ho,hl];obtain ⟨p1,p2⟩:=yox a;obtain ⟨p3,p4⟩:=yox (Ieee.double.word (ng a) q);rw[w1,w2] at p3 p4;unfold ordI;cases hs:ng a with
 | true=>
  rw[hs] at p3;rw[p1 hs,p3 rfl];by_cases h:q<rg a
  · rw[decide_eq_true h,if_pos (by omega)];rfl
  · rw[decide_eq_false h,if_neg (by omega),if_neg (by omega)];rfl
 | false=>
  rw[hs] at p4;rw[p2 hs,p4 rfl];by_cases h:q<rg a
  · rw[decide_eq_true h,if_neg (by omega),if_pos (by omega)];rfl
  · rw[decide_eq_false h,if_neg (by omega),if_neg (by omega)];rfl
theorem f2i_one (s:Bool):floatToIntVal .f64 (Ieee.double.word s 4607182418800017408) .i64=some (if s then -1 else 1):=by cases s<;>decide +kernel
def infV (a:Nat):Int:=if ng a then -1 else 1
section
variable (w:World) (a:Nat) (ha:a<18446744073709551616)
include ha
section
variable (n1:Bool) (A:Option Addr) (c:Nat) (xs:List Nat) (hx:Nums w A xs) (hl:xs.length≤9223372036854775807)
include hx hl
theorem cmpbig_nan (hn:isN a=true):Calls Tryz.prog 89 #[.int .u64 ((a:Nat):Int),.agg #[.bool n1,.slice A xs.length c]] w fun e w'=>e= .returned (.tuple #[.int .i64 0,.bool false])∧Below w.heap.size w w':=by
 have _:=And.intro ha (And.intro hx hl);refine zh Tryz.func89 rfl Tryz.ntmps89 rfl ?_;have LW:=erx (No) w;have XLW:=grx (No) w;have E:=erx (No) w;refine zy ?_;refine za rfl (zn rfl ?_);intro gb1 w2 Bb1 Eb1 Gb1;have Gb1:_≤gb1:=Nat.le_trans E.size Gb1;have GLb1:=Nat.le_trans LW.size Gb1;replace E:=E.trans Eb1.no;replace E:=E.cons (some gb1);replace XLW:=Mut.grow XLW (fun k e=>Or.inr (Nat.le_trans LW.size ((zj Gb1) k e)));replace LW:=LW.step E XLW;have SB:∀q9,No q9→Mut [(some gb1)] q9:=(Mut.skip Mut.nil_);replace XLW:=fun k h=>XLW k (SB k h);clear SB;replace E:=erx (No) w2;refine yu ?_;refine za rfl (qp (b:=a) zzz rfl (yx ?_));refine za rfl (xf rfl rfl (stp ?_));refine zf 17 (.bool true) rfl ((by rw[jj,hn]:(.bool (jf a a !=some .eq):Value)=_)) (gh ?_);exact ⟨rfl,(LW.step E XLW).toBelow⟩
theorem cmpbig_bad (hn:isN a=false) (hg:yq n1 xs=false):Calls Tryz.prog 89 #[.int .u64 ((a:Nat):Int),.agg #[.bool n1,.slice A xs.length c]] w fun e w'=>e= .returned (.tuple #[.int .i64 0,.bool false])∧Below w.heap.size w w':=by
 have _:=ha;refine zh Tryz.func89 rfl Tryz.ntmps89 rfl ?_;have HF:Per (No) w (fun _=>True):=Per.true_;have LW:=erx (No) w;have XLW:=grx (No) w;have E:=erx (No) w;replace HF:=HF.on E;replace LW:=LW.step E XLW;replace E:=erx (No) w;replace HF:=HF.and (Per.nums0 hx);refine zy ?_;refine za rfl (zn rfl ?_);intro gb1 w2 Bb1 Eb1 Gb1;have Gb1:_≤gb1:=Nat.le_trans E.size Gb1;have GLb1:=Nat.le_trans LW.size Gb1;replace E:=E.trans Eb1.no;replace HF:=HF.cons (zj Gb1);replace E:=E.cons (some gb1);replace XLW:=Mut.grow XLW (fun k e=>Or.inr (Nat.le_trans LW.size ((zj Gb1) k e)));replace HF:=HF.on E;replace LW:=LW.step E XLW;have SB:∀q9,No q9→Mut [(some gb1)] q9:=(Mut.skip Mut.nil_);replace HF:=HF.less SB;replace XLW:=fun k h=>XLW k (SB k h);clear SB;replace E:=erx (No) w2;replace HF:=HF.and (Per.blkN Bb1 NotIn.nil);refine yu ?_;refine za rfl (qp (b:=a) zzz rfl (yx ?_));refine za rfl (xf rfl rfl (stp ?_));refine zf 17 (.bool false) rfl ((by rw[jj,hn]:(.bool (jf a a !=some .eq):Value)=_)) (stp ?_);refine onx rfl (zd en36 rfl ((qm n1 c _ A xs hl (HF.on E).here.1.2).mono ?_));rintro e w3 ⟨rfl,hb⟩;refine ⟨_,rfl,?_⟩;replace E:=blx E hb;refine zf 19 (.bool false) rfl ((by rw[hg]:(.bool (yq n1 xs):Value)=_)) (jt ?_);exact ⟨rfl,(LW.step E XLW).toBelow⟩
end
section
variable (i:Int) (A:Option Addr) (c:Nat) (hi:i.natAbs<B18^30) (hx:Nums w A (limbs i)) (hn:isN a=false)
include hi hx hn
theorem cmpbig_inf (hinf:rg a=9218868437227405312):Calls Tryz.prog 89 #[.int .u64 ((a:Nat):Int),.agg #[.bool (decide (i<0)),.slice A (limbs i).length c]] w fun e w'=>e= .returned (.tuple #[.int .i64 (infV a),.bool true])∧Below w.heap.size w w':=by
 refine zh Tryz.func89 rfl Tryz.ntmps89 rfl ?_;have HF:Per (No) w (fun _=>True):=Per.true_;have LW:=erx (No) w;have XLW:=grx (No) w;have E:=erx (No) w;replace HF:=HF.on E;replace LW:=LW.step E XLW;replace E:=erx (No) w;replace HF:=HF.and (Per.nums0 hx);refine zy ?_;refine za rfl (zn rfl ?_);intro gb1 w2 Bb1 Eb1 Gb1;have Gb1:_≤gb1:=Nat.le_trans E.size Gb1;have GLb1:=Nat.le_trans LW.size Gb1;replace E:=E.trans Eb1.no;replace HF:=HF.cons (zj Gb1);replace E:=E.cons (some gb1);replace XLW:=Mut.grow XLW (fun k e=>Or.inr (Nat.le_trans LW.size ((zj Gb1) k e)));replace HF:=HF.on E;replace LW:=LW.step E XLW;have SB:∀q9,No q9→Mut [(some gb1)] q9:=(Mut.skip Mut.nil_);replace HF:=HF.less SB;replace XLW:=fun k h=>XLW k (SB k h);clear SB;replace E:=erx (No) w2;replace HF:=HF.and (Per.blkN Bb1 NotIn.nil);refine yu ?_;refine za rfl (qp (b:=a) zzz rfl (yx ?_));refine za rfl (xf rfl rfl (stp ?_));refine zf 17 (.bool false) rfl ((by rw[jj,hn]:(.bool (jf a a !=some .eq):Value)=_)) (stp ?_);refine onx rfl (zd en36 rfl ((qdk A c _ hi (HF.on E).here.1.2).mono ?_));rintro e w3 ⟨rfl,hb⟩;refine ⟨_,rfl,?_⟩;replace E:=blx E hb;refine yt ?_;refine za rfl (zd en91 rfl ((jm _ a ha).mono ?_));rintro e w4 ⟨rfl,hb⟩;refine ⟨_,rfl,?_⟩;replace E:=blx E hb;refine zf 23 (.bool true) rfl ((by rw[decide_eq_true hinf]:(.bool (decide (rg a=9218868437227405312)):Value)=_)) (yb ?_);refine za rfl (zd en101 rfl ((copysign_any _ 4607182418800017408 (by decide) a ha).mono ?_));rintro e w5 ⟨rfl,hb⟩;refine ⟨_,rfl,?_⟩;replace E:=blx E hb
 refine zf 25 (.float .f64 (Ieee.double.word (ng a) 4607182418800017408)) rfl ((by rw[show rg 4607182418800017408=4607182418800017408 by decide]:(.float .f64 (Ieee.double.word (ng a) (rg 4607182418800017408)):Value)=_)) (za rfl (yzz (z:=infV a) Tryz.underlying3 (by rw[u98];rfl) rfl (f2i_one (ng a)) (yu ?_)));exact ⟨rfl,(LW.step E XLW).toBelow⟩
theorem cmpbig_fin (hf:rg a<9218868437227405312):Calls Tryz.prog 89 #[.int .u64 ((a:Nat):Int),.agg #[.bool (decide (i<0)),.slice A (limbs i).length c]] w fun e w'=>e= .returned (.tuple #[.int .i64 (cmpB a i),.bool true])∧Below w.heap.size w w':=by
 obtain ⟨q,hq1,hq2,hq3⟩:=ydv hf;obtain ⟨t1,t2⟩:=cmp_trunc hf hq1 hq2;rw[←hq3] at t1 t2;have hbr:yc (od .zero a)=od .zero a:=bareN_num (gi (by rw[hq3,(gg (ng a) q (by omega)).1];omega));refine zh Tryz.func89 rfl Tryz.ntmps89 rfl ?_;have HF:Per (No) w (fun _=>True):=Per.true_;have LW:=erx (No) w;have XLW:=grx (No) w;have E:=erx (No) w;replace HF:=HF.on E;replace LW:=LW.step E XLW;replace E:=erx (No) w;replace HF:=HF.and (Per.nums0 hx);refine zy ?_;refine za rfl (zn rfl ?_);intro gb1 w2 Bb1 Eb1 Gb1;have Gb1:_≤gb1:=Nat.le_trans E.size Gb1;have GLb1:=Nat.le_trans LW.size Gb1;replace E:=E.trans Eb1.no;replace HF:=HF.cons (zj Gb1);replace E:=E.cons (some gb1);replace XLW:=Mut.grow XLW (fun k e=>Or.inr (Nat.le_trans LW.size ((zj Gb1) k e)));replace HF:=HF.on E;replace LW:=LW.step E XLW;have SB:∀q9,No q9→Mut [(some gb1)] q9:=(Mut.skip Mut.nil_);replace HF:=HF.less SB;replace XLW:=fun k h=>XLW k (SB k h);clear SB;replace E:=erx (No) w2;replace HF:=HF.and (Per.blkN Bb1 NotIn.nil);refine yu ?_;refine za rfl (qp (b:=a) zzz rfl (yx ?_));refine za rfl (xf rfl rfl (stp ?_));refine zf 17 (.bool false) rfl ((by rw[jj,hn]:(.bool (jf a a !=some .eq):Value)=_)) (stp ?_);refine onx rfl (zd en36 rfl ((qdk A c _ hi (HF.on E).here.1.2).mono ?_));rintro e w3 ⟨rfl,hb⟩;refine ⟨_,rfl,?_⟩;replace E:=blx E hb;refine yt ?_;refine za rfl (zd en91 rfl ((jm _ a ha).mono ?_));rintro e w4 ⟨rfl,hb⟩;refine ⟨_,rfl,?_⟩;replace E:=blx E hb;refine zf 23 (.bool false) rfl ((by rw[decide_eq_false (by omega)]:(.bool (decide (rg a=9218868437227405312)):Value)=_)) (yx ?_);refine za rfl (zd en102 rfl ((whole_fin _ a ha hf).mono ?_));rintro e w5 ⟨A2,c2,rfl,o2,hb⟩;refine ⟨_,rfl,?_⟩;have XC:∀q9,(No) q9→q9<w4.heap.size:=Mut.none_;replace E:=blx E hb
 replace HF:=HF.on E;replace LW:=LW.step E XLW;replace E:=erx (No) w5;replace HF:=HF.and (Per.own o2 XC);refine qc ?_;refine za rfl (zp ziz ?_);intro gb6 w7 Bb6 Eb6 Gb6;have Gb6:_≤gb6:=Nat.le_trans E.size Gb6;have GLb6:=Nat.le_trans LW.size Gb6;replace E:=E.trans Eb6.no;replace HF:=HF.cons (zj Gb6);replace E:=E.cons (some gb6);replace XLW:=Mut.grow XLW (fun k e=>Or.inr (Nat.le_trans LW.size ((zj Gb6) k e)));refine zq (qu kj rfl rfl Bb6 rfl rfl (Nat.le_of_ble_eq_true rfl) ?_);intro w8 Bx Eb6;replace Bb6:=Bx;replace E:=E.step1 Eb6 Mut.head;replace HF:=HF.on E;replace LW:=LW.step E XLW;have SB:∀q9,No q9→Mut [(some gb6)] q9:=(Mut.skip Mut.nil_);replace HF:=HF.less SB;replace XLW:=fun k h=>XLW k (SB k h);clear SB;replace E:=erx (No) w8;replace HF:=HF.and (Per.blkN Bb6 NotIn.nil);refine yx ?_;refine za rfl (zd en90 rfl ((cmpI_ A2 A c2 c _ (wholeI_lt hf) hi (HF.on E).here.1.2 (HF.on E).here.1.1.1.2).mono ?_));rintro e w9 ⟨rfl,hb⟩;refine ⟨_,rfl,?_⟩;replace E:=blx E hb;refine qa ?_;refine zx rfl (fun hc=>?_) (fun hc=>?_)
 ·
  have hc:=bne_iff_ne.1 hc;refine zz ?_;exact ⟨by rw[cmpB,if_pos hc];rfl,(LW.step E XLW).toBelow⟩
 ·
  have hc:xy (xi a) i=0:=by simpa using hc
  refine yb ?_;refine za rfl (zd en103 rfl ((yxq _ a hf).mono ?_));rintro e w10 ⟨rfl,hb⟩;refine ⟨_,rfl,?_⟩;replace E:=blx E hb;refine za rfl (zd en54 rfl ((bare_any _ (od .zero a)).mono ?_));rintro e w11 ⟨rfl,hb⟩;refine ⟨_,rfl,?_⟩;replace E:=blx E hb;refine zf 42 (.int .u64 ((od .zero a:Nat):Int)) rfl ((by rw[hbr]:(.int .u64 ((yc (od .zero a):Nat):Int):Value)=_)) (za rfl (zd en88 rfl ((cmp_any_r _ a (od .zero a)).mono ?_)));rintro e w12 ⟨rfl,hb⟩;refine ⟨_,rfl,?_⟩;replace E:=blx E hb;refine gh ?_;exact ⟨by rw[cmpB,if_neg (by rw[hc];decide),←t1];rfl,(LW.step E XLW).toBelow⟩
end
end
def zcq (a:Nat) (n1:Bool) (xs:List Nat):Bool:=!(isN a)&&yq n1 xs
noncomputable def zzq (a:Nat) (n1:Bool) (xs:List Nat):Int:=if zcq a n1 xs then (if rg a=9218868437227405312 then infV a else cmpB a (num n1 xs)) else 0
section
variable (w:World) (a:Nat) (ha:a<18446744073709551616) (n1:Bool) (A:Option Addr) (c:Nat) (xs:List Nat) (hx:Nums w A xs) (hl:xs.length≤9223372036854775807)
include ha hx hl
theorem cmpbig_any:Calls Tryz.prog 89 #[.int .u64 ((a:Nat):Int),.agg #[.bool n1,.slice A xs.length c]] w fun e w'=>e= .returned (.tuple #[.int .i64 (zzq a n1 xs),.bool (zcq a n1 xs)])∧Below w.heap.size w w':=by
 cases hn:isN a with
 | true=>
  have h:zcq a n1 xs=false:=by rw[zcq,hn];rfl
  rw[zzq,h,if_neg (by decide)];exact cmpbig_nan w a ha n1 A c xs hx hl hn
 | false=>
  cases hg:yq n1 xs with
  | false=>
   have h:zcq a n1 xs=false:=by rw[zcq,hg,Bool.and_false]
   rw[zzq,h,if_neg (by decide)];exact cmpbig_bad w a ha n1 A c xs hx hl hn hg
  | true=>
   have h:zcq a n1 xs=true:=by rw[zcq,hn,hg];rfl
   rw[zzq,h,if_pos rfl];obtain ⟨i,rfl,rfl,hi⟩:=yjq hg;rw[ja];by_cases hinf:rg a=9218868437227405312
   · rw[if_pos hinf];exact cmpbig_inf w a ha i A c hi hx hn hinf
   · rw[if_neg hinf];have h1:=of_decide_eq_false hn;exact cmpbig_fin w a ha i A c hi hx hn (by omega)
end
end Go.Proofs.YtebjkmjfcijebaaGreat
namespace Go.Proofs.YtebjkmjfcijebaaGreat
open Go.RowKit
attribute [local irreducible] OW RS CW EW
set_option maxHeartbeats 20000000
theorem below_same {w w':World} (h:w=w'):Below w.heap.size w w':=by subst h;exact Below.refl _ _
theorem mul64_b (x y:Nat) (hx:x<18446744073709551616) (hy:y<18446744073709551616) (w:World) :
 Calls Tryz.prog 95 #[.int .u64 x,.int .u64 y] w fun e w'=>e= .returned (.tuple #[.int .u64 ((x*y/18446744073709551616:Nat):Int),.int .u64 ((x*y%18446744073709551616:Nat):Int)])∧Below w.heap.size w w':=
 (mul64_any x y hx hy w).mono fun _ _ ⟨h1,h2⟩=>⟨h1,below_same h2⟩
theorem tmod31 (x:Int):(x.tmod 31+31).tmod 31=x%31∧ -31<x.tmod 31∧x.tmod 31<31:=by
 rcases Int.lt_or_le x 0 with h | h
 · obtain ⟨y,rfl⟩:∃y:Int,x= -y:=⟨-x,by omega⟩;have e:(-y).tmod 31= -(y%31):=by rw[Int.neg_tmod,Int.tmod_eq_emod_of_nonneg (by omega)]
   rw[e,Int.tmod_eq_emod_of_nonneg (by omega)];omega
 · rw[Int.tmod_eq_emod_of_nonneg h,Int.tmod_eq_emod_of_nonneg (by omega)];omega
def ztz (a:Nat):Int:=if isN a then 0 else (if ng a then -1 else 1)*(if rg a=9218868437227405312 then 314159 else ((yuz (rg a):Nat):Int))
theorem hashM_zero:yuz 0=0:=by decide
theorem hashM_lt (r:Nat):yuz r<2147483647:=Nat.mod_lt _ (by decide)
theorem hash_prog {r:Nat} (hr:r<9223372036854775808) (h0:r≠0):mg (nr r)%2147483647*2^((frE r-53)%31).toNat%2147483647=yuz r:=by
 obtain ⟨h1,_⟩:=ygv hr;have:=hash_norm (a:=r) (by rw[h1];exact h0);rw[h1] at this;rw[←this,fm,h1,Nat.mul_mod,Nat.mod_mod,←Nat.mul_mod]
theorem rh95_1:Gives 95 #[.int .u64 0,.int .u64 512] (.tuple #[.int .u64 0,.int .u64 0]):=by
 intro w;refine zh Tryz.func95 rfl Tryz.ntmps95 rfl ?_;have LW:=erx (No) w;have XLW:=grx (No) w;have E:=erx (No) w;refine qa ?_;refine za rfl (kw (z:=0) rfl rfl (by kernel_rfl) (yb ?_));refine za rfl (je (z:=0) rfl rfl (by decide) (by kernel_rfl) (yb ?_));refine za rfl (kw (z:=512) rfl rfl (by kernel_rfl) (yb ?_));refine za rfl (je (z:=0) rfl rfl (by decide) (by kernel_rfl) (yu ?_));refine za rfl (vn (z:=0) rfl rfl (by kernel_rfl) (yu ?_));refine za rfl (vn (z:=0) rfl rfl (by kernel_rfl) (stp ?_));refine za rfl (je (z:=0) rfl rfl (by decide) (by kernel_rfl) (za rfl (zr (z:=0) rfl rfl (by kernel_rfl) (yb ?_))));refine za rfl (kw (z:=0) rfl rfl (by kernel_rfl) (yb ?_));refine za rfl (je (z:=0) rfl rfl (by decide) (by kernel_rfl) (yx ?_));refine za rfl (vn (z:=0) rfl rfl (by kernel_rfl) (za rfl (zr (z:=0) rfl rfl (by kernel_rfl) (yu ?_))));refine za rfl (vn (z:=0) rfl rfl (by kernel_rfl) (stp ?_));refine za rfl (zr (z:=0) rfl rfl (by kernel_rfl) (stp ?_));refine za rfl (je (z:=0) rfl rfl (by decide) (by kernel_rfl) (za rfl (zr (z:=0) rfl rfl (by kernel_rfl) (yu ?_))));refine za rfl (vn (z:=0) rfl rfl (by kernel_rfl) (qb ?_));refine vc (rs:=[.tmp 4,.tmp 5]) (vs:=[.int .u64 0,.int .u64 0]) rfl ⟨rfl,rfl,trivial⟩ ?_;exact ⟨rfl,(LW.step E XLW).toBelow⟩
theorem rh109_3:Gives 109 #[.int .u64 0,.int .u64 0,.int .u64 2147483647] (.tuple #[.int .u64 0,.int .u64 0]):=by
 intro w;refine zh Tryz.func109 rfl Tryz.ntmps109 rfl ?_;have LW:=erx (No) w;have XLW:=grx (No) w;have E:=erx (No) w;refine stp36 ?_;have OY:∀q9,(Mut (ybq [])) q9→q9<(World.drew w).heap.size→(No) q9:=fun k h _=>(Mut.none_) k h;refine yv (No) Mut.none_ [] [] (jh [Fx.of (.int .u64 0),
  Fx.of (.int .u64 2147483647),
  Fx.of (.int .u64 0),
  Fx.of (.int .u64 0),
  Fx.of (.int .u64 2147483647),
  Fx.of (.int .u64 0),
  Fx.of (.int .u64 0),
  Fx.of (.int .u64 0)]) qt rfl trivial (fun _ h=>by cases h) ?_ ?_
 · refine ⟨arm,arm,?_,arm,arm,?_,arm,arm,trivial⟩
   · intro vs X wq K;obtain ⟨_,e0,k0⟩:=K.dep 0 rfl rfl rfl;refine zc 28 _ rfl e0 ?_;obtain ⟨_,e1,k1⟩:=K.dep 1 rfl rfl rfl;refine zc 29 _ rfl e1 ?_;exact oi (z:=0) rfl rfl (by decide) (by kernel_rfl) ⟨Below.refl _ _,Left.of rfl⟩
   · intro vs X wq K;obtain ⟨_,e3,k3⟩:=K.dep 3 rfl rfl rfl;refine zc 31 _ rfl e3 ?_;obtain ⟨_,e4,k4⟩:=K.dep 4 rfl rfl rfl;refine zc 32 _ rfl e4 ?_;exact ju (z:=0) rfl rfl (by decide) (by kernel_rfl) ⟨Below.refl _ _,Left.of rfl⟩
 intro vs w1 LE AO AL AF AA;replace E:=E.drew.trans (LE.mono OY);obtain ⟨_,e6,k6⟩:=AL.2.2.2.2.2.2.1;obtain ⟨_,e7,k7⟩:=AL.2.2.2.2.2.2.2.1;refine qe (τ:=[(0,_),(1,_),(2,_),(6,.int .u64 0),(7,.int .u64 0)]) ⟨rfl,rfl,rfl,congrArg some e6,congrArg some e7,trivial⟩ ?_;clear AL AF AA LE AO OY e6 e7 k6 k7;refine qc ?_;refine vc (rs:=[.tmp 6,.tmp 7]) (vs:=[.int .u64 0,.int .u64 0]) rfl ⟨rfl,rfl,trivial⟩ ?_;exact ⟨rfl,(LW.step E XLW).toBelow⟩
theorem rh96_3:Gives 96 #[.int .u64 0,.int .u64 0,.int .u64 2147483647] (.int .u64 0):=by
 intro w;refine zh Tryz.func96 rfl Tryz.ntmps96 rfl ?_;have LW:=erx (No) w;have XLW:=grx (No) w;have E:=erx (No) w;refine qa ?_;refine za rfl (ju (z:=0) rfl rfl (by decide) (by kernel_rfl) (zy ?_));refine za rfl (zd en109 rfl ((rh109_3 _).mono ?_));rintro e w1 ⟨rfl,hb⟩;refine ⟨_,rfl,?_⟩;replace E:=blx E hb;refine jt ?_;refine vc (rs:=[.tmp 6]) (vs:=[.int .u64 0]) rfl ⟨rfl,trivial⟩ ?_;exact ⟨rfl,(LW.step E XLW).toBelow⟩
theorem hash_zero (w:World) (a:Nat) (ha:a<18446744073709551616) (hf:rg a<9218868437227405312) (h0:rg a=0):Calls Tryz.prog 77 #[.int .u64 ((a:Nat):Int)] w fun e w'=>e= .returned (.int .i64 (ztz a))∧Below w.heap.size w w':=by
 have hp:pc a=0:=by unfold pc;split<;>omega
 have hlt:(jf a 0==some .lt)=false:=by rw[ztk (gi hf) (by decide),hp];decide
 have hF:ztz a=0:=by
  have e:(if rg a=9218868437227405312 then 314159 else ((yuz (rg a):Nat):Int))=0:=by rw[if_neg (by omega),h0,hashM_zero];rfl
  rw[ztz,if_neg (by rw[gi hf];decide),e,Int.mul_zero]
 have hr:rg a<18446744073709551616:=by omega
 refine zh Tryz.func77 rfl Tryz.ntmps77 rfl ?_;have LW:=erx (No) w;have XLW:=grx (No) w;have E:=erx (No) w;refine yx ?_;refine za rfl (qp (b:=a) zzz rfl (qo ?_));refine za rfl (yhq rfl rfl (zy ?_));refine zk 13 (.bool false) rfl ((by rw[hlt]:(.bool (jf a 0==some .lt):Value)=_)) (qa ?_);refine za rfl (xf rfl rfl (qc ?_));refine zk 14 (.bool false) rfl ((by rw[jj,gi hf]:(.bool (jf a a !=some .eq):Value)=_)) (qb ?_);refine za rfl (zd en91 rfl ((jm _ a ha).mono ?_));rintro e w1 ⟨rfl,hb⟩;refine ⟨_,rfl,?_⟩;replace E:=blx E hb;refine zf 20 (.bool false) rfl ((by rw[decide_eq_false (by omega)]:(.bool (decide (rg a=9218868437227405312)):Value)=_)) (zz ?_);refine za rfl (zd en93 rfl ((ywv _ a ha).mono ?_));rintro e w2 ⟨rfl,hb⟩;refine ⟨_,rfl,?_⟩;replace E:=blx E hb;refine za rfl (zd en92 rfl ((Frexp_zero _ (rg a) hr (by rw[rg_rg];exact h0)).mono ?_));rintro e w3 ⟨rfl,hb⟩;refine ⟨_,rfl,?_⟩;replace E:=blx E hb;refine zz ?_;refine za rfl (zd en94 rfl ((Ldexp_zero _ (rg a) hr (by rw[rg_rg];exact h0) 53).mono ?_));rintro e w4 ⟨rfl,hb⟩;refine ⟨_,rfl,?_⟩;replace E:=blx E hb;refine za rfl (yzz (z:=0) u27 (by rw[u98];rfl) rfl (by rw[h0];decide +kernel) (yb ?_));refine za rfl (qz (z:=(-53)) rfl rfl (by kernel_rfl) (za rfl (ju (z:=(-22)) rfl rfl (by decide) (by kernel_rfl) (za rfl (zr (z:=9) rfl rfl (by kernel_rfl) (za rfl (ju (z:=9) rfl rfl (by decide) (by kernel_rfl) (yb ?_))))))));refine za rfl (ju (z:=0) rfl rfl (by decide) (by kernel_rfl) (stp ?_));refine za rfl (xn (z:=512) rfl rfl (by decide) (by kernel_rfl) (za rfl (zd en95 rfl ((rh95_1 _).mono ?_))));rintro e w5 ⟨rfl,hb⟩;refine ⟨_,rfl,?_⟩;replace E:=blx E hb;refine qo ?_;refine za rfl (zd en96 rfl ((rh96_3 _).mono ?_))
 rintro e w6 ⟨rfl,hb⟩;refine ⟨_,rfl,?_⟩;replace E:=blx E hb;refine za rfl (yi (z:=0) Tryz.underlying3 u27 rfl (by kernel_rfl) (za rfl (vn (z:=0) rfl rfl (by kernel_rfl) (yk ?_))));exact ⟨by rw[hF];rfl,(LW.step E XLW).toBelow⟩
section
variable (w:World) (a:Nat) (ha:a<18446744073709551616)
include ha
theorem hash_nan (hn:isN a=true):Calls Tryz.prog 77 #[.int .u64 ((a:Nat):Int)] w fun e w'=>e= .returned (.int .i64 (ztz a))∧Below w.heap.size w w':=by
 have _:=ha;refine zh Tryz.func77 rfl Tryz.ntmps77 rfl ?_;have LW:=erx (No) w;have XLW:=grx (No) w;have E:=erx (No) w;refine yx ?_;refine za rfl (qp (b:=a) zzz rfl (qo ?_));refine za rfl (yhq rfl rfl (zy ?_));refine zk 13 (.bool false) rfl ((by rw[ford_nan_no hn]:(.bool (jf a 0==some .lt):Value)=_)) (qa ?_);refine za rfl (xf rfl rfl (qc ?_));refine zk 14 (.bool true) rfl ((by rw[jj,hn]:(.bool (jf a a !=some .eq):Value)=_)) (zz ?_);exact ⟨by rw[ztz,if_pos hn];rfl,(LW.step E XLW).toBelow⟩
theorem hash_inf (hi:rg a=9218868437227405312):Calls Tryz.prog 77 #[.int .u64 ((a:Nat):Int)] w fun e w'=>e= .returned (.int .i64 (ztz a))∧Below w.heap.size w w':=by
 have hn:isN a=false:=decide_eq_false (by omega);refine zh Tryz.func77 rfl Tryz.ntmps77 rfl ?_;have LW:=erx (No) w;have XLW:=grx (No) w;have E:=erx (No) w;refine yx ?_;refine za rfl (qp (b:=a) zzz rfl (qo ?_));refine za rfl (yhq rfl rfl (zy ?_));refine zk 13 (.bool (ng a)) rfl ((by rw[ford_neg hn (by omega)]:(.bool (jf a 0==some .lt):Value)=_)) (zx rfl (fun h=>?_) (fun h=>?_))
 ·
  refine zz ?_;refine za rfl (xf rfl rfl (qc ?_));refine zk 14 (.bool false) rfl ((by rw[jj,hn]:(.bool (jf a a !=some .eq):Value)=_)) (qb ?_);refine za rfl (zd en91 rfl ((jm _ a ha).mono ?_));rintro e w1 ⟨rfl,hb⟩;refine ⟨_,rfl,?_⟩;replace E:=blx E hb;refine zf 20 (.bool true) rfl ((by rw[decide_eq_true hi]:(.bool (decide (rg a=9218868437227405312)):Value)=_)) (yu ?_);refine za rfl (vn (z:=(-314159)) rfl rfl (by kernel_rfl) (yu ?_));exact ⟨by rw[ztz,if_neg (by rw[hn];decide),h,if_pos hi];rfl,(LW.step E XLW).toBelow⟩
 ·
  refine yx ?_;refine za rfl (xf rfl rfl (qc ?_));refine zk 14 (.bool false) rfl ((by rw[jj,hn]:(.bool (jf a a !=some .eq):Value)=_)) (qb ?_);refine za rfl (zd en91 rfl ((jm _ a ha).mono ?_));rintro e w2 ⟨rfl,hb⟩;refine ⟨_,rfl,?_⟩;replace E:=blx E hb;refine zf 20 (.bool true) rfl ((by rw[decide_eq_true hi]:(.bool (decide (rg a=9218868437227405312)):Value)=_)) (yu ?_);refine za rfl (vn (z:=314159) rfl rfl (by kernel_rfl) (yu ?_));exact ⟨by rw[ztz,if_neg (by rw[hn];decide),h,if_pos hi];rfl,(LW.step E XLW).toBelow⟩
section
variable (hf:rg a<9218868437227405312)
include hf
section
variable (h0:rg a≠0)
include h0
theorem hash_num:Calls Tryz.prog 77 #[.int .u64 ((a:Nat):Int)] w fun e w'=>e= .returned (.int .i64 (ztz a))∧Below w.heap.size w w':=by
 have hr:rg a<18446744073709551616:=by omega
 obtain ⟨f1,f2,f3⟩:=frF_parts hf h0;have f0:=(ygv (r:=frF (rg a)) (by omega)).1;have f00:=(ygv (r:=frF (rg a)) (by omega)).2;obtain ⟨fq1,fq2⟩:=fullQ (r:=rg a) h0;have fq3:vl (1074*4503599627370496+mg (nr (rg a)))=vl (frF (rg a))*2^53:=by rewrite [fq1,f3];exact yyq (p:=1074) (q:=1021) (s:=53) (by decide) _
 have hmg:=(mg_nr h0).2;have fw:=gg (ng (frF (rg a))) (1074*4503599627370496+mg (nr (rg a))) (by omega);have fz:floatToIntVal .f64 (Ieee.double.word (ng (frF (rg a))) (1074*4503599627370496+mg (nr (rg a)))) .u64=some ((mg (nr (rg a)):Nat):Int):=by
  have h1:=yax (ng (frF (rg a))) fq2 fq1;have h2:=f2i_u64 (a:=Ieee.double.word (ng (frF (rg a))) (1074*4503599627370496+mg (nr (rg a)))) (by rw[fw.1];exact fq2) (by rw[fw.2.1];exact f00) (by rw[h1];omega);rw[h1] at h2;exact h2
 obtain ⟨b1,b2⟩:=frE_bound hf;obtain ⟨t1,t2,t3⟩:=tmod31 (frE (rg a)-53);obtain ⟨k,hk⟩:∃k:Nat,(frE (rg a)-53)%31=(k:Int):=⟨((frE (rg a)-53)%31).toNat,by omega⟩;have hk31:k<31:=by omega
 have hpr:=hash_prog (r:=rg a) (rg_lt a) h0;have hkt:((frE (rg a)-53)%31).toNat=k:=by omega
 rw[hkt] at hpr;have hp2:2^k≤1073741824:=(Nat.pow_le_pow_right (by decide) (show k≤30 by omega):2^k≤2^30);have hprod:mg (nr (rg a))%2147483647*2^k≤2147483647*1073741824:=Nat.mul_le_mul (Nat.le_of_lt (Nat.mod_lt _ (by decide))) hp2;have hml:=hashM_lt (rg a);have hni:¬rg a=9218868437227405312:=by omega
 refine zh Tryz.func77 rfl Tryz.ntmps77 rfl ?_;have LW:=erx (No) w;have XLW:=grx (No) w;have E:=erx (No) w;refine yx ?_;refine za rfl (qp (b:=a) zzz rfl (qo ?_));refine za rfl (yhq rfl rfl (zy ?_));refine zk 13 (.bool (ng a)) rfl ((by rw[ford_neg (gi hf) h0]:(.bool (jf a 0==some .lt):Value)=_)) (zx rfl (fun h=>?_) (fun h=>?_))
 ·
  refine zz ?_;refine za rfl (xf rfl rfl (qc ?_));refine zk 14 (.bool false) rfl ((by rw[jj,gi hf]:(.bool (jf a a !=some .eq):Value)=_)) (qb ?_);refine za rfl (zd en91 rfl ((jm _ a ha).mono ?_));rintro e w1 ⟨rfl,hb⟩;refine ⟨_,rfl,?_⟩;replace E:=blx E hb;refine zf 20 (.bool false) rfl ((by rw[decide_eq_false (by omega)]:(.bool (decide (rg a=9218868437227405312)):Value)=_)) (zz ?_);refine za rfl (zd en93 rfl ((ywv _ a ha).mono ?_));rintro e w2 ⟨rfl,hb⟩;refine ⟨_,rfl,?_⟩;replace E:=blx E hb;refine za rfl (zd en92 rfl ((qbx _ (rg a) hr (by rw[rg_rg];exact h0) (by rw[rg_rg];exact hf)).mono ?_));rintro e w3 ⟨rfl,hb⟩;refine ⟨_,rfl,?_⟩;replace E:=blx E hb;refine zz ?_;refine za rfl (zd en94 rfl ((qav _ (frF (rg a)) (by omega) (by rw[f0];exact f2) (by rw[f0];exact f1) 53 (1074*4503599627370496+mg (nr (rg a))) (by decide) fq2 (by rw[f0];exact fq3)).mono ?_));rintro e w4 ⟨rfl,hb⟩;refine ⟨_,rfl,?_⟩;replace E:=blx E hb;refine za rfl (yzz (z:=((mg (nr (rg a)):Nat):Int)) u27 (by rw[u98];rfl) rfl fz (yb ?_));refine za rfl (qz rfl rfl (zg (by omega)) (za rfl (ju (z:=(frE (rg a)-53).tmod 31) rfl rfl (by decide) rfl (za rfl (zr rfl rfl (zg (by omega)) (za rfl (ju (z:=((k:Nat):Int)) rfl rfl (by decide) (by rw[t1,hk]) (yb ?_))))))));refine za rfl (ju (z:=((mg (nr (rg a))%2147483647:Nat):Int)) rfl rfl (by decide) (yqq _ 2147483647) (stp ?_));refine za rfl (xn rfl rfl (by omega) (qfk 1 k (by omega)) (zf 41 (.int .u64 ((2^k:Nat):Int)) rfl ((by rw[Nat.one_mul,Nat.mod_eq_of_lt (by omega)]:(.int .u64 ((1*2^k%18446744073709551616:Nat):Int):Value)=_)) (za rfl (zd en95 rfl ((mul64_b (mg (nr (rg a))%2147483647) (2^k) (by omega) (by omega) _).mono ?_)))))
  rintro e w5 ⟨rfl,hb⟩;refine ⟨_,rfl,?_⟩;replace E:=blx E hb;refine qo ?_;refine za rfl (zd en96 rfl ((yyz _ (mg (nr (rg a))%2147483647*2^k/18446744073709551616) (mg (nr (rg a))%2147483647*2^k%18446744073709551616) (by omega) (Nat.mod_lt _ (by decide))).mono ?_));rintro e w6 ⟨rfl,hb⟩;refine ⟨_,rfl,?_⟩;replace E:=blx E hb;refine zf 48 (.int .u64 ((yuz (rg a):Nat):Int)) rfl ((by rw[kv rfl rfl,←hpr]:(.int .u64 (((mg (nr (rg a))%2147483647*2^k/18446744073709551616*18446744073709551616+mg (nr (rg a))%2147483647*2^k%18446744073709551616)%2147483647:Nat):Int):Value)=_)) (za rfl (yi Tryz.underlying3 u27 rfl (zg (by omega)) (za rfl (vn rfl rfl (zg (by omega)) (yk ?_)))));exact ⟨by rw[ztz,if_neg (by rw[gi hf];decide),h,if_neg hni];rfl,(LW.step E XLW).toBelow⟩
 ·
  refine yx ?_;refine za rfl (xf rfl rfl (qc ?_));refine zk 14 (.bool false) rfl ((by rw[jj,gi hf]:(.bool (jf a a !=some .eq):Value)=_)) (qb ?_);refine za rfl (zd en91 rfl ((jm _ a ha).mono ?_));rintro e w7 ⟨rfl,hb⟩;refine ⟨_,rfl,?_⟩;replace E:=blx E hb;refine zf 20 (.bool false) rfl ((by rw[decide_eq_false (by omega)]:(.bool (decide (rg a=9218868437227405312)):Value)=_)) (zz ?_);refine za rfl (zd en93 rfl ((ywv _ a ha).mono ?_));rintro e w8 ⟨rfl,hb⟩;refine ⟨_,rfl,?_⟩;replace E:=blx E hb;refine za rfl (zd en92 rfl ((qbx _ (rg a) hr (by rw[rg_rg];exact h0) (by rw[rg_rg];exact hf)).mono ?_));rintro e w9 ⟨rfl,hb⟩;refine ⟨_,rfl,?_⟩;replace E:=blx E hb;refine zz ?_;refine za rfl (zd en94 rfl ((qav _ (frF (rg a)) (by omega) (by rw[f0];exact f2) (by rw[f0];exact f1) 53 (1074*4503599627370496+mg (nr (rg a))) (by decide) fq2 (by rw[f0];exact fq3)).mono ?_));rintro e w10 ⟨rfl,hb⟩;refine ⟨_,rfl,?_⟩;replace E:=blx E hb;refine za rfl (yzz (z:=((mg (nr (rg a)):Nat):Int)) u27 (by rw[u98];rfl) rfl fz (yb ?_));refine za rfl (qz rfl rfl (zg (by omega)) (za rfl (ju (z:=(frE (rg a)-53).tmod 31) rfl rfl (by decide) rfl (za rfl (zr rfl rfl (zg (by omega)) (za rfl (ju (z:=((k:Nat):Int)) rfl rfl (by decide) (by rw[t1,hk]) (yb ?_))))))));refine za rfl (ju (z:=((mg (nr (rg a))%2147483647:Nat):Int)) rfl rfl (by decide) (yqq _ 2147483647) (stp ?_));refine za rfl (xn rfl rfl (by omega) (qfk 1 k (by omega)) (zf 41 (.int .u64 ((2^k:Nat):Int)) rfl ((by rw[Nat.one_mul,Nat.mod_eq_of_lt (by omega)]:(.int .u64 ((1*2^k%18446744073709551616:Nat):Int):Value)=_)) (za rfl (zd en95 rfl ((mul64_b (mg (nr (rg a))%2147483647) (2^k) (by omega) (by omega) _).mono ?_)))))
  rintro e w11 ⟨rfl,hb⟩;refine ⟨_,rfl,?_⟩;replace E:=blx E hb;refine qo ?_;refine za rfl (zd en96 rfl ((yyz _ (mg (nr (rg a))%2147483647*2^k/18446744073709551616) (mg (nr (rg a))%2147483647*2^k%18446744073709551616) (by omega) (Nat.mod_lt _ (by decide))).mono ?_));rintro e w12 ⟨rfl,hb⟩;refine ⟨_,rfl,?_⟩;replace E:=blx E hb;refine zf 48 (.int .u64 ((yuz (rg a):Nat):Int)) rfl ((by rw[kv rfl rfl,←hpr]:(.int .u64 (((mg (nr (rg a))%2147483647*2^k/18446744073709551616*18446744073709551616+mg (nr (rg a))%2147483647*2^k%18446744073709551616)%2147483647:Nat):Int):Value)=_)) (za rfl (yi Tryz.underlying3 u27 rfl (zg (by omega)) (za rfl (vn rfl rfl (zg (by omega)) (yk ?_)))));exact ⟨by rw[ztz,if_neg (by rw[gi hf];decide),h,if_neg hni];rfl,(LW.step E XLW).toBelow⟩
end
end
theorem hash_any:Calls Tryz.prog 77 #[.int .u64 ((a:Nat):Int)] w fun e w'=>e= .returned (.int .i64 (ztz a))∧Below w.heap.size w w':=by
 cases hn:isN a with
 | true=>exact hash_nan w a ha hn
 | false=>
  have h1:=of_decide_eq_false hn;by_cases hi:rg a=9218868437227405312
  · exact hash_inf w a ha hi
  · by_cases h0:rg a=0
    · exact hash_zero w a ha (by omega) h0
    · exact hash_num w a ha (by omega) h0
end
end Go.Proofs.YtebjkmjfcijebaaGreat
namespace Go.Proofs.YtebjkmjfcijebaaGreat
open Go.RowKit
attribute [local irreducible] OW RS CW EW
set_option maxHeartbeats 20000000
theorem lim_posR {j:Int} (h0:j≠0):0<(limbs j).length:=by rw[vg];exact yez vd (by omega)
theorem val_dropL {b:Nat} (L:List Nat) (j:Nat) (h:j<L.length):val b (L.drop j)=L.getD j 0+b*val b (L.drop (j+1)):=by
 rw[List.drop_eq_getElem_cons h,val,List.getD_eq_getElem?_getD,List.getElem?_eq_getElem h,Option.getD_some]
def upM (b:Nat) (L:List Nat) (k:Nat):Nat:=val b (L.drop (L.length-k))%2147483647
theorem upM_zero (b:Nat) (L:List Nat):upM b L 0=0:=by rw[upM,Nat.sub_zero,List.drop_length];rfl
theorem upM_lt (b:Nat) (L:List Nat) (k:Nat):upM b L k<2147483647:=Nat.mod_lt _ (by decide)
theorem upM_succ {b:Nat} {L:List Nat} {k:Nat} (h:k<L.length):upM b L (k+1)=(upM b L k*b+L.getD (L.length-1-k) 0)%2147483647:=by
 have key:∀V l:Nat,(V%2147483647*b+l)%2147483647=(V*b+l)%2147483647:=fun V l=>by rw[←Nat.mod_add_mod,Nat.mod_mul_mod,Nat.mod_add_mod]
 unfold upM;rw[val_dropL L (L.length-(k+1)) (by omega),show L.length-(k+1)+1=L.length-k by omega,show L.length-(k+1)=L.length-1-k by omega,Nat.add_comm,Nat.mul_comm b];exact (key _ _).symm
theorem upM_limbs (i:Int):upM B18 (limbs i) (limbs i).length=i.natAbs%2147483647:=by rw[upM,Nat.sub_self,List.drop_zero,vg,kf vd]
def hashI (i:Int):Int:=if i<0 then 0-((i.natAbs%2147483647:Nat):Int) else ((i.natAbs%2147483647:Nat):Int)
theorem ex_add64:Ext_ Tryz.prog 97 add64Entry:=⟨_,Tryz.func97,by kernel_rfl,by kernel_rfl,by kernel_rfl,by kernel_rfl⟩
theorem run_add64N (x y:Nat) (w:World):(add64Entry #[.int .u64 ((x:Nat):Int),.int .u64 ((y:Nat):Int),.int .u64 0]).run Tryz.prog w =
 .ok (.tuple #[.int .u64 (((x+y)%18446744073709551616:Nat):Int),.int .u64 (((x+y)/18446744073709551616:Nat):Int)]) w:=by
 rw[run_add64 _ _ 0 (by omega) (by omega) (by omega) (by omega),Int.add_zero,←Int.natCast_add];rfl
theorem hash_round {h l hi lo c s:Nat} (h1:hi*18446744073709551616+lo=h*B18) (h2:c*18446744073709551616+s=lo+l):((hi+c)*18446744073709551616+s)%2147483647=(h*B18+l)%2147483647:=by
 have e:(hi+c)*18446744073709551616+s=h*B18+l:=by rw[Nat.add_mul,Nat.add_assoc,h2,←Nat.add_assoc,h1]
 rw[e]
section
variable (i:Int) (A:Option Addr) (c:Nat) (w:World) (hi:i.natAbs<B18^30) (hx:Nums w A (limbs i))
include hi hx
theorem hashbig_zero (h0:i=0):Calls Tryz.prog 78 #[.agg #[.bool (decide (i<0)),.slice A (limbs i).length c]] w fun e w'=>e= .returned (.int .i64 (hashI i))∧Below w.heap.size w w':=by
 have hl:((limbs i).length:Int)=0:=by rw[h0,vu];rfl
 refine zh Tryz.func78 rfl Tryz.ntmps78 rfl ?_;have HF:Per (No) w (fun _=>True):=Per.true_;have LW:=erx (No) w;have XLW:=grx (No) w;have E:=erx (No) w;replace HF:=HF.on E;replace LW:=LW.step E XLW;replace E:=erx (No) w;replace HF:=HF.and (Per.nums0 hx);refine zy ?_;refine za rfl (zn rfl ?_);intro gb1 w2 Bb1 Eb1 Gb1;have Gb1:_≤gb1:=Nat.le_trans E.size Gb1;have GLb1:=Nat.le_trans LW.size Gb1;replace E:=E.trans Eb1.no;replace HF:=HF.cons (zj Gb1);replace E:=E.cons (some gb1);replace XLW:=Mut.grow XLW (fun k e=>Or.inr (Nat.le_trans LW.size ((zj Gb1) k e)));replace HF:=HF.on E;replace LW:=LW.step E XLW;have SB:∀q9,No q9→Mut [(some gb1)] q9:=(Mut.skip Mut.nil_);replace HF:=HF.less SB;replace XLW:=fun k h=>XLW k (SB k h);clear SB;replace E:=erx (No) w2;replace HF:=HF.and (Per.blkN Bb1 NotIn.nil);refine yu ?_;refine za rfl (zd en36 rfl ((qdk A c _ hi (HF.on E).here.1.2).mono ?_));rintro e w3 ⟨rfl,hb⟩;refine ⟨_,rfl,?_⟩;replace E:=blx E hb;refine zhq ?_;refine za rfl (qz rfl rfl (zg (by omega)) (qb ?_));refine qaq (yu ?_);refine zk 16 (.bool false) rfl ((by rw[hl];rfl:(.bool (decide (0≤(((((limbs i).length:Nat)):Int)-1))):Value)=_)) (jq ?_);refine zk 40 (.bool false) rfl ((by rw[h0];rfl:(.bool (decide (i<0)):Value)=_)) (yb ?_);refine za rfl (yi (z:=0) Tryz.underlying3 u27 rfl (by kernel_rfl) (yk ?_));exact ⟨by rw[h0];rfl,(LW.step E XLW).toBelow⟩
theorem hashbig_num (h0:i≠0):Calls Tryz.prog 78 #[.agg #[.bool (decide (i<0)),.slice A (limbs i).length c]] w fun e w'=>e= .returned (.int .i64 (hashI i))∧Below w.heap.size w w':=by
 have hl2:=xv hi;obtain ⟨bx,ox,rfl,hbx,hcx⟩:=hx.2 (lim_posR h0);have hsm:=ycv i;refine zh Tryz.func78 rfl Tryz.ntmps78 rfl ?_;have HF:Per (No) w (fun _=>True):=Per.true_;have LW:=erx (No) w;have XLW:=grx (No) w;have E:=erx (No) w;replace HF:=HF.on E;replace LW:=LW.step E XLW;replace E:=erx (No) w;replace HF:=HF.and (Per.nums0 hx);refine zy ?_;refine za rfl (zn rfl ?_);intro gb1 w2 Bb1 Eb1 Gb1;have Gb1:_≤gb1:=Nat.le_trans E.size Gb1;have GLb1:=Nat.le_trans LW.size Gb1;replace E:=E.trans Eb1.no;replace HF:=HF.cons (zj Gb1);replace E:=E.cons (some gb1);replace XLW:=Mut.grow XLW (fun k e=>Or.inr (Nat.le_trans LW.size ((zj Gb1) k e)));replace HF:=HF.on E;replace LW:=LW.step E XLW;have SB:∀q9,No q9→Mut [(some gb1)] q9:=(Mut.skip Mut.nil_);replace HF:=HF.less SB;replace XLW:=fun k h=>XLW k (SB k h);clear SB;replace E:=erx (No) w2;replace HF:=HF.and (Per.blkN Bb1 NotIn.nil);refine yu ?_;refine za rfl (zd en36 rfl ((qdk (some ⟨bx,ox,none⟩) c _ hi (HF.on E).here.1.2).mono ?_));rintro e w3 ⟨rfl,hb⟩;refine ⟨_,rfl,?_⟩;replace E:=blx E hb;refine zhq ?_;refine za rfl (qz rfl rfl (zg (by omega)) (qb ?_));replace HF:=HF.on E;replace LW:=LW.step E XLW;replace E:=erx (No) w3;refine qw (ι:=Nat) (fun k=>[(1,.pointer (some ⟨gb1,0,none⟩)),(3,.int .u64 ((upM B18 (limbs i) k:Nat):Int)),(4,.int .i64 (((limbs i).length:Int)-1-((k:Nat):Int)))]) (fun k w'=>Ext (No) w3 w'∧(k≤(limbs i).length)) (fun k=>(limbs i).length-k) 0 ⟨rfl,congrArg (fun z:Nat=>some (Value.int .u64 (z:Int))) (upM_zero _ _).symm,congrArg (fun z:Int=>some (Value.int .i64 z)) (by omega),trivial⟩ ⟨Ext.refl _ _,Nat.zero_le _⟩ ?_;rintro k w5 ⟨M4,hk⟩;have XM4:=grx (No) w3;replace E:=E.trans M4;replace HF:=HF.on E;replace LW:=LW.step E XLW;replace E:=erx (No) w5;refine yu ?_
 refine zk 16 (.bool (decide (k<(limbs i).length))) rfl (bool_dec (by omega)) ?_;have hup:=upM_lt B18 (limbs i) k;refine zx rfl (fun hl=>?_) (fun hl=>?_)
 ·
  have hl:=of_decide_eq_true hl;obtain ⟨h,hh⟩:∃h,h=upM B18 (limbs i) k:=⟨_,rfl⟩;obtain ⟨l,hll⟩:∃l,l=(limbs i).getD ((limbs i).length-1-k) 0:=⟨_,rfl⟩;have hlb:l<1000000000000000000:=by rw[hll];exact ynk (by decide) hsm _
  have hnx:upM B18 (limbs i) (k+1)=(h*B18+l)%2147483647:=by rw[upM_succ hl,←hh,←hll]
  rw[←hh] at hup;refine zk 3 (.int .u64 ((h:Nat):Int)) rfl ((by rw[hh]:(.int .u64 ((upM B18 (limbs i) k:Nat):Int):Value)=_)) ?_;obtain ⟨p,hp⟩:∃p,p=h*1000000000000000000/18446744073709551616:=⟨_,rfl⟩;obtain ⟨q,hq⟩:∃q,q=h*1000000000000000000%18446744073709551616:=⟨_,rfl⟩;have hpq:p*18446744073709551616+q=h*B18:=kv hp hq;have hpb:p<2147483647:=by rw[hp];exact Nat.div_lt_of_lt_mul (Nat.lt_of_lt_of_le (Nat.mul_lt_mul_of_pos_right hup (by decide)) (by decide))
  have hqb:q<18446744073709551616:=oq (by decide) hq;obtain ⟨t,ht⟩:∃t,t=(q+l)/18446744073709551616:=⟨_,rfl⟩;obtain ⟨s,hs⟩:∃s,s=(q+l)%18446744073709551616:=⟨_,rfl⟩;have hts:t*18446744073709551616+s=q+l:=kv ht hs;have hsb:s<18446744073709551616:=oq (by decide) hs;have htb:t<2:=by rw[ht];exact Nat.div_lt_of_lt_mul (by omega)
  refine yu ?_;refine za rfl (zd en95 rfl ((mul64_b h 1000000000000000000 (by omega) (by decide) _).mono ?_));rintro e w6 ⟨rfl,hb⟩;refine ⟨_,rfl,?_⟩;replace E:=blx E hb;refine zf 21 (.tuple #[.int .u64 ((p:Nat):Int),.int .u64 ((q:Nat):Int)]) rfl ((by rw[hp,hq]:(.tuple #[.int .u64 ((h*1000000000000000000/18446744073709551616:Nat):Int),.int .u64 ((h*1000000000000000000%18446744073709551616:Nat):Int)]:Value)=_)) (jq ?_);refine za rfl (zi (j:=(limbs i).length-1-k) u22 qk rfl rfl (by omega) (by omega) ?_);obtain ⟨b9,o9,hA9,_,hc9⟩:=((HF.on E).here.1.2).2 (lim_posR h0);obtain ⟨rfl,rfl⟩:b9=bx∧o9=ox:=by simpa using hA9.symm
  refine za rfl (yl u27 rfl rfl (hc9 ((limbs i).length-1-k) (by omega)) (zf 30 (.int .u64 ((l:Nat):Int)) rfl ((by rw[nth_nat,hll]:(.int .u64 (nth (limbs i) ((limbs i).length-1-k)):Value)=_)) (za rfl (ow_ext (args:=[.int .u64 ((q:Nat):Int),.int .u64 ((l:Nat):Int),.int .u64 0]) ex_add64 rfl (run_add64N q l _) (zf 31 (.tuple #[.int .u64 ((s:Nat):Int),.int .u64 ((t:Nat):Int)]) rfl ((by rw[hs,ht]:(.tuple #[.int .u64 (((q+l)%18446744073709551616:Nat):Int),.int .u64 (((q+l)/18446744073709551616:Nat):Int)]:Value)=_)) (zz ?_))))));refine za rfl (zr rfl rfl (wrap_u64 (by omega)) (stp ?_));refine zf 36 (.int .u64 ((p+t:Nat):Int)) rfl ((by rw[Int.natCast_add]:(.int .u64 (((p:Nat):Int)+((t:Nat):Int)):Value)=_)) (za rfl (zd en96 rfl ((yyz _ (p+t) s (by omega) hsb).mono ?_)));rintro e w7 ⟨rfl,hb⟩;refine ⟨_,rfl,?_⟩;replace E:=blx E hb;refine zf 38 (.int .u64 ((upM B18 (limbs i) (k+1):Nat):Int)) rfl ((by rw[hash_round hpq hts,←hnx]:(.int .u64 ((((p+t)*18446744073709551616+s)%2147483647:Nat):Int):Value)=_)) (yb ?_);refine za rfl (qz rfl rfl (zg (by omega)) (zy ?_));exact qf (k+1) (by omega) ⟨rfl,rfl,congrArg (fun z:Int=>some (Value.int .i64 z)) (by omega),trivial⟩ ⟨M4.step E XM4,by omega⟩
 ·
  have hl:=of_decide_eq_false hl;have hke:k=(limbs i).length:=by omega
  have hend:upM B18 (limbs i) k=i.natAbs%2147483647:=by rw[hke,upM_limbs]
  refine zk 3 (.int .u64 ((i.natAbs%2147483647:Nat):Int)) rfl ((by rw[hend]:(.int .u64 ((upM B18 (limbs i) k:Nat):Int):Value)=_)) (qo ?_);refine zx rfl (fun hn=>?_) (fun hn=>?_)
  ·
   refine qc ?_;refine za rfl (yi Tryz.underlying3 u27 rfl (zg (by omega)) (za rfl (yyv rfl (zg (by omega)) (yb ?_))));exact ⟨by rw[hashI,if_pos (of_decide_eq_true hn)];rfl,(LW.step E XLW).toBelow⟩
  ·
   refine yk ?_;refine za rfl (yi Tryz.underlying3 u27 rfl (zg (by omega)) (yk ?_));exact ⟨by rw[hashI,if_neg (of_decide_eq_false hn)];rfl,(LW.step E XLW).toBelow⟩
theorem hashbigI:Calls Tryz.prog 78 #[.agg #[.bool (decide (i<0)),.slice A (limbs i).length c]] w fun e w'=>e= .returned (.int .i64 (hashI i))∧Below w.heap.size w w':=by
 by_cases h0:i=0
 · exact hashbig_zero i A c w hi hx h0
 · exact hashbig_num i A c w hi hx h0
/-! ### the document's -/
end
/-! ### numbers that are not in form -/
section
variable (n1:Bool) (A:Option Addr) (c:Nat) (xs:List Nat) (w:World) (hx:Nums w A xs) (hl:xs.length≤9223372036854775807) (hg:yq n1 xs=false)
include hx hl hg
theorem hashbig_bad:Calls Tryz.prog 78 #[.agg #[.bool n1,.slice A xs.length c]] w fun e w'=>e= .returned (.int .i64 0)∧Below w.heap.size w w':=by
 refine zh Tryz.func78 rfl Tryz.ntmps78 rfl ?_;have HF:Per (No) w (fun _=>True):=Per.true_;have LW:=erx (No) w;have XLW:=grx (No) w;have E:=erx (No) w;replace HF:=HF.on E;replace LW:=LW.step E XLW;replace E:=erx (No) w;replace HF:=HF.and (Per.nums0 hx);refine zy ?_;refine za rfl (zn rfl ?_);intro gb1 w2 Bb1 Eb1 Gb1;have Gb1:_≤gb1:=Nat.le_trans E.size Gb1;have GLb1:=Nat.le_trans LW.size Gb1;replace E:=E.trans Eb1.no;replace HF:=HF.cons (zj Gb1);replace E:=E.cons (some gb1);replace XLW:=Mut.grow XLW (fun k e=>Or.inr (Nat.le_trans LW.size ((zj Gb1) k e)));replace HF:=HF.on E;replace LW:=LW.step E XLW;have SB:∀q9,No q9→Mut [(some gb1)] q9:=(Mut.skip Mut.nil_);replace HF:=HF.less SB;replace XLW:=fun k h=>XLW k (SB k h);clear SB;replace E:=erx (No) w2;replace HF:=HF.and (Per.blkN Bb1 NotIn.nil);refine yu ?_;refine za rfl (zd en36 rfl ((qm n1 c _ A xs hl (HF.on E).here.1.2).mono ?_));rintro e w3 ⟨rfl,hb⟩;refine ⟨_,rfl,?_⟩;replace E:=blx E hb;refine zf 9 (.bool false) rfl ((by rw[hg]:(.bool (yq n1 xs):Value)=_)) (qo ?_);exact ⟨rfl,(LW.step E XLW).toBelow⟩
end
noncomputable def hashO (n1:Bool) (xs:List Nat):Int:=if yq n1 xs then hashI (num n1 xs) else 0
section
variable (n1:Bool) (A:Option Addr) (c:Nat) (xs:List Nat) (w:World) (hx:Nums w A xs) (hl:xs.length≤9223372036854775807)
include hx hl
theorem hashbig_any:Calls Tryz.prog 78 #[.agg #[.bool n1,.slice A xs.length c]] w fun e w'=>e= .returned (.int .i64 (hashO n1 xs))∧Below w.heap.size w w':=by
 cases hg:yq n1 xs with
 | false=>
  rw[hashO,if_neg (by rw[hg];decide)];exact hashbig_bad n1 A c xs w hx hl hg
 | true=>
  rw[hashO,if_pos hg];obtain ⟨i,rfl,rfl,hi⟩:=yjq hg;rw[ja];exact hashbigI i A c w hi hx
end
end Go.Proofs.YtebjkmjfcijebaaGreat
namespace Go.Proofs.YtebjkmjfcijebaaGreat
open Go.RowKit
def PV.raw (v:PV):List Nat:=if v.k=3 then [yc v.bits] else if v.k=4 then jo v.s else (if v.neg then 1 else 0)::v.xs
def PV.big (v:PV):Prop:=v.k=3∨v.k=4∨(v.k=2∧2≤v.xs.length)
def PV.small (v:PV):Nat:=if v.k=0 then 2 else if v.k=1 then (if v.yes then 10 else 6) else zdz (num v.neg v.xs)
inductive PutCase (v:PV) (W:List Nat) (top:Nat):Nat→Int→List Nat→Nat→Prop
 | bad:v.good=false→PutCase v W top 0 3 W top
 | small {x:Nat}:v.good=true→ ¬v.big→x=v.small→PutCase v W top x 0 W top
 | full:v.good=true→v.big→W.length<top+(2+0+v.raw.length)→PutCase v W top 0 5 W top
 | laid:v.good=true→v.big→top+(2+0+v.raw.length)≤W.length→PutCase v W top (4*top) 0 (laid W top v.k.natAbs [] v.raw) (top+(2+0+v.raw.length))
theorem PutCase.same {v:PV} {W V V':List Nat} {top x x' t t':Nat} {e e':Int} (h:PutCase v W top x e V t) (h':PutCase v W top x' e' V' t'):x=x'∧e=e'∧V=V'∧t=t':=by
 cases h with
 | bad h1=>cases h' with
  | bad _=>exact ⟨rfl,rfl,rfl,rfl⟩
  | small k1 _ _=>rw[h1] at k1;cases k1
  | full k1 _ _=>rw[h1] at k1;cases k1
  | laid k1 _ _=>rw[h1] at k1;cases k1
 | small h1 h2 h3=>cases h' with
  | bad k1=>rw[h1] at k1;cases k1
  | small _ _ k3=>exact ⟨h3.trans k3.symm,rfl,rfl,rfl⟩
  | full _ k2 _=>exact absurd k2 h2
  | laid _ k2 _=>exact absurd k2 h2
 | full h1 h2 h3=>cases h' with
  | bad k1=>rw[h1] at k1;cases k1
  | small _ k2 _=>exact absurd h2 k2
  | full _ _ _=>exact ⟨rfl,rfl,rfl,rfl⟩
  | laid _ _ k3=>omega
 | laid h1 h2 h3=>cases h' with
  | bad k1=>rw[h1] at k1;cases k1
  | small _ k2 _=>exact absurd h2 k2
  | full _ _ k3=>omega
  | laid _ _ _=>exact ⟨rfl,rfl,rfl,rfl⟩
theorem PV.good_k {v:PV} (h:v.good=true):v.k=0∨v.k=1∨v.k=2∨v.k=3∨v.k=4:=by
 refine Decidable.byContradiction fun hk=>?_;have h0:¬v.k=0:=fun e=>hk (Or.inl e);have h1:¬v.k=1:=fun e=>hk (Or.inr (Or.inl e));have h2:¬v.k=2:=fun e=>hk (Or.inr (Or.inr (Or.inl e)));have h3:¬v.k=3:=fun e=>hk (Or.inr (Or.inr (Or.inr (Or.inl e))));have h4:¬v.k=4:=fun e=>hk (Or.inr (Or.inr (Or.inr (Or.inr e))));unfold PV.good at h;rw[if_neg h0,if_neg h1,if_neg h2,if_neg h3,if_neg h4,Bool.and_false] at h;cases h
theorem PV.good_2 {v:PV} (h:v.good=true) (hk:v.k=2):yq v.neg v.xs=true:=by
 unfold PV.good at h;rw[if_neg (by omega),if_neg (by omega),if_pos hk] at h;simp only[Bool.and_eq_true] at h
 exact h.2.1.1.1
theorem PV.good_4 {v:PV} (h:v.good=true) (hk:v.k=4):v.s.size≤20000:=by
 unfold PV.good at h;rw[if_neg (by omega),if_neg (by omega),if_neg (by omega),if_neg (by omega),if_pos hk] at h;simp only[Bool.and_eq_true,decide_eq_true_eq] at h
 exact h.2.2
theorem yxv {neg:Bool} {xs:List Nat} (h:yq neg xs=true) (hl:xs.length<2):-999999999999999999≤num neg xs∧num neg xs≤999999999999999999∧inR (num neg xs):=by
 obtain ⟨hs,_,_,_⟩:=qj h;have h1:=kl hs;have h2:B18^xs.length≤B18^1:=Nat.pow_le_pow_right (by unfold B18;omega) (by omega);have h3:B18^1=1000000000000000000:=by unfold B18;rfl
 have h4:=zdk neg xs;unfold inR;omega
theorem oz {w:World} {lo g c:Nat} {W:List Nat} (h:w.ownsRow lo 27 1 (.slice (some ⟨g,0,none⟩) W.length c) W.length (ym W)) (hl:8*W.length≤140737488355000) (hi:∀x∈W,U64 x):WordsA (g+1) w (some ⟨g,0,none⟩) W:=
 ⟨hl,hi,fun h0=>by
  obtain ⟨g',hA,_,hg,hc⟩:=zvv h (List.length_pos_iff.2 h0);cases hA
  refine ⟨g,0,rfl,Nat.lt_succ_self g,fun j x hx=>?_⟩;show w.cell? ⟨g,0+j*1,none⟩=_
  rw[Nat.zero_add,Nat.mul_one];refine hc j _ ?_;unfold ym;rw[List.getElem?_map,hx];rfl⟩
def marks (n:Nat):List Nat:=(List.range 6).map fun j=>7770000+(n+j)
theorem nth_get {xs:List Nat} {k v:Nat} (h:xs[k]? =some v):nth xs k=(v:Int):=by
 unfold nth;rw[List.getD_eq_getElem?_getD,h];rfl
theorem nth_left {xs ys:List Nat} {k:Nat} (h:k<xs.length):nth (xs++ys) k=nth xs k:=by
 unfold nth;rw[List.getD_eq_getElem?_getD,List.getElem?_append_left h,←List.getD_eq_getElem?_getD]
def Roomy (w:World) (g:Nat) (xs:List Nat):Prop:=Row w g (xs.length+6) (xs++marks xs.length)
theorem Row.blk {w:World} {g n:Nat} {ys:List Nat} (h:Row w g n ys):∃cs,Blk w g 27 cs∧cs.size=n∧ ∀i,i<n→cs[i]? =some (yrk ys i):=h.1
section
variable (A:Option Addr) (c:Nat) (xs:List Nat) (w:World)
end
end Go.Proofs.YtebjkmjfcijebaaGreat
namespace Go.Proofs.YtebjkmjfcijebaaGreat
open Go.RowKit
attribute [local irreducible] OW RS
theorem WordsA.nums {n:Nat} {w:World} {A:Option Addr} {T:List Nat} (h:WordsA n w A T) (hn:n≤w.heap.size):Nums w A T:=by
 refine ⟨fun k=>?_,fun h0=>?_⟩
 · by_cases hk:k<T.length
   · have h1:=List.getElem?_eq_getElem hk;rw[nth_get h1];have:=h.in_ _ (List.mem_of_getElem? h1);unfold U64 at this;omega
   · unfold nth;rw[List.getD_eq_getElem?_getD,List.getElem?_eq_none (by omega)];decide
 · obtain ⟨g,o,e,hg,_⟩:=h.cell (List.getElem?_eq_getElem h0);refine ⟨g,o,e,by omega,fun k hk=>?_⟩;obtain ⟨g2,o2,e2,_,hc⟩:=h.cell (List.getElem?_eq_getElem hk);rw[e] at e2;cases e2
   rw[hc,nth_get (List.getElem?_eq_getElem hk)]
theorem Roomy.words {w:World} {g n:Nat} {T:List Nat} (h:Roomy w g T) (hg:g<n) (hl:8*T.length≤140737488355000) (hi:∀x∈T,U64 x):WordsA n w (some ⟨g,0,none⟩) T:=
 ⟨hl,hi,fun _=>⟨g,0,rfl,hg,fun j x hx=>by
  have hj:=(List.getElem?_eq_some_iff.1 hx).1;show w.cell? ⟨g,0+j*1,none⟩=_
  rw[Nat.zero_add,Nat.mul_one,h.cell (by omega),nth_left hj,nth_get hx]⟩⟩
theorem OwnM.cap {lo gm gW cap top:Nat} {w:World} {W:List Nat} (h:OwnM lo w gm gW cap W top):∃cur,Blk w gW 27 cur∧W.length≤cap∧cap≤maxLen∧cur.size=cap:=by
 rcases h.row.2 with ⟨h1,_⟩ | ⟨g,c,cur,h1,_,h3,h4,h5,h6,_⟩
 · cases h1
 · cases h1
   exact ⟨cur,h3,h4,by omega,by omega⟩
section
variable (lo gm gW cap top c n:Nat) (w:World) (W T:List Nat) (B:Option Addr) (l:List Nat) (hM:OwnM lo w gm gW cap W top) (hF:FormL W top l) (hmW:gm≠gW) (hT:∀z,Ext (Mut [some gm,some gW]) w z→WordsA n z B T) (hn:n≤w.heap.size) (hg:∀x∈T,WordOk l x)
include hM hF hmW hT hn hg
def RetObj (lo gm gW cap top:Nat) (w:World) (W T l:List Nat) (e:Ending) (w':World):Prop:=∃(x:Nat) (er:Int) (W':List Nat) (t':Nat) (l':List Nat),e= .returned (.tuple #[.int .u64 ((x:Nat):Int),.int .i64 er])∧OwnM lo w' gm gW cap W' t'∧Ext (Mut [some gm,some gW]) w w'∧Grown2 W top l W' t' l'∧U64 x∧(er=0→T.length≤20000∧HasItems W' t' x T)
end
section
variable (w:World) (A B:Option Addr) (W T:List Nat) (c d n:Nat) (top:Int) (hw:WordsA n w A W) (hr:WordsA n w B T) (htop:I64 top) (hn:n≤w.heap.size) (hTl:T.length*8≤140737488351232)
include hw hr htop hn hTl
end
end Go.Proofs.YtebjkmjfcijebaaGreat

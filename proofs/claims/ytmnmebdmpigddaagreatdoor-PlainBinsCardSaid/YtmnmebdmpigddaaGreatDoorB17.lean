/- Texts of this claim. -/
import Derived.Test.YtmnmebdmpigddaaGreatDoorB16
import Derived.WalkKit
import Derived.Lib.Mul64
import Derived.Laws.Bits64b
import Derived.BigQuiet
import Derived.Deep.QuietTactic
import Derived.Lib.Hide
import Derived.Laws.Externs
import Derived.Deep.DeepCutAuto
import Derived.Deep.CutBlock
import Derived.Test.YtmnmebdmpigddaaGreatDoorRows
set_option maxRecDepth 100000
set_option maxHeartbeats 20000000
namespace Go.Proofs.YtmnmebdmpigddaaGreatDoor
open Go.RowKit Go.Lib
theorem apj {P:Prop} (h:P:=by
 have hqp:1≤q:=by omega
 have HDN:=Lib.hid hdn;have HQ2:Hid ((q-1)*3725290298+(r+3725290298)=T):=by have:=HQR.out;show _=_;omega
 clear hdn;by_cases hB:4294967296≤r+3725290298
 · have hend:=qjx bT0 bT1 b00 b01 HQ2.out (by omega) HDN.out (by omega);have Gy:=Lib.hid hend;clear hend;go_wp2
   go_meet
   exact ⟨by rw[Gy.out],rfl⟩
 · go_wp2
   go_round
   case rel=>exact ⟨q-1,r+3725290298,rfl,rfl,by omega,by omega,by omega,by omega,HQ2,HDN⟩
   case measure=>simp[RowKit.intOf];omega):P:=h
theorem aq0 {P:Prop} (h:P:=by
 have hqp:1≤q:=by omega
 have HDN:=Lib.hid hdn;have HQ2:Hid ((q-1)*3725290298+(r+3725290298)=U):=by have:=HQR.out;show _=_;omega
 clear hdn;by_cases hB:4294967296≤r+3725290298
 · have hend:=qjx bU0 bU1 b10 b11 HQ2.out (by omega) HDN.out (by omega);have Gy:=Lib.hid hend;clear hend;go_wp2
   go_meet
   exact ⟨by rw[Gy.out],rfl⟩
 · go_wp2
   go_round
   case rel=>exact ⟨q-1,r+3725290298,rfl,rfl,by omega,by omega,by omega,by omega,HQ2,HDN⟩
   case measure=>simp[RowKit.intOf];omega):P:=h
namespace Bf
theorem maskN (a:Nat) (ha:a<18446744073709551616):bits .and .u64 (a:Int) 4294967295=((a%4294967296:Nat):Int):=by
 have h:=bits_and_u64_nat a 4294967295 ha (by omega);have e:a &&& 4294967295=a%4294967296:=Nat.and_two_pow_sub_one_eq_mod a 32;rw[e] at h;exact h
theorem divN (a:Nat):(a:Int)/4294967296=((a/4294967296:Nat):Int):=by omega
theorem mulN (a b:Nat):(a:Int)*(b:Int)=((a*b:Nat):Int):=(Int.natCast_mul a b).symm
theorem addN (a b:Nat):(a:Int)+(b:Int)=((a+b:Nat):Int):=(Int.natCast_add a b).symm
theorem wrapN (a:Nat) (ha:a<18446744073709551616):IntKind.u64.wrap (a:Int)=(a:Int):=by rw[IntKind.wrap_u64];omega
theorem wrapM (a:Nat):IntKind.u64.wrap (a:Int)=((a%18446744073709551616:Nat):Int):=by rw[IntKind.wrap_u64];omega
end Bf
set_option maxHeartbeats 1000000 in
theorem qY (x y:Nat) (hx:x<18446744073709551616) (hy:y<18446744073709551616) (w:World) :
 Calls Tryz.prog 114 #[.int .u64 x,.int .u64 y] w fun e w'=>e= .returned (.tuple #[.int .u64 ((x*y/18446744073709551616:Nat):Int),.int .u64 ((x*y%18446744073709551616:Nat):Int)])∧w=w':=by
 obtain ⟨bd,bt,bw,hhi⟩:=Lib.mul64_hi x y hx hy;have ba:=Lib.half_mul_le (a:=x/4294967296) (b:=y/4294967296) (by omega) (by omega);have bb:=Lib.half_mul_le (a:=x/4294967296) (b:=y%4294967296) (by omega) (by omega);have bc:=Lib.half_mul_le (a:=x%4294967296) (b:=y/4294967296) (by omega) (by omega);have ba':x/4294967296*(y/4294967296)<18446744073709551616:=by omega
 have bb':x/4294967296*(y%4294967296)<18446744073709551616:=by omega
 have bc':x%4294967296*(y/4294967296)<18446744073709551616:=by omega
 have bh1:x/4294967296*(y/4294967296)+(x/4294967296*(y%4294967296)+x%4294967296*(y%4294967296)/4294967296)/4294967296<18446744073709551616:=by omega
 have bh:x/4294967296*(y/4294967296)+(x/4294967296*(y%4294967296)+x%4294967296*(y%4294967296)/4294967296)/4294967296+((x/4294967296*(y%4294967296)+x%4294967296*(y%4294967296)/4294967296)%4294967296+x%4294967296*(y/4294967296))/4294967296<18446744073709551616:=by omega
 go_enter Tryz.func114,Tryz.ntmps114
 go_wp2
 simp only[Bf.maskN x hx,Bf.maskN y hy,Bf.divN,Bf.mulN,Bf.addN,Bf.wrapN _ bd,Bf.wrapN _ bb',Bf.wrapN _ bt,Bf.maskN _ bt,Bf.wrapN _ bc',Bf.wrapN _ bw,Bf.wrapN _ ba',Bf.wrapN _ bh1,Bf.wrapN _ bh,Bf.wrapM (x*y)]
 rw[hhi];go_ret2
 exact ⟨rfl,rfl⟩
theorem Na (w:World):Calls Tryz.prog 174 #[.int .u64 1000000000000000000] w fun e w'=>e= .returned (.int .i64 4)∧w=w':=by
 go_enter Tryz.func174,Tryz.ntmps174
 go_wp2
 go_ret
 exact ⟨by kernel_rfl,rfl⟩
theorem        qZ (x y : Int) (hx : 0 ≤ x) (hy : 0 ≤ y) (w : World) :
 (callFunc 116 #[.int .u64 x, .int .u64 y, .int .u64 0]).run Tryz.prog w =
  .ok (.value (.tuple #[.int .u64 ((x + y) % 18446744073709551616), .int .u64 ((x + y) / 18446744073709551616)])) w := by
 rw [run_callFunc_extern Tryz.func116 (by kernel_rfl) (by kernel_rfl) (by kernel_rfl) (e := add64Entry) (by kernel_rfl), run_add64 x y 0 hx hy (by omega) (by omega)];simp only [Result.andThen, Int.add_zero]
theorem ay8 (hi lo:Int) (h0:0≤hi) (h1:hi<1000000000000000000) (l0:0≤lo) (l1:lo<18446744073709551616) :
 bits .or .u64 (hi*16) (lo/1152921504606846976)=hi*16+lo/1152921504606846976:=by
 obtain ⟨a,rfl⟩:=Int.eq_ofNat_of_zero_le h0;obtain ⟨b,hb⟩:=Int.eq_ofNat_of_zero_le (show 0≤lo/1152921504606846976 by omega);rw[hb];have h:=bits_or_u64_nat (a*16) b (by omega) (by omega);have e:a*16 ||| b=a*16+b:=by
  have:=Nat.shiftLeft_add_eq_or_of_lt (show b<2^4 by omega) a;rw[Nat.shiftLeft_eq] at this;exact this.symm
 rw[e] at h;rw[show ((a:Int)*16)=((a*16:Nat):Int) by omega,h];omega
theorem Bg (V:Int) (h0:0≤V) (h1:V<18446744073709551616):bits .and .u64 V 4294967295=V%4294967296:=by
 obtain ⟨a,rfl⟩:=Int.eq_ofNat_of_zero_le h0;rw[Bf.maskN a (by omega)];omega
theorem qjx {U V q r:Int} (h0:0≤U) (h1:U<16000000000000000000) (v0:0≤V) (v1:V<4294967296) (hq:q*3725290298+r=U) (hr:0≤r)
 (hQ:(U*4294967296+V)/16000000000000000000≤q) (ht:q*1983905792≤4294967296*r+V):q=(U*4294967296+V)/16000000000000000000:=by omega
theorem ysx {U V q r:Int} (h0:0≤U) (h1:U<16000000000000000000) (v0:0≤V) (v1:V<4294967296) (hq:q*3725290298+r=U)
 (ht:4294967296≤q∨4294967296*r+V<q*1983905792):(U*4294967296+V)/16000000000000000000≤q-1:=by omega
set_option maxHeartbeats 2000000 in
theorem Gz (hi lo:Int) (h0:0≤hi) (h1:hi<1000000000000000000) (l0:0≤lo) (l1:lo<18446744073709551616) (w:World) :
 Calls Tryz.prog 146 #[.int .u64 hi,.int .u64 lo,.int .u64 1000000000000000000] w fun e w'=>e= .returned (.tuple #[.int .u64 ((hi*18446744073709551616+lo)/1000000000000000000),.int .u64 ((hi*18446744073709551616+lo)%1000000000000000000)])∧ ∃n,w'=w.drewN n:=by
 by_cases hz:hi=0
 · subst hz;have e1:(0:Int)*18446744073709551616+lo=lo:=by omega
   rw[e1];have hq0:0≤lo/1000000000000000000:=by omega
   have hr0:0≤lo%1000000000000000000:=by omega
   go_enter Tryz.func146,Tryz.ntmps146
   go_wp2
   go_quiet (fail)
   go_wp2
   go_ret2
   exact ⟨by simp,_,rfl⟩
 · have hz2:(hi==0)=false:=by simpa using hz
   have hle:¬1000000000000000000≤hi:=by omega
   clear hz;obtain ⟨U,hU⟩:∃U,U=hi*16+lo/1152921504606846976:=⟨_,rfl⟩;obtain ⟨V,hV⟩:∃V,V=lo*16%18446744073709551616:=⟨_,rfl⟩;obtain ⟨V1,hV1⟩:∃V1,V1=V/4294967296:=⟨_,rfl⟩;obtain ⟨V0,hV0⟩:∃V0,V0=V%4294967296:=⟨_,rfl⟩;obtain ⟨Q,hQ⟩:∃Q,Q=U/3725290298:=⟨_,rfl⟩;have eor:bits .or .u64 (hi*16) (lo/1152921504606846976)=U:=by rw[ay8 hi lo h0 h1 l0 l1,hU]
   have ew:IntKind.u64.wrap (lo*16)=V:=by rw[IntKind.wrap_u64,hV]
   have bU0:0≤U:=by omega
   have bU1:U<16000000000000000000:=by omega
   have bV0:0≤V:=by omega
   have bV1:V<18446744073709551616:=by omega
   have b10:0≤V1:=by omega
   have b11:V1<4294967296:=by omega
   have b00:0≤V0:=by omega
   have b01:V0<4294967296:=by omega
   have bQ0:0≤Q:=by omega
   have bQ1:Q≤4294967297:=by omega
   have em:bits .and .u64 V 4294967295=V0:=by rw[Bg V bV0 bV1,hV0]
   have ed:V/4294967296=V1:=hV1.symm;have ec:bits .and .u64 16000000000000000000 4294967295=1983905792:=by rw[Bg _ (by omega) (by omega)];rfl
   have eq:U/3725290298=Q:=hQ.symm;have HU:=Lib.hid hU;have HV:=Lib.hid hV;have HV1:=Lib.hid hV1;have HV0:=Lib.hid hV0;have HQ:=Lib.hid hQ;have bR0:0≤U-Q*3725290298:=by omega
   have bR1:U-Q*3725290298<3725290298:=by omega
   clear hU hV hV1 hV0 hQ;go_enter Tryz.func146,Tryz.ntmps146
   go_upto_block 0 with (go_at_call 174;refine (Na _).mono ?_;rintro e w' ⟨rfl,rfl⟩)
   clear eq eor ew em ed ec;go_cut [15] (fun v wx=>v= .int .u64 ((U*4294967296+V1)/16000000000000000000)∧w=wx)
   case first=>
    go_wp2_with fail
    go_loop [15,16] (fun qv rv=>∃q r:Int,qv= .int .u64 q∧rv= .int .u64 r∧0≤q∧q≤4294967297∧0≤r∧r<4294967296∧Hid (q*3725290298+r=U)∧Hid ((U*4294967296+V1)/16000000000000000000≤q)) (fun qv _=>(RowKit.intOf qv).toNat)
    case atStart=>exact ⟨Q,U-Q*3725290298,by rw[HQ.out],rfl,bQ0,bQ1,bR0,by omega,by show _=_;omega,by have:=HQ.out;show _≤_;omega⟩
    case round=>
     obtain ⟨q,r,rfl,rfl,hq0,hq1,hr0,hr1,HQR,yO⟩:=hrel;by_cases hA:4294967296≤q
     · have hdn:=ysx bU0 bU1 b10 b11 HQR.out (Or.inl hA);exact aq0
     · by_cases hT:4294967296*r+V1<q*1983905792
       · have hdn:=ysx bU0 bU1 b10 b11 HQR.out (Or.inr hT);exact aq0
       · have hend:=qjx bU0 bU1 b10 b11 HQR.out hr0 yO.out (by omega);have Gy:=Lib.hid hend;clear hend;go_wp2
         go_meet
         exact ⟨by rw[Gy.out],rfl⟩
   case rest=>
    obtain ⟨rfl,rfl⟩:=hcut;obtain ⟨P,hP⟩:∃P,P=(U*4294967296+V1)/16000000000000000000:=⟨_,rfl⟩;obtain ⟨T,hT⟩:∃T,T=(U*4294967296+V1)%16000000000000000000:=⟨_,rfl⟩;rw[←hP];have bP0:0≤P:=by omega
    have bP1:P<4294967296:=by omega
    have bT0:0≤T:=by omega
    have bT1:T<16000000000000000000:=by omega
    obtain ⟨Q2,hQ2⟩:∃Q2,Q2=T/3725290298:=⟨_,rfl⟩;have cQ0:0≤Q2:=by omega
    have cQ1:Q2≤4294967297:=by omega
    have cR0:0≤T-Q2*3725290298:=by omega
    have cR1:T-Q2*3725290298<3725290298:=by omega
    obtain ⟨X1,hX1⟩:∃X,X=IntKind.u64.wrap (U*4294967296):=⟨_,rfl⟩;obtain ⟨X2,hX2⟩:∃X,X=IntKind.u64.wrap (X1+V1):=⟨_,rfl⟩;obtain ⟨X3,hX3⟩:∃X,X=IntKind.u64.wrap (P*16000000000000000000):=⟨_,rfl⟩;have e4:IntKind.u64.wrap (X2-X3)=T:=by rw[hX2,hX3,hX1];simp only[IntKind.wrap_u64];omega
    have e1:=hX1.symm;have e2:=hX2.symm;have e3:=hX3.symm;have aO6:0≤X1∧X1<18446744073709551616:=by rw[hX1];simp only[IntKind.wrap_u64];omega
    have aO7:0≤X2∧X2<18446744073709551616:=by rw[hX2];simp only[IntKind.wrap_u64];omega
    have aO8:0≤X3∧X3<18446744073709551616:=by rw[hX3];simp only[IntKind.wrap_u64];omega
    have HP:=Lib.hid hP;have HT:=Lib.hid hT;have ay9:=Lib.hid hQ2;clear hP hT hQ2 hX1 hX2 hX3;go_upto_block 2 with fail
    clear e1 e2 e3 e4 aO6 aO7 aO8;go_cut [18] (fun v wx=>v= .int .u64 ((T*4294967296+V0)/16000000000000000000)∧w=wx)
    case first=>
     go_wp2_with fail
     go_loop [18,16] (fun qv rv=>∃q r:Int,qv= .int .u64 q∧rv= .int .u64 r∧0≤q∧q≤4294967297∧0≤r∧r<4294967296∧Hid (q*3725290298+r=T)∧Hid ((T*4294967296+V0)/16000000000000000000≤q)) (fun qv _=>(RowKit.intOf qv).toNat)
     case atStart=>exact ⟨Q2,T-Q2*3725290298,by rw[ay9.out],by rw[ay9.out],cQ0,cQ1,cR0,by omega,by show _=_;omega,by have:=ay9.out;show _≤_;omega⟩
     case round=>
      obtain ⟨q,r,rfl,rfl,hq0,hq1,hr0,hr1,HQR,yO⟩:=hrel;by_cases hA:4294967296≤q
      · have hdn:=ysx bT0 bT1 b00 b01 HQR.out (Or.inl hA);exact apj
      · by_cases hT:4294967296*r+V0<q*1983905792
        · have hdn:=ysx bT0 bT1 b00 b01 HQR.out (Or.inr hT);exact apj
        · have hend:=qjx bT0 bT1 b00 b01 HQR.out hr0 yO.out (by omega);have Gy:=Lib.hid hend;clear hend;go_wp2
          go_meet
          exact ⟨by rw[Gy.out],rfl⟩
    case rest=>
     obtain ⟨rfl,rfl⟩:=hcut;obtain ⟨P2,hP2⟩:∃P,P=(T*4294967296+V0)/16000000000000000000:=⟨_,rfl⟩;obtain ⟨T2,hT2⟩:∃T2,T2=(T*4294967296+V0)%16000000000000000000:=⟨_,rfl⟩;rw[←hP2];have cP0:0≤P2:=by omega
     have cP1:P2<4294967296:=by omega
     have cT0:0≤T2:=by omega
     have cT1:T2<16000000000000000000:=by omega
     obtain ⟨X1,hX1⟩:∃X,X=IntKind.u64.wrap (T*4294967296):=⟨_,rfl⟩;obtain ⟨X2,hX2⟩:∃X,X=IntKind.u64.wrap (X1+V0):=⟨_,rfl⟩;obtain ⟨X3,hX3⟩:∃X,X=IntKind.u64.wrap (P2*16000000000000000000):=⟨_,rfl⟩;have e4:IntKind.u64.wrap (X2-X3)=T2:=by rw[hX2,hX3,hX1];simp only[IntKind.wrap_u64];omega
     have e1:=hX1.symm;have e2:=hX2.symm;have e3:=hX3.symm;have aO6:0≤X1∧X1<18446744073709551616:=by rw[hX1];simp only[IntKind.wrap_u64];omega
     have aO7:0≤X2∧X2<18446744073709551616:=by rw[hX2];simp only[IntKind.wrap_u64];omega
     have aO8:0≤X3∧X3<18446744073709551616:=by rw[hX3];simp only[IntKind.wrap_u64];omega
     have hfin:P*4294967296+P2=(hi*18446744073709551616+lo)/1000000000000000000∧T2/16=(hi*18446744073709551616+lo)%1000000000000000000:=by
      have a1:=HU.out;have a2:=HV.out;have a3:=HV1.out;have a4:=HV0.out;have a5:=HP.out;have a6:=HT.out;omega
     obtain ⟨f1,f2⟩:=hfin;have F1:=Lib.hid f1;have F2:=Lib.hid f2;have bF:P*4294967296+P2<18446744073709551616:=by omega
     clear hP2 hT2 hX1 hX2 hX3 f1 f2;go_wp2
     go_ret2
     exact ⟨by rw[F1.out,F2.out];rfl,0,rfl⟩
end Go.Proofs.YtmnmebdmpigddaaGreatDoor
namespace Go.Proofs.YtmnmebdmpigddaaGreatDoor
open Go.RowKit Proofs.Tryz
theorem Td {P:Prop} (h:P:=by
 refine bodyPost_ret (v:=.tuple #[.agg #[.bool false,.slice none 0 0],.int .i64 3]) (by simp[results,Tryz.results94,go_sem,r0,r1]) rfl ?_;exact vav (LW.trans (L.mono LW.size)) om _ _):P:=h
theorem Te (neg:Bool) (A:Option Addr) (c:Nat) (xs:List Nat) (w:World) (hx:aA w A xs) (hs:small av xs) (hl:xs.length≤1048576) :
 Calls prog 147 #[.bool neg,.slice A xs.length c] w (ya w (bE true (bJ neg (val av xs))) (bg true (bJ neg (val av xs)))):=by
 rcases Nat.lt_or_ge (val av xs) (av^30) with h | h
 · rw[xa (by rw[vw];exact h),xh (by rw[vw];exact h)];exact vak neg A c xs w hx hs hl h
 · rw[qav (by rw[vw];exact h),ykq (by rw[vw];exact h)];exact JR neg A c xs w hx hs hl h
theorem Tf {ys zs:List Nat} {k j u t C X:Nat} (hz:k+j<zs.length) (h:val av zs+av^(k+j)*u=C+av^k*(X*val av (ys.take j))) (ht:t=X*ys.getD j 0+zs.getD (k+j) 0+u) :
 val av (zs.set (k+j) (t%av))+av^(k+(j+1))*(t/av)=C+av^k*(X*val av (ys.take (j+1))):=by
 have h1:=zvq (b:=av) zs (k+j) (t%av) hz;have h2:av^(k+(j+1))*(t/av)=av^(k+j)*(av*(t/av)):=by rw[←Nat.add_assoc,Nat.pow_succ,Nat.mul_assoc]
 have h3:av^(k+j)*(t%av)+av^(k+j)*(av*(t/av))=av^(k+j)*t:=by rw[←Nat.mul_add,Nat.mod_add_div]
 have h4:av^(k+j)*t=av^(k+j)*(X*ys.getD j 0)+av^(k+j)*zs.getD (k+j) 0+av^(k+j)*u:=by rw[ht,Nat.mul_add,Nat.mul_add]
 have h5:av^k*(X*val av (ys.take (j+1)))=av^k*(X*val av (ys.take j))+av^(k+j)*(X*ys.getD j 0):=by
  rw[yg,Nat.mul_add,Nat.mul_add,Nat.pow_add,Nat.mul_left_comm X,Nat.mul_assoc (av^k)]
 omega
theorem Nb {xs ys zs:List Nat} {k u:Nat} (hz:k+ys.length<zs.length) (h0:zs.getD (k+ys.length) 0=0)
 (h:val av zs+av^(k+ys.length)*u=val av (xs.take k)*val av ys+av^k*(xs.getD k 0*val av (ys.take ys.length))) :
 val av (zs.set (k+ys.length) u)=val av (xs.take (k+1))*val av ys:=by
 have h1:=zvq (b:=av) zs (k+ys.length) u hz;rw[h0,Nat.mul_zero,Nat.add_zero] at h1;rw[h1,h,List.take_length,yg,Nat.add_mul,Nat.mul_assoc]
def GA (w:World) (n1 n2:Bool) (A B:Option Addr) (c d:Nat) (xs ys:List Nat) (b:World):Prop:=
 Two w n1 n2 A B c d xs ys b∧(b.cell? ⟨w.heap.size+1+1,0,none⟩=some (.bool false)∧b.cell? ⟨w.heap.size+1+1,1,none⟩=some (.slice none 0 0)∧b.frozen? ⟨w.heap.size+1+1,0,none⟩=false∧b.frozen? ⟨w.heap.size+1+1,1,none⟩=false)
def Tg (w:World) (n1 n2:Bool) (A B:Option Addr) (c d:Nat) (xs ys:List Nat):World:=(two w n1 n2 A B c d xs ys).alloc (.cells #[.bool false,.slice none 0 0] 24)
theorem qrq (w:World) (n1 n2:Bool) (A B:Option Addr) (c d:Nat) (xs ys:List Nat):Below w.heap.size w (Tg w n1 n2 A B c d xs ys):=
 (qeq w n1 n2 A B c d xs ys).alloc (qeq w n1 n2 A B c d xs ys).size _
theorem vnv (w:World) (n1 n2:Bool) (A B:Option Addr) (c d:Nat) (xs ys:List Nat):(Tg w n1 n2 A B c d xs ys).heap.size=w.heap.size+3:=by simp[Tg,two]
theorem qrz {w b:World} {n1 n2:Bool} {A B:Option Addr} {c d:Nat} {xs ys:List Nat} (hx:aA w A xs) (hy:aA w B ys) (hb:Below (Tg w n1 n2 A B c d xs ys).heap.size (Tg w n1 n2 A B c d xs ys) b):GA w n1 n2 A B c d xs ys b:=by
 have k:Below (two w n1 n2 A B c d xs ys).heap.size (two w n1 n2 A B c d xs ys) (Tg w n1 n2 A B c d xs ys):=(Below.refl _ _).alloc (Nat.le_refl _) _;have Z:aB (Tg w n1 n2 A B c d xs ys) (w.heap.size+1+1) 24 #[.bool false,.slice none 0 0]:=aB.newAt (by simp[two]);exact ⟨MZ hx hy (jw k hb),(Z.below hb Z.lt).two⟩
section
variable (n1 n2:Bool) (A B:Option Addr) (c d:Nat) (xs ys:List Nat) (w:World)
set_option maxHeartbeats 1000000 in
theorem ab6 (hx:aA w A xs) (hy:aA w B ys) (hl:xs.length≤9223372036854775807) (hl':ys.length≤9223372036854775807) (hok:(zm n1 xs&&zm n2 ys)=false) :
 Calls prog 94 #[.agg #[.bool n1,.slice A xs.length c],.agg #[.bool n2,.slice B ys.length d]] w (ya w 0 3):=by
 obtain ⟨W0,hW0⟩:∃W0,W0=Tg w n1 n2 A B c d xs ys:=⟨_,rfl⟩;have LW:Below w.heap.size w W0:=by rw[hW0];exact qrq ..
 have kC:Hid (W0.heap.size=w.heap.size+3):=by rw[hW0];exact vnv ..
 have HF:Hid (∀b1,Below W0.heap.size W0 b1→GA w n1 n2 A B c d xs ys b1):=fun b1 hb=>by rw[hW0] at hb;exact qrz hx hy hb
 have hg1:=fun w hx=>yf n1 c w A xs hl hx;have hg2:=fun w hy=>yf n2 d w B ys hl' hy;clear hx hy;unfold Tg two at hW0;have L:Below W0.heap.size W0 W0:=Below.refl _ _;obtain ⟨⟨⟨x0,x1,y0,y1⟩,hx,hy⟩,r0,r1,r2,r3⟩:=HF.out _ L;go_enter func94,ntmps94
 cases h1:zm n1 xs
 · rw[h1] at hg1;clear hok h1;go_upto_region 1 with fail
   rw[←hW0];clear hW0;go_wp2_with (go_at_call 66;refine (hg1 _ hx).mono ?_;rintro e w1 ⟨rfl,hb⟩;have L:=jw L hb;clear x0 x1 y0 y1 hx hy r0 r1 r2 r3 hb;obtain ⟨⟨⟨x0,x1,y0,y1⟩,hx,hy⟩,r0,r1,r2,r3⟩:=HF.out _ L)
   exact Td
 · rw[h1,Bool.true_and] at hok;rw[h1] at hg1;rw[hok] at hg2;clear hok h1;go_upto_region 1 with fail
   rw[←hW0];clear hW0;go_wp2_with (go_at_call 66;refine (hg1 _ hx).mono ?_;rintro e w1 ⟨rfl,hb⟩;have L:=jw L hb;clear x0 x1 y0 y1 hx hy r0 r1 r2 r3 hb;obtain ⟨⟨⟨x0,x1,y0,y1⟩,hx,hy⟩,r0,r1,r2,r3⟩:=HF.out _ L;refine Hid.out ?_)
   refine Lib.hid ?_;go_wp2_with (go_at_call 66;refine (hg2 _ hy).mono ?_;rintro e w1 ⟨rfl,hb⟩;have L:=jw L hb;clear x0 x1 y0 y1 hx hy r0 r1 r2 r3 hb;obtain ⟨⟨⟨x0,x1,y0,y1⟩,hx,hy⟩,r0,r1,r2,r3⟩:=HF.out _ L)
   exact Td
theorem Nc {p z u:Int} (p0:0≤p) (p1:p≤999999999999999999*999999999999999999) (z0:0≤z) (z1:z<1000000000000000000) (u0:0≤u) (u1:u<1000000000000000000) :
 0≤p/18446744073709551616∧p/18446744073709551616<1000000000000000000∧
 (p/18446744073709551616+(p%18446744073709551616+z)/18446744073709551616+((p%18446744073709551616+z)%18446744073709551616+u)/18446744073709551616)*18446744073709551616+((p%18446744073709551616+z)%18446744073709551616+u)%18446744073709551616=p+z+u∧
 (p+z+u)/1000000000000000000<1000000000000000000∧
 p/18446744073709551616+(p%18446744073709551616+z)/18446744073709551616+((p%18446744073709551616+z)%18446744073709551616+u)/18446744073709551616<1000000000000000000:=by
 refine ⟨om,om,om,om,om⟩
theorem ab7 (b n:Nat):val b (List.replicate n 0)=0:=by
 induction n with
 | zero=>rfl
 | succ n ih=>rw[List.replicate_succ,val,ih];simp
theorem Nf (x y:Int) (h0:0≤x) (h1:x<18446744073709551616) (k0:0≤y) (k1:y<18446744073709551616) (w:World) :
 Calls prog 114 #[.int .u64 x,.int .u64 y] w fun e w'=>e= .returned (.tuple #[.int .u64 (x*y/18446744073709551616),.int .u64 (x*y%18446744073709551616)])∧w'=w:=by
 obtain ⟨a,rfl⟩:=Int.eq_ofNat_of_zero_le h0;obtain ⟨b,rfl⟩:=Int.eq_ofNat_of_zero_le k0;refine (qY a b om om w).mono fun e w' h=>?_;obtain ⟨rfl,rfl⟩:=h;rw[←Int.natCast_mul];exact ⟨by congr 1,rfl⟩
theorem GD {xs ys:List Nat} (hs:small av xs) (ht:small av ys) (k j:Nat):0≤nth xs k*nth ys j∧nth xs k*nth ys j≤999999999999999999*999999999999999999:=by
 have a0:=zu xs k;have b0:=zu ys j;have a1:=qr (by unfold av;omega) hs k;have b1:=qr (by unfold av;omega) ht j;rw[F7] at a1 b1;refine ⟨Int.mul_nonneg a0 b0,Int.mul_le_mul om om b0 om⟩
set_option maxHeartbeats 2000000 in
theorem Ti (hx:aA w A xs) (hy:aA w B ys) (hg:zm n1 xs=true) (hk:zm n2 ys=true) :
 Calls prog 94 #[.agg #[.bool n1,.slice A xs.length c],.agg #[.bool n2,.slice B ys.length d]] w (ya w (bE true (num n1 xs*num n2 ys)) (bg true (num n1 xs*num n2 ys))):=by
 obtain ⟨hs,_,hl,_⟩:=ym hg;obtain ⟨ht,_,hl',_⟩:=ym hk;have hprod:∀v,v=val av xs*val av ys→bJ (n1 !=n2) v=num n1 xs*num n2 ys:=fun v hv=>by
  rw[hv,kk,kk];unfold bJ;cases n1<;>cases n2<;>simp[Int.natCast_mul,Int.neg_mul,Int.mul_neg]
 have HP:=Lib.hid hprod;have HS:=Lib.hid hs;have HT:=Lib.hid ht;obtain ⟨q,hq⟩:∃q,q=num n1 xs*num n2 ys:=⟨_,rfl⟩;rw[←hq] at HP ⊢;obtain ⟨W0,hW0⟩:∃W0,W0=Tg w n1 n2 A B c d xs ys:=⟨_,rfl⟩;have LW:Below w.heap.size w W0:=by rw[hW0];exact qrq ..
 have kC:Hid (W0.heap.size=w.heap.size+3):=by rw[hW0];exact vnv ..
 have HF:Hid (∀b1,Below W0.heap.size W0 b1→GA w n1 n2 A B c d xs ys b1):=fun b1 hb=>by rw[hW0] at hb;exact qrz hx hy hb
 have hg1:=fun w hx=>yf n1 c w A xs om hx;have hg2:=fun w hy=>yf n2 d w B ys om hy;rw[hg] at hg1;rw[hk] at hg2;clear hx hy hq hprod hs ht hg hk;unfold Tg two at hW0;have L:Below W0.heap.size W0 W0:=Below.refl _ _;obtain ⟨⟨⟨x0,x1,y0,y1⟩,hx,hy⟩,r0,r1,r2,r3⟩:=HF.out _ L;go_enter func94,ntmps94
 go_upto_region 1 with fail
 rw[←hW0];clear hW0;go_wp2_with (go_at_call 66;refine (hg1 _ hx).mono ?_;rintro e w1 ⟨rfl,hb⟩;have L:=jw L hb;clear x0 x1 y0 y1 hx hy r0 r1 r2 r3 hb;obtain ⟨⟨⟨x0,x1,y0,y1⟩,hx,hy⟩,r0,r1,r2,r3⟩:=HF.out _ L;refine Hid.out ?_)
 refine Lib.hid ?_;go_wp2_with (go_at_call 66;refine (hg2 _ hy).mono ?_;rintro e w1 ⟨rfl,hb⟩;have L:=jw L hb;clear x0 x1 y0 y1 hx hy r0 r1 r2 r3 hb;obtain ⟨⟨⟨x0,x1,y0,y1⟩,hx,hy⟩,r0,r1,r2,r3⟩:=HF.out _ L;refine Hid.out ?_)
 refine Lib.hid ?_;clear hg1 hg2;obtain ⟨N,hN⟩:∃N:Nat,N=xs.length+ys.length+1:=⟨_,rfl⟩;have hmk:=qcx N om;have hNi:((xs.length:Int)+(ys.length:Int)+1)=(N:Int):=om;have HN:=Lib.hid hN;have hNb:N≤61:=om;clear hN;go_upto_region 4 with fail
 obtain ⟨g,hg⟩:∃g,g=w1.heap.size:=⟨_,rfl⟩;obtain ⟨W1,hW1⟩:∃W1,W1=w1.alloc (.cells (madeCells #[.int .u64 0] N) 25):=⟨_,rfl⟩;have k1:Below w1.heap.size w1 W1:=by rw[hW1];exact (Below.refl _ _).alloc (Nat.le_refl _) _
 have hrow:Row W1 g N (List.replicate N 0):=by
  have h:=(Row.made w1 N).fill;rw[←hW1,←hg] at h;simpa using h
 have hWg:W1.heap.size=g+1:=by rw[hW1,hg];simp
 have hgW:W0.heap.size≤g:=by rw[hg];exact L.size
 have L:=jw L k1;rw[←hg,←hW1];clear x0 x1 y0 y1 hx hy r0 r1 r2 r3 hmk hNi hg hW1 k1;obtain ⟨⟨⟨x0,x1,y0,y1⟩,hx,hy⟩,r0,r1,r2,r3⟩:=HF.out _ L;go_wp2_with fail
 clear x0 x1 y0 y1 hx hy r0 r1 r2 r3;go_loopw [34] (fun iv wr=>∃(k:Nat) (zs:List Nat),k≤xs.length∧iv= .int .i64 k∧Row wr g N zs∧zs.length=N∧small av zs∧Hid (val av zs=val av (xs.take k)*val av ys)∧Hid (∀p,k+ys.length≤p→nth zs p=0)∧Below W0.heap.size W0 wr) (fun iv _=>xs.length-(intOf iv).toNat)
 case atStart=>exact ⟨0,List.replicate N 0,om,rfl,hrow,by simp,by intro x hx;rw[List.eq_of_mem_replicate hx];unfold av;omega,by show _=_;rw[ab7,List.take_zero];simp[val],fun p _=>ygx _ _,L⟩
 case round=>
  obtain ⟨k,zs,hk,rfl,hrw,hzl,hzs,HV,HZ,hbel⟩:=hrel;obtain ⟨⟨⟨x0,x1,y0,y1⟩,hx,hy⟩,r0,r1,r2,r3⟩:=HF.out _ hbel;by_cases hkn:k<xs.length
  · obtain ⟨wo,rfl⟩:∃wo:World,wo=wr:=⟨_,rfl⟩;have hm1:(k:Int)<(xs.length:Int):=om;have HX0:Hid (val av zs+av^(k+0)*(0:Int).toNat=val av (xs.take k)*val av ys+av^k*(xs.getD k 0*val av (ys.take 0))):=by
     show _=_;rw[HV.out];simp[val]
    go_wp2_with fail
    clear x0 x1 y0 y1 hx hy r0 r1 r2 r3;go_loopw [8,40] (fun cv jv wi=>∃(j:Nat) (u:Int) (qs:List Nat),j≤ys.length∧jv= .int .i64 j∧cv= .int .u64 u∧0≤u∧u<1000000000000000000∧Row wi g N qs∧qs.length=N∧small av qs∧
     Hid (val av qs+av^(k+j)*u.toNat=val av (xs.take k)*val av ys+av^k*(xs.getD k 0*val av (ys.take j)))∧Hid (∀p,k+ys.length≤p→nth qs p=0)∧Below W0.heap.size W0 wi) (fun _ jv _=>ys.length-(intOf jv).toNat)
    case atStart=>exact ⟨0,0,zs,om,rfl,rfl,om,om,hrw,hzl,hzs,HX0,HZ,hbel⟩
    case round=>
     obtain ⟨j,u,qs,hj,rfl,rfl,hu0,hu1,hrq,Gp,Qe,HQ,HZ2,dN⟩:=hrel;obtain ⟨⟨⟨x0,x1,y0,y1⟩,hx,hy⟩,r0,r1,r2,r3⟩:=HF.out _ dN;by_cases hjn:j<ys.length
     · have hN1:=HN.out;obtain ⟨b,o,rfl,hb,hc⟩:=hx.2 om;obtain ⟨b',o',rfl,hb',hc'⟩:=hy.2 om;have hcx:=hc k hkn;have hcy:=hc' j hjn;have hcz:=hrq.cell (j:=k+j) om;have hm2:(j:Int)<(ys.length:Int):=om;have hk0:(0:Int)≤(k:Int):=om;have hj0:(0:Int)≤(j:Int):=om;have hnx:=zu xs k;have hny:=zu ys j;have hnz:=zu qs (k+j);have hlx:=qr (by unfold av;omega) HS.out k;have pq:=qr (by unfold av;omega) HT.out j;have hlz:=qr (by unfold av;omega) Qe (k+j);rw[F7] at hlx pq hlz;obtain ⟨p0,p1⟩:=GD HS.out HT.out k j;obtain ⟨P,hP⟩:∃P,P=nth xs k*nth ys j:=⟨_,rfl⟩;rw[←hP] at p0 p1;obtain ⟨m1,m2,m3,m4,m5⟩:=Nc p0 p1 hnz hlz hu0 hu1;have hmul:=fun w=>Nf (nth xs k) (nth ys j) hnx om hny om w;rw[←hP] at hmul;obtain ⟨h0,hh0⟩:∃h0,h0=P/18446744073709551616:=⟨_,rfl⟩;obtain ⟨l0,hl0⟩:∃l0,l0=P%18446744073709551616:=⟨_,rfl⟩;rw[←hh0,←hl0] at hmul;obtain ⟨l1,hl1⟩:∃l1,l1=(l0+nth qs (k+j))%18446744073709551616:=⟨_,rfl⟩;obtain ⟨c1,hc1⟩:∃c1,c1=(l0+nth qs (k+j))/18446744073709551616:=⟨_,rfl⟩;obtain ⟨l2,hl2⟩:∃l2,l2=(l1+u)%18446744073709551616:=⟨_,rfl⟩;obtain ⟨c2,hc2⟩:∃c2,c2=(l1+u)/18446744073709551616:=⟨_,rfl⟩;have b1:0≤l0:=om;have b2:0≤l1:=om;have b3:0≤l2∧l2<18446744073709551616:=om;have b4:0≤c1:=om;have b5:0≤c2:=om;have ha1:∀w,(callFunc 116 #[.int .u64 l0,.int .u64 (nth qs (k+j)),.int .u64 0]).run prog w= .ok (.value (.tuple #[.int .u64 l1,.int .u64 c1])) w:=fun w=>by rw[qZ l0 _ b1 hnz,hl1,hc1]
       have ha2:∀w,(callFunc 116 #[.int .u64 l1,.int .u64 u,.int .u64 0]).run prog w= .ok (.value (.tuple #[.int .u64 l2,.int .u64 c2])) w:=fun w=>by rw[qZ l1 _ b2 hu0,hl2,hc2]
       rw[←hh0,←hl0,←hl1,←hc1,←hl2,←hc2] at m3;rw[←hh0,←hl0,←hl1,←hc1,←hc2] at m5;rw[←hh0] at m1 m2;have hdv:=fun w=>Gz (h0+c1+c2) l2 om m5 b3.1 b3.2 w;rw[m3] at hdv;obtain ⟨T,hT⟩:∃T,T=P+nth qs (k+j)+u:=⟨_,rfl⟩;rw[←hT] at hdv m4;obtain ⟨Q,hQ⟩:∃Q,Q=T/1000000000000000000:=⟨_,rfl⟩;obtain ⟨R,hR⟩:∃R,R=T%1000000000000000000:=⟨_,rfl⟩;rw[←hQ,←hR] at hdv;rw[←hQ] at m4;have hQ0:0≤Q:=om;have hR0:0≤R:=om;have hR1:R<1000000000000000000:=om;have HST:Hid (val av (qs.set (k+j) R.toNat)+av^(k+(j+1))*Q.toNat=val av (xs.take k)*val av ys+av^k*(xs.getD k 0*val av (ys.take (j+1)))):=by
        have hTn:T.toNat=xs.getD k 0*ys.getD j 0+qs.getD (k+j) 0+u.toNat:=by
         have e1:P=((xs.getD k 0*ys.getD j 0:Nat):Int):=by rw[hP];unfold nth;rw[←Int.natCast_mul]
         have e2:nth qs (k+j)=((qs.getD (k+j) 0:Nat):Int):=by unfold nth;rfl
         rw[hT,e1,e2];omega
        have h:=Tf (zs:=qs) (k:=k) (j:=j) (ys:=ys) om HQ.out hTn;have e3:R.toNat=T.toNat%av:=by rw[hR];unfold av;omega
        have e4:Q.toNat=T.toNat/av:=by rw[hQ];unfold av;omega
        show _=_;rw[e3,e4];exact h
       have hfz:=hrq.frozen (k+j);have hkj:(k:Int)+(j:Int)<(N:Int):=om;have aO9:(0:Int)≤(k:Int)+(j:Int):=om;have hw64:IntKind.i64.wrap ((k:Int)+(j:Int))=(k:Int)+(j:Int):=IntWalk.i64_in _ om;clear hc hc' hP hh0 hl0 hl1 hc1 hl2 hc2 hT hQ hR m3 hN1 p0 p1;go_wp2_with fail
       go_quiet ((go_at_call 114;exact Calls.quiet_of_same (hmul _)))
       go_wp2_with (go_at_call 146;refine (hdv _).mono ?_;rintro e w' ⟨rfl,nd,rfl⟩)
       go_roundw
       case rel=>exact ⟨j+1,Q,qs.set (k+j) R.toNat,om,by go_num,rfl,hQ0,m4,by first | exact (hrq.drewN _).setInt R hR0 om | exact ((hrq.drewN _).drewN _).setInt R hR0 om,by rw[List.length_set];exact Gp,jz Qe _ _ (by unfold av;omega),HST,
        fun p hp=>by rw[yez _ _ _ om,if_neg om];exact HZ2.out p hp,by first | exact (kd dN _).setCell hgW _ | exact (kd (kd dN _) _).setCell hgW _⟩
       case measure=>simp[intOf];omega
     · obtain rfl:j=ys.length:=om;have hN1:=HN.out;have hcz:=hrq.cell (j:=k+ys.length) om;have hz0:nth qs (k+ys.length)=0:=HZ2.out _ (Nat.le_refl _);rw[hz0] at hcz;have hfz:=hrq.frozen (k+ys.length);have hm2:¬(ys.length:Int)<(ys.length:Int):=om;have hkj:(k:Int)+(ys.length:Int)<(N:Int):=om;have aO9:(0:Int)≤(k:Int)+(ys.length:Int):=om;have hw64:IntKind.i64.wrap ((k:Int)+(ys.length:Int))=(k:Int)+(ys.length:Int):=IntWalk.i64_in _ om;have hlq:k+ys.length<qs.length:=om;have HCL:Hid (val av (qs.set (k+ys.length) u.toNat)=val av (xs.take (k+1))*val av ys):=Nb hlq (by unfold nth at hz0;omega) HQ.out;clear hz0 hN1;go_wp2_with fail
       go_roundw
       case rel=>exact ⟨k+1,qs.set (k+ys.length) u.toNat,om,by go_num,hrq.setInt u hu0 hlq,by rw[List.length_set];exact Gp,jz Qe _ _ (by unfold av;omega),HCL,
        fun p hp=>by rw[yez _ _ _ hlq,if_neg om];exact HZ2.out p om,dN.setCell hgW _⟩
       case measure=>simp[intOf];omega
  · obtain rfl:k=xs.length:=om;have hm1:¬(xs.length:Int)<(xs.length:Int):=om;have ayq:=hrw.nums hzl (ydq hzs);have hfit:=fun w h=>Te (n1 !=n2) (some ⟨g,0,none⟩) N zs w h hzs om;have hval:bJ (n1 !=n2) (val av zs)=q:=HP.out _ (by rw[HV.out,List.take_length]);rw[hval,hzl] at hfit;clear hval;go_wp2_with (go_at_call 147;refine (hfit _ ayq).mono ?_;rintro e w4 ⟨A4,c4,rfl,cK,hb4⟩;have LB:=hbel.trans (hb4.mono hbel.size);clear x0 x1 y0 y1 hx hy r0 r1 r2 r3;obtain ⟨⟨⟨x0,x1,y0,y1⟩,hx,hy⟩,r0,r1,r2,r3⟩:=HF.out _ LB)
    refine bodyPost_ret (v:=.tuple #[.agg #[.bool (decide (bE true q<0)),.slice A4 (limbs (bE true q)).length c4],.int .i64 (bg true q)]) (by simp[results,Tryz.results94,go_sem,r0,r1]) rfl ?_;exact qjz cK (LW.trans (LB.mono LW.size)) om (by have:=kC.out;have:=hbel.size;omega) _ _
theorem J4 (hx:aA w A xs) (hy:aA w B ys) (hl:xs.length≤9223372036854775807) (hl':ys.length≤9223372036854775807) :
 Calls prog 94 #[.agg #[.bool n1,.slice A xs.length c],.agg #[.bool n2,.slice B ys.length d]] w
  (ya w (bE (zm n1 xs&&zm n2 ys) (num n1 xs*num n2 ys)) (bg (zm n1 xs&&zm n2 ys) (num n1 xs*num n2 ys))):=by
 cases h:(zm n1 xs&&zm n2 ys)
 · rw[j5,j6];exact ab6 n1 n2 A B c d xs ys w hx hy hl hl' h
 · obtain ⟨hg,hk⟩:=Bool.and_eq_true_iff.1 h;exact Ti n1 n2 A B c d xs ys w hx hy hg hk
end
section
variable {i j:Int} (A B:Option Addr) (c d:Nat) (w:World) (hi:i.natAbs<av^30) (hj:j.natAbs<av^30) (hx:aA w A (limbs i)) (hy:aA w B (limbs j))
include hi
include hx
include hj hy
theorem aOq:Calls prog 94 #[.agg #[.bool (decide (i<0)),.slice A (limbs i).length c],.agg #[.bool (decide (j<0)),.slice B (limbs j).length d]] w (ya w (bE true (i*j)) (bg true (i*j))):=by
 have h:=J4 (decide (i<0)) (decide (j<0)) A B c d (limbs i) (limbs j) w hx hy (by have:=zt hi;omega) (by have:=zt hj;omega);rwa [vh hi,vh hj,jr,jr] at h
theorem aOz:Calls prog 40 #[.agg #[.bool (decide (i<0)),.slice A (limbs i).length c],.agg #[.bool (decide (j<0)),.slice B (limbs j).length d]] w fun e w'=>e= .returned (.int .i64 (jS i j))∧Below w.heap.size w w':=by
 have h:=J5 A B c d (limbs i) (limbs j) w (decide (i<0)) (decide (j<0)) hx hy (by have:=zt hi;omega) (by have:=zt hj;omega);rw[vh hi,vh hj,jr,jr] at h;unfold gZ at h;exact h
end
theorem qzx {i:Int}:(bE true i).natAbs<av^30:=by
 unfold bE;rw[if_pos rfl];split
 · assumption
 · exact Nat.pow_pos (by unfold av;omega)
theorem Ni {i:Int} (h:bg true i=0):i.natAbs<av^30:=by
 unfold bg at h;rw[if_pos rfl] at h;split at h
 · assumption
 · cases h
theorem dqI {n1 n2:Bool} {X Y:Nat} (hX:X<av^30) (hY:0<Y):(dq n1 n2 X Y).natAbs<av^30:=by
 have h3:X/Y≤X:=Nat.div_le_self _ _;have hp:1<av^30:=Nat.one_lt_pow de (by unfold av;omega);unfold dq;split
 · rw[Int.natAbs_natCast];omega
 · split
   · rw[Int.natAbs_neg,Int.natAbs_natCast];omega
   · rename_i h
     rw[Int.natAbs_neg,Int.natAbs_natCast];have hY2:2≤Y:=by
      rcases Nat.lt_or_ge Y 2 with h2 | h2
      · exact absurd (by rw[show Y=1 from om,Nat.mod_one]) h
      · exact h2
     have h4:X/Y≤X/2:=Nat.div_le_div_left hY2 om;omega
structure PV where
 k:Int
 yes:Bool
 neg:Bool
 xs:List Nat
 bits:Nat
 s:ByteArray
 ni:Nat
structure PVp where
 a:Option Addr
 c:Nat
 b:Option Addr
 d:Nat
def PV.cells (v:PV) (p:PVp):List Value:=[.int .i64 v.k,.bool v.yes,.bool v.neg,.slice p.a v.xs.length p.c,.int .u64 (v.bits:Int),.string v.s,.slice p.b v.ni p.d]
def PV.val (v:PV) (p:PVp):Value:=.agg #[.int .i64 v.k,.bool v.yes,.bool v.neg,.slice p.a v.xs.length p.c,.int .u64 (v.bits:Int),.string v.s,.slice p.b v.ni p.d]
@[reducible] def bG (v:PV) (A:Option Addr) (c:Nat) (B:Option Addr) (d:Nat):Value:=.agg #[.int .i64 v.k,.bool v.yes,.bool v.neg,.slice A v.xs.length c,.int .u64 (v.bits:Int),.string v.s,.slice B v.ni d]
def PV.good (v:PV):Bool:=
 decide (v.ni=0)&&(if v.k=0 then !v.yes&&(!v.neg&&decide (v.xs.length=0))&&decide (v.bits=0)&&(v.s.toList==(⟨#[]⟩:ByteArray).toList)
  else if v.k=1 then (!v.neg&&decide (v.xs.length=0))&&decide (v.bits=0)&&(v.s.toList==(⟨#[]⟩:ByteArray).toList)
  else if v.k=2 then zm v.neg v.xs&& !v.yes&&decide (v.bits=0)&&(v.s.toList==(⟨#[]⟩:ByteArray).toList)
  else if v.k=3 then (!v.neg&&decide (v.xs.length=0))&& !v.yes&&(v.s.toList==(⟨#[]⟩:ByteArray).toList)
  else if v.k=4 then (!v.neg&&decide (v.xs.length=0))&& !v.yes&&decide (v.bits=0)&&decide (v.s.size≤20000)
  else false)
section
attribute [local irreducible] OW RS CW EW
theorem kV {P Q:Prop} (k:Q) (h:(Unit→Q)→P:=by
 intro zK;refine kh ?_;refine zw 19 rfl (by rw[hd]<;>rfl) (zn ?_);exact zK ()):P:=h fun _=>k
theorem qsv {P Q:Prop} (k:Q) (h:(Unit→Q)→P:=by
 intro zK;refine yj (qy oc rfl rfl aQ rfl rfl (Nat.le_of_ble_eq_true rfl) ?_);exact zK ()):P:=h fun _=>k
theorem yxq {P Q:Prop} (k:Q) (h:(Unit→Q)→P:=by
 intro zK;refine za rfl (qz (cs:=#[.bool false,.slice none 0 0]) aw4 u6 rfl rfl ?_);exact zK ()):P:=h fun _=>k
theorem yjq {P Q:Prop} (k:Q) (h:(Unit→Q)→P:=by
 intro zK;refine yj (qy oc rfl rfl ay rfl rfl (Nat.le_of_ble_eq_true rfl) ?_);exact zK ()):P:=h fun _=>k
theorem vu {P Q:Prop} (k:Q) (h:(Unit→Q)→P:=by
 intro zK;refine za rfl (kt u6 ?_);exact zK ()):P:=h fun _=>k
theorem Uj {P:Prop} (h:P:=by
 have h8:=Uk (i:=i) om (show k+1≤j.toNat from om);rw[Int.pow_succ] at h8;omega):P:=h
theorem Ul {P:Prop} (h:P:=by
 refine yx ?_;intro vs X wq K;exact xt rfl (E8 rfl rfl de rfl ⟨Below.refl _ _,Left.of rfl⟩)):P:=h
theorem Um {P:Prop} (h:P:=by
 obtain ⟨⟨A2,c2⟩,e0,_⟩:=K.dep 12 rfl rfl rfl;exact ⟨vs 12,rfl,by rw[e0];rfl,by rw[e0];rfl⟩):P:=h
theorem aq5 {P:Prop} (h:P:=by
 replace ay:=Bx;replace aQ:=aQ.aG dw (au.cons aU au.nil);replace E:=E.step1 dw (aj.tail aj.head);refine zo ?_;exact by rw[qav e1,ykq e1];exact yzx (LW.step E ak).toBelow):P:=h
theorem Un {P:Prop} (h:P:=by
 rintro e w2 ⟨A2,c2,rfl,o2,hb⟩;exact ⟨_,rfl,hb,⟨(A2,c2),rfl,(Per.bK o2 XN).map (fun _ h=>h.mono SQ)⟩⟩):P:=h
theorem aq6 {P:Prop} (h:P:=by
 refine vi (τ:=[(2,_),(3,_),(4,_),(5,.int .i64 0),(6,_)]) ⟨rfl,rfl,rfl,congrArg some e14,rfl,trivial⟩ ?_;clear AL AF AA LE AO OY e12 e14 k12 k14 Kk dx;refine ye ?_;exact by rw[xa hsm,xh hsm];exact ⟨A2,c2,by rw[←hv];rfl,by rw[←hv];exact (HF.on E).here.2,aP LW E ak⟩):P:=h
theorem yzx {W w':World} {f:Int} (hb:Below W.heap.size W w'):ya W 0 f (.returned (.tuple #[.agg #[.bool false,.slice none 0 0],.int .i64 f])) w':=
 ⟨none,0,by rw[qt];rfl,by rw[qt];exact Own.nil _ _,hb⟩
theorem rR {w:World} {base c g:Nat} {A:Option Addr} {xs:List Nat} {t:TypeId} {cs:Array Value} (h:Own w base A c xs) (hb:aB w g t cs) (ht:25≠t):Apart (Value.slice A xs.length c).ownBlock (some g):=
 fun k e f=>qpx h.1 hb ht (e.trans f.symm)
theorem Per.aYq {l:List (Option Nat)} {w:World} {base c:Nat} {A:Option Addr} {xs:List Nat} (h:Own w base A c xs) (hn:au (Value.slice A xs.length c).ownBlock l):Per (aj l) w (fun b=>Own b base A c xs):=
 fun _ hb=>⟨qgk h.1 hb hn,h.2⟩
theorem Per.bK {X:Nat→Prop} {w:World} {base c:Nat} {A:Option Addr} {xs:List Nat} (h:Own w base A c xs) (hx:∀k,X k→k<base):Per X w (fun b=>Own b base A c xs):=fun b hb=>by
 have hb':Ext (aj [none]) w b∨True:=Or.inr trivial;refine ⟨(⟨h.1.1,?_⟩),h.2⟩;rcases h.1.2 with h2 | ⟨g,cap,cur,hv,hg,hh,r⟩
 · exact Or.inl h2
 · exact Or.inr ⟨g,cap,cur,hv,hg,(hb.block g (Array.getElem?_eq_some_iff.1 hh).1 (fun e=>by have:=hx g e;omega)).trans hh,r⟩
theorem NM {w:World} {b o:Nat} {v:Value} (h:w.cell? ⟨b,o,none⟩=some v):b<w.heap.size:=by
 unfold World.cell? at h;simp only[] at h
 split at h
 · rename_i c t fr hh;exact (Array.getElem?_eq_some_iff.1 hh).1
 · cases h
theorem Per.cell0 {w:World} {g o:Nat} {v:Value} (h:w.cell? ⟨g,o,none⟩=some v):Per No w (fun b=>b.cell? ⟨g,o,none⟩=some v):=fun b hb=>by
 have hlt:g<w.heap.size:=NM h;show b.cell? ⟨g,o,none⟩=some v
 rw[hb.cell (p:=⟨g,o,none⟩) hlt (fun e=>e.elim)];exact h
section
variable (n1 n2:Bool) (A B:Option Addr) (c d:Nat) (xs ys:List Nat) (w:World)
end
section
variable (i j:Int) (A B:Option Addr) (c d:Nat) (w:World) (hi:i.natAbs<av^30) (hj:j.natAbs<av^30) (hx:aA w A (limbs i)) (hy:aA w B (limbs j))
include hi hj hx hy
theorem ae2 (h0:j<0):Calls prog 93 #[.agg #[.bool (decide (i<0)),.slice A (limbs i).length c],.agg #[.bool (decide (j<0)),.slice B (limbs j).length d]] w (ya w 0 1):=by
 refine zj func93 ntmps93 fun HF LW ak E=>?_;replace HF:=HF.and (Per.aD hx);replace HF:=HF.and (Per.aD hy);refine zi ?_;refine zg HF LW E ak fun aO w2 HF LW E=>(zg HF LW E ak fun bM w4 HF LW E=>(yb u6 HF LW E ak fun aJ w6 ay dJ HF E ak=>?_));refine zp ?_;refine zh oP (E9 A c _ hi (HF.on E).here.1.1.1.2) E ay fun w7 E ay=>(zr ?_);refine zh oP (E9 B d _ hj (HF.on E).here.1.1.2) E ay fun w8 E ay=>(kh ?_);refine qm 19 rfl (by rw[decide_eq_true h0]<;>rfl) (zr ?_);refine yxq ?_;refine yjq ?_;intro w9 Bx dw;replace ay:=Bx;replace E:=E.step1 dw aj.head;refine zo ?_;exact yzx (LW.step E ak).toBelow
theorem pow_zero (h0:j=0):Calls prog 93 #[.agg #[.bool (decide (i<0)),.slice A (limbs i).length c],.agg #[.bool (decide (j<0)),.slice B (limbs j).length d]] w (ya w 1 0):=by
 have hd:decide (j<0)=false:=by rw[h0];rfl
 have hlen:(limbs j).length=0:=by rw[h0,qt];rfl
 refine zj func93 ntmps93 fun HF LW ak E=>?_;replace HF:=HF.and (Per.aD hx);replace HF:=HF.and (Per.aD hy);refine zi ?_;refine zg HF LW E ak fun aO w2 HF LW E=>(zg HF LW E ak fun bM w4 HF LW E=>(yb u6 HF LW E ak fun aJ w6 ay dJ HF E ak=>?_));refine zp ?_;refine zh oP (E9 A c _ hi (HF.on E).here.1.1.1.2) E ay fun w7 E ay=>(zr ?_);refine zh oP (E9 B d _ hj (HF.on E).here.1.1.2) E ay fun w8 E ay=>(kV ?_);have S1:=Nat.le_trans LW.size E.size;refine vv u7 (yqz 1 _ de de) HF LW E ak (fun o=>Per.bK o (aj.grow aj.none_ (zc ay.lt))) ay fun A1 c1 w9 HF LW E ay=>(vu ?_);intro aX dV aQ bC bO;have aU:Apart (some aX) (some aJ):=Apart.of_lt (zc ay.lt) bO;have bL:=aU.symm;replace ay:=ay.aG bC au.nil;obtain ⟨bO,HF,E,ak⟩:=gI HF LW E ak bC bO;refine qsv ?_;intro dB Bx bC;replace aQ:=Bx;replace ay:=ay.aG bC (au.cons bL au.nil);replace E:=E.step1 bC aj.head;refine yv ?_;refine qm 25 rfl (by rw[hlen];rfl) (ye ?_);refine yjq ?_;intro dS Bx dw;replace ay:=Bx;replace aQ:=aQ.aG dw (au.cons aU au.nil);replace E:=E.step1 dw (aj.tail aj.head);refine zo ?_;exact ⟨A1,c1,rfl,((HF.on E).here.2).mono S1,aP LW E ak⟩
end
theorem BP {j:Int} (h0:j≠0):nth (limbs j) 0=((j.natAbs%av:Nat):Int):=by
 unfold nth;rw[qo,kg qk om];rfl
theorem BQ {j:Int} (h0:j≠0) (h:j.natAbs<av):(limbs j).length=1:=by
 rw[qo,kg qk om,Nat.div_eq_of_lt h];rfl
theorem BR {j:Int} (h:av≤j.natAbs):1<(limbs j).length:=by
 rcases Nat.lt_or_ge 1 (limbs j).length with h1 | h1
 · exact h1
 · have:=(zz qk j.natAbs 1).1 (by rw[←qo];exact h1);rw[Nat.pow_one] at this;omega
theorem zwx {j:Int} (h0:j≠0):0<(limbs j).length:=by rw[qo];exact RL qk om
theorem qgx (i:Int) (n:Nat):(i^n).natAbs=i.natAbs^n:=Int.natAbs_pow i n
theorem yzk {i:Int} (h:i.natAbs=1) (n:Nat):i^n=if decide (i<0)&&decide (n%2=1) then -1 else 1:=by
 rcases (by omega:i=1∨i= -1) with rfl | rfl
 · rw[Int.one_pow];simp
 · have key:∀n:Nat,((-1:Int))^n=if n%2=1 then -1 else 1:=by
    intro n;induction n with
    | zero=>rfl
    | succ n ih=>rw[Int.pow_succ,ih];split<;>split<;>omega
   rw[key];simp
theorem ae3 {n:Nat} (hn:1800≤n):av^30≤2^n:=by
 have h1:∀a b,a=200→b=9→av^30≤(2^a)^b:=by rintro _ _ rfl rfl;unfold av;decide +kernel
 obtain ⟨a,b,ha,hb,hab⟩:∃a b,a=200∧b=9∧a*b≤n:=⟨200,9,rfl,rfl,hn⟩;have h2:=h1 a b ha hb;rw[←Nat.pow_mul] at h2;exact Nat.le_trans h2 (Nat.pow_le_pow_right de hab)
theorem qfv {i:Int} (h:2≤i.natAbs) {n:Nat} (hn:1800≤n):av^30≤(i^n).natAbs:=by
 rw[qgx];exact Nat.le_trans (ae3 hn) (Nat.pow_le_pow_left h n)
theorem Uk {i:Int} (h:1≤i.natAbs) {k n:Nat} (hk:k≤n):(i^k).natAbs≤(i^n).natAbs:=by
 rw[qgx,qgx];exact Nat.pow_le_pow_right h hk
theorem BS {i:Int} (hi1:i.natAbs=1) (n:Nat) (b:Bool) (hb:b=(decide (i<0)&&decide (n%2=1))):bJ b (val av (limbs i))=i^n:=by
 have Uo:limbs i= [1]:=by rw[qo,hi1];rfl
 rw[yzk hi1,Uo,←hb];cases b<;>rfl
theorem Uq {j:Int} (h0:0<j):(((j.natAbs%av:Nat):Int).tmod 2==1)=decide (j.toNat%2=1):=by
 have hpar:((j.natAbs%av:Nat):Int).tmod 2=((j.toNat%2:Nat):Int):=by
  rw[Int.tmod_eq_emod_of_nonneg om];have e1:(j.natAbs%av)%2=j.natAbs%2:=Nat.mod_mod_of_dvd _ (by unfold av;decide);have e2:j.natAbs=j.toNat:=om;rw[←e2,←e1];omega
 rw[hpar,Bool.eq_iff_iff];simp
 omega
section
variable (i j:Int) (A B:Option Addr) (c d:Nat) (w:World) (hi:i.natAbs<av^30) (hj:j.natAbs<av^30) (hx:aA w A (limbs i)) (hy:aA w B (limbs j))
include hi hj hx hy
theorem Hl (h0:0<j) (hi0:i=0):Calls prog 93 #[.agg #[.bool (decide (i<0)),.slice A (limbs i).length c],.agg #[.bool (decide (j<0)),.slice B (limbs j).length d]] w (ya w 0 0):=by
 have hd:decide (j<0)=false:=decide_eq_false om;have hlen:((limbs j).length:Int)≠0:=by have:=zwx (j:=j) om;omega
 have hdi:decide (i<0)=false:=by rw[hi0];rfl
 have Uo:limbs i= []:=by rw[hi0,qt]
 have hlz:((limbs i).length:Int)=0:=by rw[Uo];rfl
 refine zj func93 ntmps93 fun HF LW ak E=>?_;replace HF:=HF.and (Per.aD hx);replace HF:=HF.and (Per.aD hy);refine zi ?_;refine zg HF LW E ak fun aO w2 HF LW E=>(zg HF LW E ak fun bM w4 HF LW E=>(yb u6 HF LW E ak fun aJ w6 ay dJ HF E ak=>?_));refine zp ?_;refine zh oP (E9 A c _ hi (HF.on E).here.1.1.1.2) E ay fun w7 E ay=>(zr ?_);refine zh oP (E9 B d _ hj (HF.on E).here.1.1.2) E ay fun w8 E ay=>(kV ?_);refine za rfl (ze u7 rfl ((yqz 1 _ de de).mono ?_));rintro e w9 ⟨A1,c1,rfl,o1,hb⟩;refine ⟨_,rfl,?_⟩;have Ec:=Ext.of_below hb No;replace ay:=ay.aG Ec au.nil;replace E:=E.trans Ec.no;refine vu ?_;intro aX dV aQ bC bO;have aU:Apart (some aX) (some aJ):=Apart.of_lt (zc ay.lt) bO;have bL:=aU.symm;replace ay:=ay.aG bC au.nil;obtain ⟨bO,HF,E,ak⟩:=gI HF LW E ak bC bO;refine qsv ?_;intro dB Bx bC;replace aQ:=Bx;replace ay:=ay.aG bC (au.cons bL au.nil);replace E:=E.step1 bC aj.head;refine yv ?_;refine zw 25 rfl (by rw[beq_eq_false_iff_ne.2 hlen]<;>rfl) (yv ?_);refine vf 31 rfl (by rw[hlz];rfl) (nW ?_);have OY:∀q9,(aj (kf [⟨13,aJ,24,#[.bool false,.slice none 0 0]⟩])) q9→q9<(World.drew dB).heap.size→(aj [(some aX),(some aJ)]) q9:=fun k h _=>((aj.grow aj.none_ (aj.tail aj.head))) k h;refine yq (aj [(some aX),(some aJ)]) (aj.grow (aj.grow aj.none_ (zc ay.lt)) (zc aQ.lt)) [] [⟨13,aJ,24,#[.bool false,.slice none 0 0]⟩] (xc [Fx.of (.pointer (some ⟨aO,0,none⟩)),
  Fx.of (.bool false),
  Fx.of (.bool false),
  Fx.of undef,
  Fx.of undef,
  Fx.of undef,
  Fx.of undef,
  Fx.of undef,
  Fx.of undef,
  Fx.of (.bool false),
  Fx.of (.pointer (some ⟨aO,1,none⟩)),
  Fx.of (.slice A (limbs i).length c),
  ⟨(Option Addr×Nat),fun (A2,c2)=>.agg #[.bool (decide (bJ false (val av (limbs i))<0)),.slice A2 (limbs (bJ false (val av (limbs i)))).length c2],fun (A2,c2) b=>(Own b w.heap.size A2 c2 (limbs (bJ false (val av (limbs i)))))⟩,
  Fx.of undef,
  Fx.of (.int .i64 0)]) mixed rfl ⟨⟨(aj.tail aj.head) _ rfl,ay,fun _ h=>by cases h⟩,trivial⟩ (by intro o ho;simp at ho;rcases ho with rfl<;>simp) ?_ ?_
 · refine ⟨arm,?_,arm,arm,arm,arm,arm,arm,arm,arm,arm,arm,?_,?_,arm,trivial⟩
   · refine yx ?_;intro vs X wq K;have LE:=K.1;exact yd u4 rfl rfl (HF.on (E.drew.trans (LE.mono OY))).here.1.2 rfl ⟨Below.refl _ _,Left.of ((by rw[hdi]:(.bool (decide (i<0)):Value)=_))⟩
   · refine yx ?_;intro vs X wq K;have LE:=K.1;have XN:=K.2.1;have SQ:=Nat.le_trans LW.size (Nat.le_trans E.size LE.size);refine ze ax1 rfl ((oh false A c (limbs i) _ (HF.on (E.drew.trans (LE.mono OY))).here.1.1.1.2 (by rw[Uo];exact ke) (by rw[Uo];simp)).mono ?_);exact Un
   · refine ⟨_,_,_,_,_,rfl,rfl,oc,fun vs X wq K=>⟨rfl,?_⟩⟩;exact Um
 intro vs dS LE AO AL AF AA;have Kk:=aQ;have dx:=ay;replace aQ:=aQ.drew.aG LE (au.cons aU au.nil);replace E:=E.drew.trans (LE.mono OY);obtain ⟨⟨A2,c2⟩,e12,k12⟩:=AL.2.2.2.2.2.2.2.2.2.2.2.2.1;obtain ⟨_,e14,k14⟩:=AL.2.2.2.2.2.2.2.2.2.2.2.2.2.2.1;obtain ⟨v0,y0,Bx,ey,dR⟩:=AO.1;cases ey
 obtain rfl:vs 12=v0:=Option.some.inj dR;rw[e12] at Bx;replace ay:aB dS aJ 24 #[.bool (decide (bJ false (val av (limbs i))<0)),.slice A2 (limbs (bJ false (val av (limbs i)))).length c2]:=Bx;obtain ⟨HF,LW,E⟩:=dG HF LW E ak ((k12.map (fun _ h=>h):Per (aj [(some aX),(some aJ)]) dS (fun b=>Own b w.heap.size A2 c2 (limbs (bJ false (val av (limbs i)))))));refine vi (τ:=[(2,_),(3,_),(4,_),(5,.int .i64 0),(6,_)]) ⟨rfl,rfl,rfl,congrArg some e14,rfl,trivial⟩ ?_;clear AL AF AA LE AO OY e12 e14 k12 k14 Kk dx;have e0:bJ false (val av (limbs i))=0:=by rw[Uo];rfl
 refine ye ?_;exact ⟨A2,c2,by rw[e0];rfl,by rw[←e0];exact (HF.on E).here.2,aP LW E ak⟩
theorem az7 (h0:0<j) (hi0:i≠0):Calls prog 93 #[.agg #[.bool (decide (i<0)),.slice A (limbs i).length c],.agg #[.bool (decide (j<0)),.slice B (limbs j).length d]] w (ya w (bE true (i^j.toNat)) (bg true (i^j.toNat))):=by
 have hd:decide (j<0)=false:=decide_eq_false om;have hip:=zwx (j:=i) om;have hjp:=zwx (j:=j) om;have hlen:((limbs j).length:Int)≠0:=om;have Ur:((limbs i).length:Int)≠0:=om;obtain ⟨bx,ox,rfl,hbx,hcx⟩:=hx.2 hip;obtain ⟨by_,oy,rfl,hby,hcy⟩:=hy.2 hjp;have hc0:w.cell? ⟨bx,ox+0,none⟩=some (.int .u64 ((i.natAbs%av:Nat):Int)):=by rw[hcx 0 hip,BP om]
 have hd0:w.cell? ⟨by_,oy+0,none⟩=some (.int .u64 ((j.natAbs%av:Nat):Int)):=by rw[hcy 0 hjp,BP om]
 refine zj func93 ntmps93 fun HF LW ak E=>?_;replace HF:=HF.and (Per.aD hx);replace HF:=HF.and (Per.aD hy);replace HF:=HF.and (Per.cell0 hc0);replace HF:=HF.and (Per.cell0 hd0);refine zi ?_;refine zg HF LW E ak fun aO w2 HF LW E=>(zg HF LW E ak fun bM w4 HF LW E=>(yb u6 HF LW E ak fun aJ w6 ay dJ HF E ak=>?_));refine zp ?_;refine zh oP (E9 _ c _ hi (HF.on E).here.1.1.1.1.1.2) E ay fun w7 E ay=>(zr ?_);refine zh oP (E9 _ d _ hj (HF.on E).here.1.1.1.1.2) E ay fun w8 E ay=>(kV ?_);have S1:=Nat.le_trans LW.size E.size;refine vv u7 (yqz 1 _ de de) HF LW E ak (fun o=>Per.bK o (aj.grow aj.none_ (zc ay.lt))) ay fun A1 c1 w9 HF LW E ay=>(vu ?_);intro aX dV aQ bC bO;have aU:Apart (some aX) (some aJ):=Apart.of_lt (zc ay.lt) bO;have bL:=aU.symm;replace ay:=ay.aG bC au.nil;obtain ⟨bO,HF,E,ak⟩:=gI HF LW E ak bC bO;refine qsv ?_;intro dB Bx bC;replace aQ:=Bx;replace ay:=ay.aG bC (au.cons bL au.nil);replace E:=E.step1 bC aj.head;refine yv ?_;refine zw 25 rfl (by rw[beq_eq_false_iff_ne.2 hlen]<;>rfl) (zn ?_);replace HF:=HF.on E;replace LW:=LW.step E ak;replace E:=aC (aj [(some aX),(some aJ)]) dB;refine yy (ι:=Bool) (fun u=>[(2,.pointer (some ⟨aO,0,none⟩)),(3,.pointer (some ⟨bM,0,none⟩)),(4,.pointer (some ⟨aJ,0,none⟩)),(5,.int .i64 0),(6,.pointer (some ⟨aX,0,none⟩)),(43,.bool u)]) (fun u w'=>Ext (aj [(some aX),(some aJ)]) dB w'∧aB w' aX 24 (#[.bool (decide ((1:Int)<0)),.slice A1 (limbs 1).length c1])∧aB w' aJ 24 (#[.bool false,.slice none 0 0])∧((u=true↔i.natAbs=1))) ?_ ?_
 ·
  have pG:=aC (aj [(some aX),(some aJ)]) dB;have pI:=aN (aj [(some aX),(some aJ)]) dB;refine zo ?_;refine yu 31 rfl (by rw[beq_eq_false_iff_ne.2 Ur]<;>rfl) (zn ?_);by_cases h:i.natAbs<av
  ·
   have h1:((limbs i).length:Int)=1:=by rw[BQ om h];rfl
   refine vf 36 rfl (by rw[h1];rfl) (zi ?_);refine bZ rfl (jk (j:=0) u22 zP rfl rfl rfl hip (zn ?_));exact yn (((i.natAbs%av:Nat):Int)==1) ⟨rfl,rfl,rfl,rfl,rfl,rfl,trivial⟩ ⟨pG.step E pI,(by exact aQ),(by exact ay),by rw[Nat.mod_eq_of_lt h,beq_iff_eq];omega⟩
  ·
   have h1:((limbs i).length:Int)≠1:=by have:=BR (j:=i) om;omega
   refine yu 36 rfl (by rw[beq_eq_false_iff_ne.2 h1]<;>rfl) (yk ?_);exact yn false ⟨rfl,rfl,rfl,rfl,rfl,rfl,trivial⟩ ⟨pG.step E pI,(by exact aQ),(by exact ay),⟨fun e=>absurd e de,fun e=>by unfold av at h;omega⟩⟩
 ·
  have Us:=(zc aQ.lt);have wH:=(zc ay.lt);rintro u cZ ⟨pG,aQ,ay,hu⟩;replace E:=E.trans pG;replace HF:=HF.on E;replace LW:=LW.step E ak;replace E:=aC (aj [(some aX),(some aJ)]) cZ;clear Us;clear wH;by_cases h1:i.natAbs=1
  ·
   have Uo:limbs i= [1]:=by rw[qo,h1];rfl
   have hsm:(i^j.toNat).natAbs<av^30:=by rw[qgx,h1,Nat.one_pow];exact Nat.one_lt_pow de (by unfold av;omega)
   refine qm 43 rfl (by rw[hu.2 h1]<;>rfl) ?_;by_cases hn:i<0
   ·
    have hv:=BS h1 j.toNat (decide (j.toNat%2=1)) (by rw[decide_eq_true hn,Bool.true_and]);refine zi ?_;have OY:∀q9,(aj (kf [⟨13,aJ,24,#[.bool false,.slice none 0 0]⟩])) q9→q9<(World.drew cZ).heap.size→(aj [(some aX),(some aJ)]) q9:=fun k h _=>((aj.grow aj.none_ (aj.tail aj.head))) k h;refine yq (aj [(some aX),(some aJ)]) (aj.grow (aj.grow aj.none_ (zc ay.lt)) (zc aQ.lt)) [] [⟨13,aJ,24,#[.bool false,.slice none 0 0]⟩] (xc [Fx.of (.pointer (some ⟨aO,0,none⟩)),
     Fx.of (.bool true),
     Fx.of (.bool true),
     Fx.of (.pointer (some ⟨bM,1,none⟩)),
     Fx.of (.slice (some ⟨by_,oy,none⟩) (limbs j).length d),
     Fx.of (.pointer (some ⟨by_,oy+0,none⟩)),
     Fx.of (.int .u64 ((j.natAbs%av:Nat):Int)),
     Fx.of (.int .u64 (((j.natAbs%av:Nat):Int).tmod 2)),
     Fx.of (.bool (decide (j.toNat%2=1))),
     Fx.of (.bool (decide (j.toNat%2=1))),
     Fx.of (.pointer (some ⟨aO,1,none⟩)),
     Fx.of (.slice (some ⟨bx,ox,none⟩) (limbs i).length c),
     ⟨(Option Addr×Nat),fun (A2,c2)=>.agg #[.bool (decide (bJ (decide (j.toNat%2=1)) (val av (limbs i))<0)),.slice A2 (limbs (bJ (decide (j.toNat%2=1)) (val av (limbs i)))).length c2],fun (A2,c2) b=>(Own b w.heap.size A2 c2 (limbs (bJ (decide (j.toNat%2=1)) (val av (limbs i)))))⟩,
     Fx.of undef,
     Fx.of (.int .i64 0)]) mixed rfl ⟨⟨(aj.tail aj.head) _ rfl,ay,fun _ h=>by cases h⟩,trivial⟩ (by intro o ho;simp at ho;rcases ho with rfl<;>simp) ?_ ?_
    · refine ⟨arm,?_,arm,arm,arm,?_,arm,?_,?_,arm,arm,arm,?_,?_,arm,trivial⟩
      · refine yx ?_;intro vs X wq K;have LE:=K.1;exact yd u4 rfl rfl (HF.on (E.drew.trans (LE.mono OY))).here.1.1.2 rfl ⟨Below.refl _ _,Left.of ((by rw[decide_eq_true hn]:(.bool (decide (i<0)):Value)=_))⟩
      · refine yx ?_;intro vs X wq K;exact xt rfl (jk (j:=0) u22 zP rfl rfl rfl hjp ⟨Below.refl _ _,Left.of rfl⟩)
      · exact Ul
      · refine yx ?_;intro vs X wq K;exact xt rfl (Fw rfl rfl ⟨Below.refl _ _,Left.of ((by rw[Uq h0]:(.bool ((((j.natAbs%av:Nat):Int).tmod 2)==1):Value)=_))⟩)
      · refine yx ?_;intro vs X wq K;have LE:=K.1;have XN:=K.2.1;have SQ:=Nat.le_trans LW.size (Nat.le_trans E.size LE.size);refine ze ax1 rfl ((oh (decide (j.toNat%2=1)) _ c (limbs i) _ (HF.on (E.drew.trans (LE.mono OY))).here.1.1.1.1.1.1.2 (ztq i) (by rw[Uo];decide)).mono ?_);exact Un
      · refine ⟨_,_,_,_,_,rfl,rfl,oc,fun vs X wq K=>⟨rfl,?_⟩⟩;exact Um
    intro vs dQ LE AO AL AF AA;have Kk:=aQ;have dx:=ay;replace aQ:=aQ.drew.aG LE (au.cons aU au.nil);replace E:=E.drew.trans (LE.mono OY);obtain ⟨⟨A2,c2⟩,e12,k12⟩:=AL.2.2.2.2.2.2.2.2.2.2.2.2.1;obtain ⟨_,e14,k14⟩:=AL.2.2.2.2.2.2.2.2.2.2.2.2.2.2.1;obtain ⟨v0,y0,Bx,ey,dR⟩:=AO.1;cases ey
    obtain rfl:vs 12=v0:=Option.some.inj dR;rw[e12] at Bx;replace ay:aB dQ aJ 24 #[.bool (decide (bJ (decide (j.toNat%2=1)) (val av (limbs i))<0)),.slice A2 (limbs (bJ (decide (j.toNat%2=1)) (val av (limbs i)))).length c2]:=Bx;obtain ⟨HF,LW,E⟩:=dG HF LW E ak ((k12.map (fun _ h=>h):Per (aj [(some aX),(some aJ)]) dQ (fun b=>Own b w.heap.size A2 c2 (limbs (bJ (decide (j.toNat%2=1)) (val av (limbs i)))))));exact aq6
   ·
    have hv:=BS h1 j.toNat false (by rw[decide_eq_false hn];rfl);refine zi ?_;have OY:∀q9,(aj (kf [⟨13,aJ,24,#[.bool false,.slice none 0 0]⟩])) q9→q9<(World.drew cZ).heap.size→(aj [(some aX),(some aJ)]) q9:=fun k h _=>((aj.grow aj.none_ (aj.tail aj.head))) k h;refine yq (aj [(some aX),(some aJ)]) (aj.grow (aj.grow aj.none_ (zc ay.lt)) (zc aQ.lt)) [] [⟨13,aJ,24,#[.bool false,.slice none 0 0]⟩] (xc [Fx.of (.pointer (some ⟨aO,0,none⟩)),
     Fx.of (.bool false),
     Fx.of (.bool false),
     Fx.of undef,
     Fx.of undef,
     Fx.of undef,
     Fx.of undef,
     Fx.of undef,
     Fx.of undef,
     Fx.of (.bool false),
     Fx.of (.pointer (some ⟨aO,1,none⟩)),
     Fx.of (.slice (some ⟨bx,ox,none⟩) (limbs i).length c),
     ⟨(Option Addr×Nat),fun (A2,c2)=>.agg #[.bool (decide (bJ false (val av (limbs i))<0)),.slice A2 (limbs (bJ false (val av (limbs i)))).length c2],fun (A2,c2) b=>(Own b w.heap.size A2 c2 (limbs (bJ false (val av (limbs i)))))⟩,
     Fx.of undef,
     Fx.of (.int .i64 0)]) mixed rfl ⟨⟨(aj.tail aj.head) _ rfl,ay,fun _ h=>by cases h⟩,trivial⟩ (by intro o ho;simp at ho;rcases ho with rfl<;>simp) ?_ ?_
    · refine ⟨arm,?_,arm,arm,arm,arm,arm,arm,arm,arm,arm,arm,?_,?_,arm,trivial⟩
      · refine yx ?_;intro vs X wq K;have LE:=K.1;exact yd u4 rfl rfl (HF.on (E.drew.trans (LE.mono OY))).here.1.1.2 rfl ⟨Below.refl _ _,Left.of ((by rw[decide_eq_false hn]:(.bool (decide (i<0)):Value)=_))⟩
      · refine yx ?_;intro vs X wq K;have LE:=K.1;have XN:=K.2.1;have SQ:=Nat.le_trans LW.size (Nat.le_trans E.size LE.size);refine ze ax1 rfl ((oh false _ c (limbs i) _ (HF.on (E.drew.trans (LE.mono OY))).here.1.1.1.1.1.1.2 (ztq i) (by rw[Uo];decide)).mono ?_);exact Un
      · refine ⟨_,_,_,_,_,rfl,rfl,oc,fun vs X wq K=>⟨rfl,?_⟩⟩;exact Um
    intro vs w16 LE AO AL AF AA;have Kk:=aQ;have dx:=ay;replace aQ:=aQ.drew.aG LE (au.cons aU au.nil);replace E:=E.drew.trans (LE.mono OY);obtain ⟨⟨A2,c2⟩,e12,k12⟩:=AL.2.2.2.2.2.2.2.2.2.2.2.2.1;obtain ⟨_,e14,k14⟩:=AL.2.2.2.2.2.2.2.2.2.2.2.2.2.2.1;obtain ⟨v0,y0,Bx,ey,dR⟩:=AO.1;cases ey
    obtain rfl:vs 12=v0:=Option.some.inj dR;rw[e12] at Bx;replace ay:aB w16 aJ 24 #[.bool (decide (bJ false (val av (limbs i))<0)),.slice A2 (limbs (bJ false (val av (limbs i)))).length c2]:=Bx;obtain ⟨HF,LW,E⟩:=dG HF LW E ak ((k12.map (fun _ h=>h):Per (aj [(some aX),(some aJ)]) w16 (fun b=>Own b w.heap.size A2 c2 (limbs (bJ false (val av (limbs i)))))));exact aq6
  ·
   have h2i:2≤i.natAbs:=om;refine zw 43 rfl (by rw[Bool.eq_false_iff.2 (fun e=>h1 (hu.1 e))]<;>rfl) (yv ?_);by_cases hjb:j.natAbs<av
   ·
    have ejm:j.natAbs%av=j.toNat:=by rw[Nat.mod_eq_of_lt hjb];omega
    have h2:¬(1:Int)<((limbs j).length:Int):=by rw[BQ om hjb];decide
    refine yu 61 rfl (by rw[decide_eq_false h2]<;>rfl) (zi ?_);refine bZ rfl (jk (j:=0) u22 zP rfl rfl rfl hjp (zn ?_));by_cases hj2:2000<j
    ·
     have e1:=qfv h2i (n:=j.toNat) om;refine qm 67 rfl (by rw[ejm,decide_eq_true om]<;>rfl) (zr ?_);refine yxq ?_;refine yjq ?_;intro fI Bx dw;exact aq5
    ·
     refine zw 67 rfl (by rw[ejm,decide_eq_false om]<;>rfl) (yk ?_);refine za rfl (jk (j:=0) u22 zP rfl rfl rfl hjp (aK ?_));refine zk 72 (.int .u64 (j.toNat:Int)) rfl (by rw[ejm]<;>rfl) (ye ?_);have b1:(i^0).natAbs<av^30:=by rw[Int.pow_zero];exact Nat.one_lt_pow de (by unfold av;omega)
     have e0:i^0=1:=Int.pow_zero i;replace aQ:aB cZ aX 24 #[.bool (decide (i^0<0)),.slice A1 (limbs (i^0)).length c1]:=by rw[e0];exact aQ
     replace HF:=HF.on E;replace LW:=LW.step E ak;replace E:=aC (aj [(some aX),(some aJ)]) cZ;refine qw (ι:=Nat×Option Addr×Nat) (fun (k,A1,c1)=>[(2,.pointer (some ⟨aO,0,none⟩)),(4,.pointer (some ⟨aJ,0,none⟩)),(6,.pointer (some ⟨aX,0,none⟩)),(72,.int .u64 (j.toNat:Int)),(73,.int .u64 ((k:Nat):Int))]) (fun (k,A1,c1) w'=>Ext (aj [(some aX),(some aJ)]) cZ w'∧aB w' aX 24 (#[.bool (decide (i^k<0)),.slice A1 (limbs (i^k)).length c1])∧aB w' aJ 24 (#[.bool false,.slice none 0 0])∧(k≤j.toNat∧(i^k).natAbs<av^30∧Own w' w.heap.size A1 c1 (limbs (i^k)))) (fun (k,A1,c1)=>j.toNat-k) (0,A1,c1) ⟨rfl,rfl,rfl,rfl,rfl,trivial⟩ ⟨Ext.refl _ _,(by exact aQ),(by exact ay),⟨Nat.zero_le _,b1,by rw[e0];exact ((HF.on E).here.2).mono S1⟩⟩ ?_;have Us:=(zc aQ.lt);have wH:=(zc ay.lt);rintro ⟨k,A1,c1⟩ fC ⟨eP,aQ,ay,⟨hk,hb1,hown⟩⟩;have dK:oK (aj [(some aX),(some aJ)]) (aj [(some aX),(some aJ)]) cZ:=(aj.grow (aj.grow aj.none_ (fun k e=>Or.inl ((aj.tail aj.head) k e))) (fun k e=>Or.inl (aj.head k e)));replace E:=E.trans eP;replace HF:=HF.on E;replace LW:=LW.step E ak;replace E:=aC (aj [(some aX),(some aJ)]) fC;clear Us;clear wH;replace HF:=HF.on E;replace LW:=LW.step E ak;replace eP:=eP.step E dK;replace E:=aC (aj [(some aX),(some aJ)]) fC;replace HF:=HF.and (Per.aYq hown (au.cons (rR hown aQ de) (au.cons (rR hown ay de) au.nil)));refine zo ?_;refine zf rfl (fun hlt=>?_) (fun hlt=>?_)
     ·
      have hlt:=of_decide_eq_true hlt;refine yk ?_;refine za rfl (ze awj rfl ((aOq A1 _ c1 c _ hb1 hi ((HF.on E).here.2).nums (HF.on E).here.1.1.1.1.1.1.1.2).mono ?_));rintro e wL ⟨A3,c3,rfl,o3,hb⟩;refine ⟨_,rfl,?_⟩;have XC:∀q9,(aj [(some aX),(some aJ)]) q9→q9<fC.heap.size:=(aj.grow (aj.grow aj.none_ (zc ay.lt)) (zc aQ.lt));have SC:=Nat.le_trans LW.size E.size;have Ec:=Ext.of_below hb No;replace aQ:=aQ.aG Ec au.nil;replace ay:=ay.aG Ec au.nil;replace E:=E.trans Ec.no;have S3:=SC;replace HF:=HF.on E;replace LW:=LW.step E ak;replace eP:=eP.step E dK;replace E:=aC (aj [(some aX),(some aJ)]) wL;replace HF:=HF.and (Per.bK o3 XC);refine zr ?_;refine vu ?_;intro Ho NP wM Hq BU;have Ca:Apart (some Ho) (some aX):=Apart.of_lt (zc aQ.lt) BU;have Ut:=Ca.symm;have Kl:Apart (some Ho) (some aJ):=Apart.of_lt (zc ay.lt) BU;have ae4:=Kl.symm;replace aQ:=aQ.aG Hq au.nil;replace ay:=ay.aG Hq au.nil;obtain ⟨BU,HF,E,ak⟩:=gI HF LW E ak Hq BU;replace dK:=aj.grow dK (fun k e=>Or.inr (Nat.le_trans eP.size ((gu BU) k e)));refine yj (qy oc rfl rfl wM rfl rfl (Nat.le_of_ble_eq_true rfl) ?_);intro wN Bx Hq;replace wM:=Bx;replace aQ:=aQ.aG Hq (au.cons Ut au.nil);replace ay:=ay.aG Hq (au.cons ae4 au.nil);replace E:=E.step1 Hq aj.head;refine zv ?_;refine zf rfl (fun q=>?_) (fun q=>?_)
      ·
       have e1:av^30≤(i^j.toNat).natAbs:=by
        have h7:¬(i^k*i).natAbs<av^30:=fun h9=>by rw[xh h9] at q;exact absurd q de
        exact Uj
       have e2:bg true (i^k*i)=7:=ykq (by
        rcases Nat.lt_or_ge (i^k*i).natAbs (av^30) with h9 | h9
        · rw[xh h9] at q;exact absurd q de
        · exact h9)
       refine zi ?_;refine yxq ?_;refine aK ?_;refine yjq ?_;intro w24 Bx dw;replace ay:=Bx;replace wM:=wM.aG dw (au.cons Kl au.nil);replace aQ:=aQ.aG dw (au.cons aU au.nil);replace E:=E.step1 dw (aj.tail (aj.tail aj.head));refine zv ?_;refine qf 5 (.int .i64 7) rfl ((by rw[e2]:(.int .i64 (bg true (i^k*i)):Value)=_)) (aK ?_);exact by rw[qav e1,ykq e1];exact yzx (LW.step E ak).toBelow
      ·
       have h9:(i^k*i).natAbs<av^30:=Ni (by simpa using q);have eV:bE true (i^k*i)=i^(k+1):=by rw[xa h9,Int.pow_succ]
       refine ye ?_;refine qsv ?_;intro Hr Bx bC;replace aQ:=Bx;replace wM:=wM.aG bC (au.cons Ca au.nil);replace ay:=ay.aG bC (au.cons bL au.nil);replace E:=E.step1 bC (aj.tail aj.head);refine ye ?_;refine TW ?_;refine zi ?_;rw[eV] at aQ;exact zx (k+1,A3,c3) (by show j.toNat-(k+1)<j.toNat-k;omega) ⟨rfl,rfl,rfl,rfl,rfl,trivial⟩ ⟨eP.step E dK,(by exact aQ),(by exact ay),om,by rw[Int.pow_succ];exact h9,by rw[←eV];exact ((HF.on E).here.2).mono S3⟩
     ·
      have hge:=of_decide_eq_false hlt;obtain rfl:k=j.toNat:=om;refine yk ?_;refine yjq ?_;intro w26 Bx dw;replace ay:=Bx;replace aQ:=aQ.aG dw (au.cons aU au.nil);replace E:=E.step1 dw (aj.tail aj.head);obtain ⟨HF,LW,ak,E⟩:=d9 HF LW E ak (Y:=aj [(some aX)]) (aj.keep (aj.skip aj.bI)) (Per.bH ay (au.cons bL au.nil));refine zn ?_;exact ⟨A1,c1,by rw[xa hb1,xh hb1];rfl,by rw[xa hb1];exact (HF.on E).here.1.2,aP LW E ak⟩
   ·
    have h2:(1:Int)<((limbs j).length:Int):=by have:=BR (j:=j) om;omega
    have e1:=qfv h2i (n:=j.toNat) (by unfold av at hjb;omega);refine vf 61 rfl (by rw[decide_eq_true h2]<;>rfl) (yv ?_);refine yxq ?_;refine yjq ?_;intro w27 Bx dw;exact aq5
theorem aP8 (h0:0≤j):Calls prog 93 #[.agg #[.bool (decide (i<0)),.slice A (limbs i).length c],.agg #[.bool (decide (j<0)),.slice B (limbs j).length d]] w (ya w (bE true (i^j.toNat)) (bg true (i^j.toNat))):=by
 have hsmall:∀z:Int,z.natAbs≤1→z.natAbs<av^30:=fun z hz=>Nat.lt_of_le_of_lt hz (Nat.one_lt_pow de (by unfold av;omega));rcases Int.le_iff_lt_or_eq.1 h0 with hp | rfl
 · by_cases hi0:i=0
   · have e:i^j.toNat=0:=by rw[hi0];exact Int.zero_pow om
     rw[e,xa (hsmall 0 de),xh (hsmall 0 de)];exact Hl i j A B c d w hi hj hx hy hp hi0
   · exact az7 i j A B c d w hi hj hx hy hp hi0
 · have e:i^(0:Int).toNat=1:=Int.pow_zero i;rw[e,xa (hsmall 1 de),xh (hsmall 1 de)];exact pow_zero i 0 A B c d w hi hj hx hy rfl
end
theorem kW {P Q:Prop} (k:Q) (h:(Unit→Q)→P:=by
 intro zK;refine yj (qy oc rfl rfl aT rfl rfl (Nat.le_of_ble_eq_true rfl) ?_);exact zK ()):P:=h fun _=>k
theorem kX {P Q:Prop} (k:Q) (h:(Unit→Q)→P:=by
 intro zK;refine yj (qy oc rfl rfl aZ rfl rfl (Nat.le_of_ble_eq_true rfl) ?_);exact zK ()):P:=h fun _=>k
theorem Cb {P Q:Prop} (k:Q) (h:(Unit→Q)→P:=by
 intro zK;refine zn ?_;refine za rfl (ze ax0 rfl ((ae5 hM hm0 om om A1 A4 c1 c4 _ (HF.on E).here.1.1.1.1.2 (HF.on E).here.1.2).mono ?_));exact zK ()):P:=h fun _=>k
theorem Cc {P Q:Prop} (k:Q) (h:(Unit→Q)→P:=by
 intro zK;refine zo ?_;refine xm ?_;refine qc ?_;refine Tk ?_;refine zr ?_;refine zw 18 rfl (by rw[zex,qp hf]<;>rfl) (ye ?_);exact zK ()):P:=h fun _=>k
theorem Uu {P:Prop} (h:P:=by
 obtain ⟨⟨A4,c4⟩,e0,_⟩:=K.dep 6 rfl rfl rfl;exact ⟨vs 6,rfl,by rw[e0];rfl,by rw[e0];rfl⟩):P:=h
theorem Uv {P:Prop} (h:P:=by
 intro vs X wq K;obtain ⟨⟨A4,c4⟩,e5,k5⟩:=K.dep 5 rfl rfl rfl;refine qq 59 _ rfl e5 ?_;exact kY):P:=h
theorem kZ {P:Prop} (h:P:=by
 exact ⟨_,_,_,_,_,rfl,u6,rfl⟩):P:=h
theorem Uw {P:Prop} (h:P:=by
 intro vs X wq K;obtain ⟨⟨A4,c4⟩,e4,k4⟩:=K.dep 4 rfl rfl rfl;refine qq 64 _ rfl e4 ?_;exact qhx rfl ⟨Below.refl _ _,⟨⟨A4,c4⟩,rfl,(k4.map (fun _ h=>h))⟩⟩):P:=h
theorem Ux {P:Prop} (h:P:=by
 intro vs X wq K;obtain ⟨⟨A4,c4⟩,e5,k5⟩:=K.dep 5 rfl rfl rfl;refine qq 59 _ rfl e5 ?_;exact kj rfl rfl ⟨Below.refl _ _,⟨⟨A4,c4⟩,rfl,(k5.map (fun _ h=>h))⟩⟩):P:=h
theorem kY {P:Prop} (h:P:=by
 exact kj rfl rfl ⟨Below.refl _ _,Left.of rfl⟩):P:=h
theorem aq7 {P:Prop} (h:P:=by
 replace aT:=Bx;replace aZ:=aZ.aG Uy (au.cons lg au.nil);replace E:=E.step1 Uy (aj.tail aj.head);obtain ⟨HF,LW,ak,E⟩:=d9 HF LW E ak (Y:=aj [(some bR)]) (aj.keep (aj.skip aj.bI)) (Per.bH aT (au.cons lq au.nil));refine zn ?_;exact ⟨A5,c5,rfl,((HF.on E).here.1.1.1.2).mono hS,aP LW E ak⟩):P:=h
theorem aq8 {P:Prop} (h:P:=by
 refine yx ?_;intro vs X wq K;have LE:=K.1;have XN:=K.2.1;obtain ⟨⟨A3,c3⟩,e3,k3⟩:=K.dep 3 rfl rfl rfl;refine qq 63 _ rfl e3 (ze Z8 rfl ((Km k A2 A3 c2 c3 _ om (HF.on (E.drew.trans (LE.mono OY))).here.1.2 k3.here).mono ?_));rintro e w2 ⟨A4,c4,rfl,o4,hb⟩;exact ⟨_,rfl,hb,⟨(A4,c4),rfl,Per.own o4 XN⟩⟩):P:=h
theorem Uz {P:Prop} (h:P:=by
 refine yx ?_;intro vs X wq K;have XN:=K.2.1;refine ze u7 rfl ((yqz ((k:Nat):Int) _ om om).mono ?_);rintro e w2 ⟨A3,c3,rfl,o3,hb⟩;exact ⟨_,rfl,hb,⟨(A3,c3),rfl,Per.own o3 XN⟩⟩):P:=h
theorem qek {z:Int} (h:z.natAbs<9223372036854775809):z.natAbs<av^30:=Nat.lt_of_lt_of_le (Nat.lt_of_lt_of_le h de) (Nat.le_trans (rO (k:=64) (K:=1024) rfl rfl de) Hg)
theorem lu (k:Nat):((2:Int)^k).natAbs=2^k:=by rw[Int.natAbs_pow];rfl
theorem Ce (k:Nat):(0:Int)<2^k:=Int.pow_pos de
theorem Ko (k:Nat):decide ((2:Int)^k<0)=false:=decide_eq_false (by have:=Ce k;omega)
theorem wO {k:Nat} (h:k≤1023):((2:Int)^k).natAbs<av^30:=by
 rw[lu];exact Nat.lt_of_lt_of_le (Nat.pow_lt_pow_right de (show k<1024 from om)) Hg
theorem Km (k:Nat) (A B:Option Addr) (c d:Nat) (w:World) (hk:k≤1023) (hx:aA w A (limbs 2)) (hy:aA w B (limbs ((k:Nat):Int))) :
 Calls prog 93 #[.agg #[.bool (decide ((2:Int)<0)),.slice A (limbs 2).length c],.agg #[.bool (decide (((k:Nat):Int)<0)),.slice B (limbs ((k:Nat):Int)).length d]] w (ya w ((2:Int)^k) 0):=by
 rcases Nat.eq_zero_or_pos k with h0 | h0
 · have h:=pow_zero 2 ((k:Nat):Int) A B c d w (qek de) (qek om) hx hy om;rw[h0] at h ⊢;exact h
 · have h:=aP8 2 ((k:Nat):Int) A B c d w (qek de) (qek om) hx hy om;rw[Int.toNat_natCast,xa (wO hk),xh (wO hk)] at h;exact h
theorem UA {a M k:Nat} (hM:M=vn a*2^k) {n1:Bool} {m0:Int} (h0:m0=if ng a then -((M:Nat):Int) else ((M:Nat):Int)) (h1:n1=decide (m0<0)):dq n1 false M (2^k)=oi a:=by
 have hp:=ot k;have e1:M/2^k=vn a:=by rw[hM];exact Nat.mul_div_cancel _ hp
 have e2:M%2^k=0:=by rw[hM];exact Nat.mul_mod_left _ _
 unfold dq oi;rw[e1,e2,h1,h0];by_cases hz:vn a=0
 · rw[hz] at hM ⊢;rw[Nat.zero_mul] at hM;subst hM;cases ng a<;>simp
 · have hMp:0<M:=by rw[hM];exact Nat.mul_pos om hp
   cases ng a with
   | true=>simp only[if_true];rw[decide_eq_true om];rfl
   | false=>simp only[Bool.false_eq_true,if_false];rw[decide_eq_false om];rfl
theorem UC {x P:Nat} (hP:0<P) (h:0=x*P):x=0:=by
 rcases Nat.eq_zero_or_pos x with h' | h'
 · exact h'
 · have:=Nat.mul_pos h' hP;omega
theorem Ht {m e W P n k M:Nat} (hP:P=2^1074) (h:m*2^e=W*P*2^n) (hc:1074+n≤e) (hk:k=e-(1074+n)) (hM:M=m):W=M*2^k:=by
 have h1:P*2^n=2^(1074+n):=by rw[hP,Nat.pow_add]
 rw[Nat.mul_assoc,h1,yex hc] at h;rw[hM,hk];exact (Nat.eq_of_mul_eq_mul_right (ot _) h).symm
theorem Hu {m e W P n k M:Nat} (hP:P=2^1074) (h:m*2^e=W*P*2^n) (hc:e≤1074+n) (hk:k=1074+n-e) (hM:M=m):M=W*2^k:=by
 have h1:P*2^n=2^(1074+n):=by rw[hP,Nat.pow_add]
 rw[Nat.mul_assoc,h1,yex hc W] at h;rw[hM,hk];exact Nat.eq_of_mul_eq_mul_right (ot _) h
theorem az8 {m e W n k M:Nat} (h:m*2^e=W*2^1074*2^n) (hc:1074+n≤e) (hk:k=e-(1074+n)) (hM:M=m):W=M*2^k:=Ht rfl h hc hk hM
theorem az9 {m e W n k M:Nat} (h:m*2^e=W*2^1074*2^n) (hc:e≤1074+n) (hk:k=1074+n-e) (hM:M=m):M=W*2^k:=Hu rfl h hc hk hM
theorem ae5 {a M k:Nat} {m0:Int} (hM:M=vn a*2^k) (h0:m0=if ng a then -((M:Nat):Int) else ((M:Nat):Int)) (hMb:M<9223372036854775808) (hk:k≤1023) (A B:Option Addr) (c d:Nat) (w:World) (hx:aA w A (limbs m0)) (hy:aA w B (limbs ((2:Int)^k))) :
 Calls prog 95 #[.agg #[.bool (decide (m0<0)),.slice A (limbs m0).length c],.agg #[.bool (decide ((2:Int)^k<0)),.slice B (limbs ((2:Int)^k)).length d]] w fun e w'=>∃A5 c5 B6 c6 r,e= .returned (.tuple #[.agg #[.bool (decide (oi a<0)),.slice A5 (limbs (oi a)).length c5],.agg #[.bool (decide (r<0)),.slice B6 (limbs r).length c6],.int .i64 0])∧Own w' w.heap.size A5 c5 (limbs (oi a))∧Below w.heap.size w w':=by
 have hma:m0.natAbs=M:=by rw[h0];split<;>omega
 have h:=vmq A B c d (limbs m0) (limbs ((2:Int)^k)) w (decide (m0<0)) (decide ((2:Int)^k<0)) hx hy (vh (qek om)) (vh (wO hk)) (zwx (by have:=Ce k;omega));rw[qo m0,qo ((2:Int)^k),kx qk,kx qk,←qo,←qo,hma,lu,Ko,UA hM h0 rfl] at h;rw[Ko];exact h.mono fun e w' ⟨A5,c5,B6,c6,he,o1,o2,hb,_⟩=>⟨A5,c5,B6,c6,_,he,o1,hb⟩
section
variable (w:World) (a:Nat) (ha:a<18446744073709551616)
theorem vfv (hf:rg a<9218868437227405312):Calls prog 91 #[.float .f64 a] w (aF w (.float .f64 (gz .zero a))):=by
 refine zd func91 rfl ntmps91 rfl ?_;have LW:=aC (No) w;have ak:=aN (No) w;have E:=aC (No) w;refine zv ?_;refine za rfl (zG aL5 rfl ((jD a).trans (qp hf)) ?_);exact qdq
include ha
section
variable (hf:rg a<9218868437227405312)
include hf
theorem Hw (h0:vn a=0):Calls prog 43 #[.int .u64 ((a:Nat):Int)] w (ya w (oi a) 0):=by
 obtain ⟨q,hq1,hq2,hq3⟩:=qcq hf;have hq0:q=0:=ywq.1 (az1 hq1 h0);obtain ⟨r1,r2,r3⟩:=vj (ng a) q om;obtain ⟨M,hMd⟩:∃M,M=0:=⟨_,rfl⟩;obtain ⟨k,hk⟩:∃k,k=53:=⟨_,rfl⟩;obtain ⟨m0,hm0⟩:∃m0:Int,m0=if ng a then -((M:Nat):Int) else ((M:Nat):Int):=⟨_,rfl⟩
 have hM:M=vn a*2^k:=by rw[h0,Nat.zero_mul,hMd]
 have hwz:vn (Ieee.double.word (ng a) q)=0:=(ywz (ng a) om hq1).trans h0;have hfz:floatToIntVal .f64 (Ieee.double.word (ng a) q) .i64=some m0:=by
  rw[J9 (by rw[r1];omega) (by rw[hwz];decide),hwz,r2,hm0,hMd]
 refine zj func43 ntmps43 fun HF LW ak E=>?_;refine zi ?_;refine yb u6 HF LW E ak fun aO w2 aT yQ HF E ak=>(Cc ?_);refine zh yM (vg _ a ha) E aT fun w3 E aT=>(yu 25 rfl (by rw[decide_eq_false om]<;>rfl) (zv ?_));refine zh awx (vfv _ a hf) E aT fun w4 E aT=>(zk 29 (.float .f64 (Ieee.double.word (ng a) q)) rfl (by rw[hq3]<;>rfl) (zh oQ (kP _ (Ieee.double.word (ng a) q) r3 (by rw[r1];exact hq0)) E aT fun w5 E aT=>(zv ?_)));refine zh vB (kQ _ (Ieee.double.word (ng a) q) r3 (by rw[r1];exact hq0) 53) E aT fun w6 E aT=>(za rfl (jC (z:=m0) underlying3 (by rw[gX];rfl) rfl hfz (vv u7 (yqz m0 _ (by rw[hm0];split<;>omega) (by rw[hm0];split<;>omega)) HF LW E ak (fun o=>Per.own o (aj.grow aj.none_ (zc aT.lt))) aT fun A1 c1 w7 HF LW E aT=>(vu ?_))));intro bR w9 aZ dz eD;have lg:Apart (some bR) (some aO):=Apart.of_lt (zc aT.lt) eD;have lq:=lg.symm;replace aT:=aT.aG dz au.nil;obtain ⟨eD,HF,E,ak⟩:=gI HF LW E ak dz eD;refine kX ?_;intro dI Bx dz;replace aZ:=Bx;replace aT:=aT.aG dz (au.cons lq au.nil);replace E:=E.step1 dz aj.head;refine ye ?_;refine zX u7 (yqz 2 _ de de) HF LW E ak (fun o=>Per.own o (aj.grow (aj.grow aj.none_ (zc aT.lt)) (zc aZ.lt))) aZ aT fun A2 c2 dV HF LW E aZ aT=>(vu ?_);intro NQ dS Hy eZ wP;have fJ:Apart (some NQ) (some bR):=Apart.of_lt (zc aZ.lt) wP;have wQ:=fJ.symm;have fK:Apart (some NQ) (some aO):=Apart.of_lt (zc aT.lt) wP;have wR:=fK.symm;replace aZ:=aZ.aG eZ au.nil;replace aT:=aT.aG eZ au.nil;obtain ⟨wP,HF,E,ak⟩:=gI HF LW E ak eZ wP;refine yj (qy oc rfl rfl Hy rfl rfl (Nat.le_of_ble_eq_true rfl) ?_);intro cZ Bx eZ;replace Hy:=Bx;replace aZ:=aZ.aG eZ (au.cons wQ au.nil);replace aT:=aT.aG eZ (au.cons wR au.nil);replace E:=E.step1 eZ aj.head;obtain ⟨HF,LW,ak,E⟩:=d9 HF LW E ak (Y:=aj [(some bR),(some aO)]) (aj.skip (aj.keep (aj.keep aj.bI))) (Per.bH Hy (au.cons fJ (au.cons fK au.nil)));refine zo ?_;refine za rfl (jn (z:=(-53)) rfl rfl kr (Qc ?_));have OY:∀q9,(aj (kf [])) q9→q9<(World.drew cZ).heap.size→(aj [(some bR),(some aO)]) q9:=fun k h _=>(aj.none_) k h;refine yq (aj [(some bR),(some aO)]) (aj.grow (aj.grow aj.none_ (zc aT.lt)) (zc aZ.lt)) [⟨8,9,24,#[.bool false,.slice none 0 0]⟩] [] (xc [Fx.of (.agg #[.bool (decide ((2:Int)<0)),.slice A2 (limbs 2).length c2]),
  Fx.of (.int .i64 (-53)),
  Fx.of (.int .i64 ((k:Nat):Int)),
  ⟨(Option Addr×Nat),fun (A3,c3)=>.agg #[.bool (decide (((k:Nat):Int)<0)),.slice A3 (limbs ((k:Nat):Int)).length c3],fun (A3,c3) b=>(aA b A3 (limbs ((k:Nat):Int)))⟩,
  ⟨(Option Addr×Nat),fun (A4,c4)=>.tuple #[.agg #[.bool (decide ((2:Int)^k<0)),.slice A4 (limbs ((2:Int)^k)).length c4],.int .i64 0],fun (A4,c4) b=>(aA b A4 (limbs ((2:Int)^k)))⟩,
  ⟨(Option Addr×Nat),fun (A4,c4)=>.tuple #[.agg #[.bool (decide ((2:Int)^k<0)),.slice A4 (limbs ((2:Int)^k)).length c4],.int .i64 0],fun (A4,c4) b=>(aA b A4 (limbs ((2:Int)^k)))⟩,
  ⟨(Option Addr×Nat),fun (A4,c4)=>.agg #[.bool (decide ((2:Int)^k<0)),.slice A4 (limbs ((2:Int)^k)).length c4],fun (A4,c4) b=>(aA b A4 (limbs ((2:Int)^k)))⟩,
  Fx.of (.int .i64 0),
  Fx.of undef,
  Fx.of undef,
  Fx.of (.int .i64 0)]) mixed rfl trivial (fun _ h=>by cases h) ?_ ?_
 · refine ⟨arm,arm,?_,?_,?_,?_,?_,?_,?_,?_,arm,trivial⟩
   · refine yx ?_;intro vs X wq K;exact uD (z:=53) rfl kr ⟨Below.refl _ _,Left.of (by rw[hk];rfl)⟩
   · exact Uz
   · exact aq8
   · exact Uw
   · exact Ux
   · exact Uv
   · exact kZ
   · refine ⟨_,_,_,_,_,rfl,rfl,rfl,oc,fun vs X wq K=>?_⟩;exact Uu
 intro vs dQ LE AO AL AF AA;have Cg:=aZ;have Ch:=aT;replace aZ:=aZ.drew.aG LE au.nil;replace aT:=aT.drew.aG LE au.nil;replace E:=E.drew.trans (LE.mono OY);obtain ⟨⟨A4,c4⟩,e6,k6⟩:=AL.2.2.2.2.2.2.1;obtain ⟨HF,LW,E⟩:=dG HF LW E ak ((k6.map (fun _ h=>h):Per (aj [(some bR),(some aO)]) dQ (fun b=>aA b A4 (limbs ((2:Int)^k)))));obtain ⟨wS,v0,y0,azq,UD,UE,ey,dR⟩:=AF.1;cases ey
 obtain rfl:vs 6=v0:=Option.some.inj dR;rw[e6] at UE;have fM:Apart (some wS) (some bR):=Apart.of_lt (zc Cg.lt) UD;have ae6:=fM.symm;have fO:Apart (some wS) (some aO):=Apart.of_lt (zc Ch.lt) UD;have ae7:=fO.symm;obtain ⟨HF,LW,E⟩:=dG HF LW E ak ((Per.bH UE (au.cons fM (au.cons fO au.nil)):Per (aj [(some bR),(some aO)]) dQ (fun b=>aB b wS 24 #[.bool (decide ((2:Int)^k<0)),.slice A4 (limbs ((2:Int)^k)).length c4])));have e8:=azq;refine vi (τ:=[(2,_),(3,_),(7,_),(11,.pointer (some ⟨wS,0,none⟩))]) ⟨rfl,rfl,rfl,congrArg some e8,trivial⟩ ?_;clear AL AF AA LE AO OY e6 e8 k6 Cg Ch;refine Cb ?_;rintro e fI ⟨A5,c5,B6,c6,r,rfl,o5,hb⟩;refine ⟨_,rfl,?_⟩;have XC:∀q9,(aj [(some bR),(some aO)]) q9→q9<dQ.heap.size:=(aj.grow (aj.grow aj.none_ (zc aT.lt)) (zc aZ.lt));have SC:=Nat.le_trans LW.size E.size;have Ec:=Ext.of_below hb No;replace aZ:=aZ.aG Ec au.nil;replace aT:=aT.aG Ec au.nil;replace E:=E.trans Ec.no;have hS:=SC;obtain ⟨HF,LW,E⟩:=dG HF LW E ak (Per.bK o5 XC);refine ye ?_;refine vu ?_;intro wT fC wU fP pJ;have Kq:Apart (some wT) (some bR):=Apart.of_lt (zc aZ.lt) pJ;have ae8:=Kq.symm;have Kr:Apart (some wT) (some aO):=Apart.of_lt (zc aT.lt) pJ;have ae9:=Kr.symm;replace aZ:=aZ.aG fP au.nil;replace aT:=aT.aG fP au.nil;obtain ⟨pJ,HF,E,ak⟩:=gI HF LW E ak fP pJ;refine vu ?_;intro aez wW UF Ci UG;have Cj:Apart (some aez) (some wT):=Apart.of_lt (zc wU.lt) UG;have UH:=Cj.symm;have Kt:Apart (some aez) (some bR):=Apart.of_lt (zc aZ.lt) UG;have aex:=Kt.symm;have Ku:Apart (some aez) (some aO):=Apart.of_lt (zc aT.lt) UG;have aej:=Ku.symm;replace wU:=wU.aG Ci au.nil;replace aZ:=aZ.aG Ci au.nil;replace aT:=aT.aG Ci au.nil;obtain ⟨UG,HF,E,ak⟩:=gI HF LW E ak Ci UG;refine yj (qy oc rfl rfl wU rfl rfl (Nat.le_of_ble_eq_true rfl) ?_);intro NP Bx fP;replace wU:=Bx;replace UF:=UF.aG fP (au.cons Cj au.nil);replace aZ:=aZ.aG fP (au.cons ae8 au.nil);replace aT:=aT.aG fP (au.cons ae9 au.nil);replace E:=E.step1 fP (aj.tail aj.head);obtain ⟨HF,LW,ak,E⟩:=d9 HF LW E ak (Y:=aj [(some aez),(some bR),(some aO)]) (aj.keep (aj.skip (aj.keep (aj.keep aj.bI)))) (Per.bH wU (au.cons UH (au.cons Kq (au.cons Kr au.nil))));refine yj (qy oc rfl rfl UF rfl rfl (Nat.le_of_ble_eq_true rfl) ?_);intro wN Bx Ci;replace UF:=Bx;replace aZ:=aZ.aG Ci (au.cons aex au.nil);replace aT:=aT.aG Ci (au.cons aej au.nil);replace E:=E.step1 Ci aj.head;obtain ⟨HF,LW,ak,E⟩:=d9 HF LW E ak (Y:=aj [(some bR),(some aO)]) (aj.skip (aj.keep (aj.keep aj.bI))) (Per.bH UF (au.cons Kt (au.cons Ku au.nil)));refine zo ?_;refine kW ?_;intro w24 Bx Uy;exact aq7
theorem NR (h0:vn a≠0):Calls prog 43 #[.int .u64 ((a:Nat):Int)] w (ya w (oi a) 0):=by
 obtain ⟨q,hq1,hq2,hq3⟩:=qcq hf;have hqf:q<9218868437227405312:=om;have hq0:q≠0:=fun e=>by
  subst e;rw[LV] at hq1;exact h0 (UC (ot 1074) hq1)
 obtain ⟨r1,r2,r3⟩:=vj (ng a) q om;obtain ⟨T,hT⟩:∃T,T=Ieee.double.word (ng a) q:=⟨_,rfl⟩;have hT1:rg T=q:=by rw[hT,r1]
 have hT2:ng T=ng a:=by rw[hT,r2]
 obtain ⟨F,hF⟩:∃F,F=gG T:=⟨_,rfl⟩;have hmn:=qbv hq0;have hFp:rg F=4602678819172646912+(mg (nr q)-4503599627370496)∧ng F=ng a∧F<18446744073709551616:=by
  rw[hF,gG,hT1,hT2];exact vj _ _ om
 obtain ⟨fq1,fq2⟩:=aq4 (r:=q) hq0;have hFv:vl (rg F)=mg (nr q)*2^1021:=by
  rw[hFp.1,←vvv hqf];exact (rQ hqf hq0).2.2
 have fq3:vl (1074*4503599627370496+mg (nr q))=vl (rg F)*2^53:=by rewrite [fq1,hFv];exact viq (p:=1074) (q:=1021) (s:=53) de _
 obtain ⟨M,hMd⟩:∃M,M=mg (nr q):=⟨_,rfl⟩;obtain ⟨m0,hm0⟩:∃m0:Int,m0=if ng a then -((M:Nat):Int) else ((M:Nat):Int):=⟨_,rfl⟩
 have fw:=vj (ng F) (1074*4503599627370496+mg (nr q)) om;have hwM:vn (Ieee.double.word (ng F) (1074*4503599627370496+mg (nr q)))=M:=by rw[hMd];exact ywz (ng F) fq2 fq1
 have hfz:floatToIntVal .f64 (Ieee.double.word (ng F) (1074*4503599627370496+mg (nr q))) .i64=some m0:=by
  rw[J9 (by rw[fw.1];exact fq2) (by rw[hwM];omega),hwM,fw.2.1,hFp.2.1,hm0]
 have hE:ig T=((ex (nr q):Nat):Int)-1021-((nd q:Nat):Int):=by
  have:=vwx hqf;rw[←this];unfold ig;rw[hT1,(ypz (r:=q) om).1]
 have hval:=qbz hq0;rw[hq1] at hval;have hxn:ex (nr q)≤2045:=by have:=yrx hq0 hqf;unfold ex;split<;>omega
 have hnd:nd q≤52:=by unfold nd;split<;>omega
 refine zj func43 ntmps43 fun HF LW ak E=>?_;refine zi ?_;refine yb u6 HF LW E ak fun aO w2 aT yQ HF E ak=>(Cc ?_);refine zh yM (vg _ a ha) E aT fun w3 E aT=>(yu 25 rfl (by rw[decide_eq_false om]<;>rfl) (zv ?_));refine zh awx (vfv _ a hf) E aT fun w4 E aT=>(zk 29 (.float .f64 (Ieee.double.word (ng a) q)) rfl (by rw[hq3]<;>rfl) (zk 29 (.float .f64 T) rfl (by rw[hT]<;>rfl) (zh oQ (zpk _ T (by rw[hT];exact r3) (by rw[hT1];exact hq0) (by rw[hT1];exact hqf)) E aT fun w5 E aT=>(zk 30 (.tuple #[.float .f64 F,.int .i64 (ig T)]) rfl (by rw[hF]<;>rfl) (zv ?_)))));refine zh vB (zpq _ F hFp.2.2 (by rw[hFp.1];omega) (by rw[hFp.1];omega) 53 (1074*4503599627370496+mg (nr q)) de fq2 fq3) E aT fun w6 E aT=>(za rfl (jC (z:=m0) underlying3 (by rw[gX];rfl) rfl hfz (vv u7 (yqz m0 _ (by rw[hm0];split<;>omega) (by rw[hm0];split<;>omega)) HF LW E ak (fun o=>Per.own o (aj.grow aj.none_ (zc aT.lt))) aT fun A1 c1 w7 HF LW E aT=>(vu ?_))));intro bR w9 aZ dz eD;have lg:Apart (some bR) (some aO):=Apart.of_lt (zc aT.lt) eD;have lq:=lg.symm;replace aT:=aT.aG dz au.nil;obtain ⟨eD,HF,E,ak⟩:=gI HF LW E ak dz eD;refine kX ?_;intro dI Bx dz;replace aZ:=Bx;replace aT:=aT.aG dz (au.cons lq au.nil);replace E:=E.step1 dz aj.head;refine ye ?_;refine zX u7 (yqz 2 _ de de) HF LW E ak (fun o=>Per.own o (aj.grow (aj.grow aj.none_ (zc aT.lt)) (zc aZ.lt))) aZ aT fun A2 c2 dV HF LW E aZ aT=>(vu ?_);intro NQ dS Hy eZ wP;have fJ:Apart (some NQ) (some bR):=Apart.of_lt (zc aZ.lt) wP;have wQ:=fJ.symm;have fK:Apart (some NQ) (some aO):=Apart.of_lt (zc aT.lt) wP;have wR:=fK.symm;replace aZ:=aZ.aG eZ au.nil;replace aT:=aT.aG eZ au.nil;obtain ⟨wP,HF,E,ak⟩:=gI HF LW E ak eZ wP;refine yj (qy oc rfl rfl Hy rfl rfl (Nat.le_of_ble_eq_true rfl) ?_);intro cZ Bx eZ;replace Hy:=Bx;replace aZ:=aZ.aG eZ (au.cons wQ au.nil);replace aT:=aT.aG eZ (au.cons wR au.nil);replace E:=E.step1 eZ aj.head;obtain ⟨HF,LW,ak,E⟩:=d9 HF LW E ak (Y:=aj [(some bR),(some aO)]) (aj.skip (aj.keep (aj.keep aj.bI))) (Per.bH Hy (au.cons fJ (au.cons fK au.nil)));refine zo ?_;refine yp ?_;refine qc ?_;refine yr 41 (.bool (decide (1074+nd q≤ex (nr q)))) rfl (gr (by rw[hE];omega)) (zf rfl (fun hc=>?_) (fun hc=>?_))
 ·
  have hc:=of_decide_eq_true hc;obtain ⟨k,hk⟩:∃k,k=ex (nr q)-(1074+nd q):=⟨_,rfl⟩;have hW:vn a=M*2^k:=az8 hval hc hk hMd;have hprod:m0*(2:Int)^k=oi a:=by
   rw[oi,hW,hm0];split
   · rw[Int.neg_mul,Int.natCast_mul,Int.natCast_pow];rfl
   · rw[Int.natCast_mul,Int.natCast_pow];rfl
  have hwl:=rP hf;refine yr 6 (.int .i64 ((k:Nat):Int)) rfl (by rw[hE];congr 1;omega) (aK ?_);have OY:∀q9,(aj (kf [])) q9→q9<(World.drew cZ).heap.size→(aj [(some bR),(some aO)]) q9:=fun k h _=>(aj.none_) k h;refine yq (aj [(some bR),(some aO)]) (aj.grow (aj.grow aj.none_ (zc aT.lt)) (zc aZ.lt)) [⟨7,8,24,#[.bool false,.slice none 0 0]⟩] [] (xc [Fx.of (.agg #[.bool (decide ((2:Int)<0)),.slice A2 (limbs 2).length c2]),
   Fx.of (.int .i64 ((k:Nat):Int)),
   ⟨(Option Addr×Nat),fun (A3,c3)=>.agg #[.bool (decide (((k:Nat):Int)<0)),.slice A3 (limbs ((k:Nat):Int)).length c3],fun (A3,c3) b=>(aA b A3 (limbs ((k:Nat):Int)))⟩,
   ⟨(Option Addr×Nat),fun (A4,c4)=>.tuple #[.agg #[.bool (decide ((2:Int)^k<0)),.slice A4 (limbs ((2:Int)^k)).length c4],.int .i64 0],fun (A4,c4) b=>(aA b A4 (limbs ((2:Int)^k)))⟩,
   ⟨(Option Addr×Nat),fun (A4,c4)=>.tuple #[.agg #[.bool (decide ((2:Int)^k<0)),.slice A4 (limbs ((2:Int)^k)).length c4],.int .i64 0],fun (A4,c4) b=>(aA b A4 (limbs ((2:Int)^k)))⟩,
   ⟨(Option Addr×Nat),fun (A4,c4)=>.agg #[.bool (decide ((2:Int)^k<0)),.slice A4 (limbs ((2:Int)^k)).length c4],fun (A4,c4) b=>(aA b A4 (limbs ((2:Int)^k)))⟩,
   Fx.of (.int .i64 0),
   Fx.of undef,
   Fx.of undef,
   Fx.of (.int .i64 0)]) mixed rfl trivial (fun _ h=>by cases h) ?_ ?_
  · refine ⟨arm,arm,?_,?_,?_,?_,?_,?_,?_,arm,trivial⟩
    · exact Uz
    · refine yx ?_;intro vs X wq K;have LE:=K.1;have XN:=K.2.1;obtain ⟨⟨A3,c3⟩,e2,k2⟩:=K.dep 2 rfl rfl rfl;refine qq 45 _ rfl e2 (ze Z8 rfl ((Km k A2 A3 c2 c3 _ om (HF.on (E.drew.trans (LE.mono OY))).here.1.2 k2.here).mono ?_));rintro e w2 ⟨A4,c4,rfl,o4,hb⟩;exact ⟨_,rfl,hb,⟨(A4,c4),rfl,Per.own o4 XN⟩⟩
    · intro vs X wq K;obtain ⟨⟨A4,c4⟩,e3,k3⟩:=K.dep 3 rfl rfl rfl;refine qq 46 _ rfl e3 ?_;exact qhx rfl ⟨Below.refl _ _,⟨⟨A4,c4⟩,rfl,(k3.map (fun _ h=>h))⟩⟩
    · intro vs X wq K;obtain ⟨⟨A4,c4⟩,e4,k4⟩:=K.dep 4 rfl rfl rfl;refine qq 42 _ rfl e4 ?_;exact kj rfl rfl ⟨Below.refl _ _,⟨⟨A4,c4⟩,rfl,(k4.map (fun _ h=>h))⟩⟩
    · intro vs X wq K;obtain ⟨⟨A4,c4⟩,e4,k4⟩:=K.dep 4 rfl rfl rfl;refine qq 42 _ rfl e4 ?_;exact kY
    · exact kZ
    · refine ⟨_,_,_,_,_,rfl,rfl,rfl,oc,fun vs X wq K=>?_⟩;obtain ⟨⟨A4,c4⟩,e0,_⟩:=K.dep 5 rfl rfl rfl;exact ⟨vs 5,rfl,by rw[e0];rfl,by rw[e0];rfl⟩
  intro vs dQ LE AO AL AF AA;have Cg:=aZ;have Ch:=aT;replace aZ:=aZ.drew.aG LE au.nil;replace aT:=aT.drew.aG LE au.nil;replace E:=E.drew.trans (LE.mono OY);obtain ⟨⟨A4,c4⟩,e5,k5⟩:=AL.2.2.2.2.2.1;obtain ⟨HF,LW,E⟩:=dG HF LW E ak ((k5.map (fun _ h=>h):Per (aj [(some bR),(some aO)]) dQ (fun b=>aA b A4 (limbs ((2:Int)^k)))));obtain ⟨wS,v0,y0,azq,UD,UE,ey,dR⟩:=AF.1;cases ey
  obtain rfl:vs 5=v0:=Option.some.inj dR;rw[e5] at UE;have fM:Apart (some wS) (some bR):=Apart.of_lt (zc Cg.lt) UD;have ae6:=fM.symm;have fO:Apart (some wS) (some aO):=Apart.of_lt (zc Ch.lt) UD;have ae7:=fO.symm;obtain ⟨HF,LW,E⟩:=dG HF LW E ak ((Per.bH UE (au.cons fM (au.cons fO au.nil)):Per (aj [(some bR),(some aO)]) dQ (fun b=>aB b wS 24 #[.bool (decide ((2:Int)^k<0)),.slice A4 (limbs ((2:Int)^k)).length c4])));have e7:=azq;refine vi (τ:=[(2,_),(3,_),(6,_),(7,_),(8,_),(9,.pointer (some ⟨wS,0,none⟩))]) ⟨rfl,rfl,rfl,rfl,rfl,congrArg some e7,trivial⟩ ?_;clear AL AF AA LE AO OY e5 e7 k5 Cg Ch;have hmul:∀(A B:Option Addr) (c d:Nat) (w:World),aA w A (limbs m0)→aA w B (limbs ((2:Int)^k))→Calls prog 94 #[.agg #[.bool (decide (m0<0)),.slice A (limbs m0).length c],.agg #[.bool (decide ((2:Int)^k<0)),.slice B (limbs ((2:Int)^k)).length d]] w (ya w (oi a) 0):=by
   intro A B c d w hx hy;have h:=aOq A B c d w (qek (by rw[hm0];split<;>omega)) (wO om) hx hy;rw[hprod,xa hwl,xh hwl] at h;exact h
  refine zn ?_;refine za rfl (ze awj rfl ((hmul A1 A4 c1 c4 _ (HF.on E).here.1.1.1.1.2 (HF.on E).here.1.2).mono ?_));rintro e fI ⟨A5,c5,rfl,o5,hb⟩;refine ⟨_,rfl,?_⟩;have XC:∀q9,(aj [(some bR),(some aO)]) q9→q9<dQ.heap.size:=(aj.grow (aj.grow aj.none_ (zc aT.lt)) (zc aZ.lt));have SC:=Nat.le_trans LW.size E.size;have Ec:=Ext.of_below hb No;replace aZ:=aZ.aG Ec au.nil;replace aT:=aT.aG Ec au.nil;replace E:=E.trans Ec.no;have hS:=SC;obtain ⟨HF,LW,E⟩:=dG HF LW E ak (Per.bK o5 XC);refine zr ?_;refine kX ?_;intro rT Bx dz;replace aZ:=Bx;replace aT:=aT.aG dz (au.cons lq au.nil);replace E:=E.step1 dz aj.head;obtain ⟨HF,LW,ak,E⟩:=d9 HF LW E ak (Y:=aj [(some aO)]) (aj.skip (aj.keep aj.bI)) (Per.bH aZ (au.cons lg au.nil));refine zn ?_;refine kW ?_;intro fC Bx Uy;replace aT:=Bx;replace E:=E.step1 Uy aj.head;refine zo ?_;exact ⟨A5,c5,rfl,((HF.on E).here.1.2).mono hS,aP LW E ak⟩
 ·
  have hc:=of_decide_eq_false hc;obtain ⟨k,hk⟩:∃k,k=1074+nd q-ex (nr q):=⟨_,rfl⟩;have hM:M=vn a*2^k:=az9 hval om hk hMd;have bg2:k≤52:=by
   rcases Nat.lt_or_ge 52 k with h | h
   · exfalso
     have h1:2^53≤2^k:=Nat.pow_le_pow_right de om;have h2:1*2^k≤vn a*2^k:=Nat.mul_le_mul_right _ om;omega
   · exact h
  refine qc ?_;refine zw 57 rfl (by rw[hE,decide_eq_false om]<;>rfl) (ye ?_);have OY:∀q9,(aj (kf [])) q9→q9<(World.drew cZ).heap.size→(aj [(some bR),(some aO)]) q9:=fun k h _=>(aj.none_) k h;refine yq (aj [(some bR),(some aO)]) (aj.grow (aj.grow aj.none_ (zc aT.lt)) (zc aZ.lt)) [⟨8,9,24,#[.bool false,.slice none 0 0]⟩] [] (xc [Fx.of (.agg #[.bool (decide ((2:Int)<0)),.slice A2 (limbs 2).length c2]),
   Fx.of (.int .i64 ((ig T)-53)),
   Fx.of (.int .i64 ((k:Nat):Int)),
   ⟨(Option Addr×Nat),fun (A3,c3)=>.agg #[.bool (decide (((k:Nat):Int)<0)),.slice A3 (limbs ((k:Nat):Int)).length c3],fun (A3,c3) b=>(aA b A3 (limbs ((k:Nat):Int)))⟩,
   ⟨(Option Addr×Nat),fun (A4,c4)=>.tuple #[.agg #[.bool (decide ((2:Int)^k<0)),.slice A4 (limbs ((2:Int)^k)).length c4],.int .i64 0],fun (A4,c4) b=>(aA b A4 (limbs ((2:Int)^k)))⟩,
   ⟨(Option Addr×Nat),fun (A4,c4)=>.tuple #[.agg #[.bool (decide ((2:Int)^k<0)),.slice A4 (limbs ((2:Int)^k)).length c4],.int .i64 0],fun (A4,c4) b=>(aA b A4 (limbs ((2:Int)^k)))⟩,
   ⟨(Option Addr×Nat),fun (A4,c4)=>.agg #[.bool (decide ((2:Int)^k<0)),.slice A4 (limbs ((2:Int)^k)).length c4],fun (A4,c4) b=>(aA b A4 (limbs ((2:Int)^k)))⟩,
   Fx.of (.int .i64 0),
   Fx.of undef,
   Fx.of undef,
   Fx.of (.int .i64 0)]) mixed rfl trivial (fun _ h=>by cases h) ?_ ?_
  · refine ⟨arm,arm,?_,?_,?_,?_,?_,?_,?_,?_,arm,trivial⟩
    · refine yx ?_;intro vs X wq K;exact uD rfl (yt om) ⟨Below.refl _ _,Left.of ((by rw[hE,hk];congr 1;omega:(.int .i64 (0-((ig T)-53)):Value)=_))⟩
    · exact Uz
    · exact aq8
    · exact Uw
    · exact Ux
    · exact Uv
    · exact kZ
    · refine ⟨_,_,_,_,_,rfl,rfl,rfl,oc,fun vs X wq K=>?_⟩;exact Uu
  intro vs wL LE AO AL AF AA;have Cg:=aZ;have Ch:=aT;replace aZ:=aZ.drew.aG LE au.nil;replace aT:=aT.drew.aG LE au.nil;replace E:=E.drew.trans (LE.mono OY);obtain ⟨⟨A4,c4⟩,e6,k6⟩:=AL.2.2.2.2.2.2.1;obtain ⟨HF,LW,E⟩:=dG HF LW E ak ((k6.map (fun _ h=>h):Per (aj [(some bR),(some aO)]) wL (fun b=>aA b A4 (limbs ((2:Int)^k)))));obtain ⟨Ho,v0,y0,aYz,BU,wM,ey,dR⟩:=AF.1;cases ey
  obtain rfl:vs 6=v0:=Option.some.inj dR;rw[e6] at wM;have Kv:Apart (some Ho) (some bR):=Apart.of_lt (zc Cg.lt) BU;have aU1:=Kv.symm;have Kw:Apart (some Ho) (some aO):=Apart.of_lt (zc Ch.lt) BU;have aU2:=Kw.symm;obtain ⟨HF,LW,E⟩:=dG HF LW E ak ((Per.bH wM (au.cons Kv (au.cons Kw au.nil)):Per (aj [(some bR),(some aO)]) wL (fun b=>aB b Ho 24 #[.bool (decide ((2:Int)^k<0)),.slice A4 (limbs ((2:Int)^k)).length c4])));have e8:=aYz;refine vi (τ:=[(2,_),(3,_),(7,_),(11,.pointer (some ⟨Ho,0,none⟩))]) ⟨rfl,rfl,rfl,congrArg some e8,trivial⟩ ?_;clear AL AF AA LE AO OY e6 e8 k6 Cg Ch;refine Cb ?_;rintro e NP ⟨A5,c5,B6,c6,r,rfl,o5,hb⟩;refine ⟨_,rfl,?_⟩;have XC:∀q9,(aj [(some bR),(some aO)]) q9→q9<wL.heap.size:=(aj.grow (aj.grow aj.none_ (zc aT.lt)) (zc aZ.lt));have SC:=Nat.le_trans LW.size E.size;have Ec:=Ext.of_below hb No;replace aZ:=aZ.aG Ec au.nil;replace aT:=aT.aG Ec au.nil;replace E:=E.trans Ec.no;have hS:=SC;obtain ⟨HF,LW,E⟩:=dG HF LW E ak (Per.bK o5 XC);refine ye ?_;refine vu ?_;intro NS w24 pK fQ Ck;have Ky:Apart (some NS) (some bR):=Apart.of_lt (zc aZ.lt) Ck;have af0:=Ky.symm;have Kz:Apart (some NS) (some aO):=Apart.of_lt (zc aT.lt) Ck;have af2:=Kz.symm;replace aZ:=aZ.aG fQ au.nil;replace aT:=aT.aG fQ au.nil;obtain ⟨Ck,HF,E,ak⟩:=gI HF LW E ak fQ Ck;refine vu ?_;intro af3 w26 UJ Cm UK;have Cn:Apart (some af3) (some NS):=Apart.of_lt (zc pK.lt) UK;have UL:=Cn.symm;have KA:Apart (some af3) (some bR):=Apart.of_lt (zc aZ.lt) UK;have af4:=KA.symm;have KC:Apart (some af3) (some aO):=Apart.of_lt (zc aT.lt) UK;have af5:=KC.symm;replace pK:=pK.aG Cm au.nil;replace aZ:=aZ.aG Cm au.nil;replace aT:=aT.aG Cm au.nil;obtain ⟨UK,HF,E,ak⟩:=gI HF LW E ak Cm UK;refine yj (qy oc rfl rfl pK rfl rfl (Nat.le_of_ble_eq_true rfl) ?_);intro w27 Bx fQ;replace pK:=Bx;replace UJ:=UJ.aG fQ (au.cons Cn au.nil);replace aZ:=aZ.aG fQ (au.cons af0 au.nil);replace aT:=aT.aG fQ (au.cons af2 au.nil);replace E:=E.step1 fQ (aj.tail aj.head);obtain ⟨HF,LW,ak,E⟩:=d9 HF LW E ak (Y:=aj [(some af3),(some bR),(some aO)]) (aj.keep (aj.skip (aj.keep (aj.keep aj.bI)))) (Per.bH pK (au.cons UL (au.cons Ky (au.cons Kz au.nil))));refine yj (qy oc rfl rfl UJ rfl rfl (Nat.le_of_ble_eq_true rfl) ?_);intro w28 Bx Cm;replace UJ:=Bx;replace aZ:=aZ.aG Cm (au.cons af4 au.nil);replace aT:=aT.aG Cm (au.cons af5 au.nil);replace E:=E.step1 Cm aj.head;obtain ⟨HF,LW,ak,E⟩:=d9 HF LW E ak (Y:=aj [(some bR),(some aO)]) (aj.skip (aj.keep (aj.keep aj.bI))) (Per.bH UJ (au.cons KA (au.cons KC au.nil)));refine zo ?_;refine kW ?_;intro w29 Bx Uy;exact aq7
theorem NT:Calls prog 43 #[.int .u64 ((a:Nat):Int)] w (ya w (oi a) 0):=by
 by_cases h0:vn a=0
 · exact Hw w a ha hf h0
 · exact NR w a ha hf h0
end
end
theorem lF {P Q:Prop} (k:Q) (h:(Unit→Q)→P:=by
 intro zK;refine zp ?_;refine xm ?_;refine yk ?_;refine Tk ?_;refine aK ?_;refine yu 17 rfl (by rw[zex,hn]<;>rfl) (aK ?_);exact zK ()):P:=h fun _=>k
theorem od {P Q:Prop} (k:Q) (h:(Unit→Q)→P:=by
 intro zK;refine zi ?_;refine za rfl (yqx rfl ?_);exact zK ()):P:=h fun _=>k
noncomputable def UR (a:Nat) (i:Int):Int:=if jS (oi a) i≠0 then jS (oi a) i else if BO a then (if ng a then -1 else 1) else 0
theorem NV {a q:Nat} (hf:rg a<9218868437227405312) (h1:vl q=vn a*2^1074) (h2:q≤rg a):kE a (Ieee.double.word (ng a) q)=(if BO a then (if ng a then -1 else 1) else 0)∧Nj a (Ieee.double.word (ng a) q)=true:=by
 obtain ⟨w1,w2,w3⟩:=vj (ng a) q om;have hn:aW (Ieee.double.word (ng a) q)=false:=qp (by rw[w1];omega);have ho:Nj a (Ieee.double.word (ng a) q)=true:=by rw[Nj,qp hf,hn];rfl
 refine ⟨?_,ho⟩;have hl:BO a=decide (q<rg a):=by
  refine (ae1 ?_).symm;rw[TP,←h1];constructor
  · intro h e;have:=Za h;omega
  · intro h;rcases Nat.lt_or_ge q (rg a) with h' | h'
    · exact h'
    · exact absurd (congrArg vl (show rg a=q from om)) h
 rw[kE,if_pos ho,hl];obtain ⟨p1,p2⟩:=qov a;obtain ⟨p3,p4⟩:=qov (Ieee.double.word (ng a) q);rw[w1,w2] at p3 p4;unfold Tv;cases hs:ng a with
 | true=>
  rw[hs] at p3;rw[p1 hs,p3 rfl];by_cases h:q<rg a
  · rw[decide_eq_true h,if_pos om];rfl
  · rw[decide_eq_false h,if_neg om,if_neg om];rfl
 | false=>
  rw[hs] at p4;rw[p2 hs,p4 rfl];by_cases h:q<rg a
  · rw[decide_eq_true h,if_neg om,if_pos om];rfl
  · rw[decide_eq_false h,if_neg om,if_neg om];rfl
theorem af6 (s:Bool):floatToIntVal .f64 (Ieee.double.word s 4607182418800017408) .i64=some (if s then -1 else 1):=by cases s<;>decide +kernel
def af7 (a:Nat):Int:=if ng a then -1 else 1
section
variable (w:World) (a:Nat) (ha:a<18446744073709551616)
include ha
section
variable (n1:Bool) (A:Option Addr) (c:Nat) (xs:List Nat) (hx:aA w A xs) (hl:xs.length≤9223372036854775807)
include hx hl
theorem H7 (hn:aW a=true):Calls prog 118 #[.int .u64 ((a:Nat):Int),.agg #[.bool n1,.slice A xs.length c]] w (aF w (.tuple #[.int .i64 0,.bool false])):=by
 have _:=And.intro ha (And.intro hx hl);refine zd func118 rfl ntmps118 rfl ?_;have LW:=aC (No) w;have ak:=aN (No) w;have E:=aC (No) w;refine od ?_;intro aO w2 aT Uy yQ;have yQ:_≤aO:=Nat.le_trans E.size yQ;have aP9:=Nat.le_trans LW.size yQ;replace E:=E.trans Uy.no;replace E:=E.cons (some aO);replace ak:=aj.grow ak (fun k e=>Or.inr (Nat.le_trans LW.size ((gu yQ) k e)));replace LW:=LW.step E ak;have SB:∀q9,No q9→aj [(some aO)] q9:=(aj.skip aj.bI);replace ak:=fun k h=>ak k (SB k h);clear SB;replace E:=aC (No) w2;refine zp ?_;refine xm ?_;refine yk ?_;refine Tk ?_;refine aK ?_;refine vf 17 rfl (by rw[zex,hn]<;>rfl) (nW ?_);exact xq
theorem H9 (hn:aW a=false) (hg:zm n1 xs=false):Calls prog 118 #[.int .u64 ((a:Nat):Int),.agg #[.bool n1,.slice A xs.length c]] w (aF w (.tuple #[.int .i64 0,.bool false])):=by
 have _:=ha;refine zj func118 ntmps118 fun HF LW ak E=>?_;replace HF:=HF.and (Per.aD hx);refine zi ?_;refine zg HF LW E ak fun aO w2 HF LW E=>?_;refine lF ?_;refine zb oP (yf n1 c _ A xs hl (HF.on E).here.1.2) E fun w3 E=>(yu 19 rfl (by rw[hg]<;>rfl) (kh ?_));exact xq
end
section
variable (i:Int) (A:Option Addr) (c:Nat) (hi:i.natAbs<av^30) (hx:aA w A (limbs i)) (hn:aW a=false)
include hi hx hn
theorem Ia (gJ:rg a=9218868437227405312):Calls prog 118 #[.int .u64 ((a:Nat):Int),.agg #[.bool (decide (i<0)),.slice A (limbs i).length c]] w (aF w (.tuple #[.int .i64 (af7 a),.bool true])):=by
 refine zj func118 ntmps118 fun HF LW ak E=>?_;replace HF:=HF.and (Per.aD hx);refine zi ?_;refine zg HF LW E ak fun aO w2 HF LW E=>?_;refine lF ?_;refine zb oP (E9 A c _ hi (HF.on E).here.1.2) E fun w3 E=>(yv ?_);refine zb yM (vg _ a ha) E fun w4 E=>(vf 23 rfl (by rw[decide_eq_true gJ]<;>rfl) (zo ?_));refine zb zR (zmv _ 4607182418800017408 de a ha) E fun w5 E=>(zk 25 (.float .f64 (Ieee.double.word (ng a) 4607182418800017408)) rfl (by rw[show rg 4607182418800017408=4607182418800017408 from de]<;>rfl) (za rfl (jC (z:=af7 a) underlying3 (by rw[gX];rfl) rfl (af6 (ng a)) (zp ?_))));exact xq
theorem Ic (hf:rg a<9218868437227405312):Calls prog 118 #[.int .u64 ((a:Nat):Int),.agg #[.bool (decide (i<0)),.slice A (limbs i).length c]] w (aF w (.tuple #[.int .i64 (UR a i),.bool true])):=by
 obtain ⟨q,hq1,hq2,hq3⟩:=qcq hf;obtain ⟨t1,t2⟩:=NV hf hq1 hq2;rw[←hq3] at t1 t2;have hbr:qu (gz .zero a)=gz .zero a:=zek (qp (by rw[hq3,(vj (ng a) q om).1];omega));refine zj func118 ntmps118 fun HF LW ak E=>?_;replace HF:=HF.and (Per.aD hx);refine zi ?_;refine zg HF LW E ak fun aO w2 HF LW E=>?_;refine lF ?_;refine zb oP (E9 A c _ hi (HF.on E).here.1.2) E fun w3 E=>(yv ?_);refine zb yM (vg _ a ha) E fun w4 E=>(yu 23 rfl (by rw[decide_eq_false om]<;>rfl) (yk ?_));refine zzz aV7 (NT _ a ha hf) HF LW E ak (fun o=>Per.own o aj.none_) fun A2 c2 w5 HF LW E=>(zr ?_);refine yb u6 HF LW E ak fun gb6 w7 Bb6 Gb6 HF E ak=>(yj (qy oc rfl rfl Bb6 rfl rfl (Nat.le_of_ble_eq_true rfl) ?_));intro w8 Bx Eb6;replace Bb6:=Bx;replace E:=E.step1 Eb6 aj.head;obtain ⟨HF,LW,ak,E⟩:=d9 HF LW E ak (Y:=No) (aj.skip aj.bI) (Per.bH Bb6 au.nil);refine yk ?_;refine zb aH1 (aOz A2 A c2 c _ (rP hf) hi (HF.on E).here.1.2 (HF.on E).here.1.1.1.2) E fun w9 E=>(qc ?_);refine zf rfl (fun hc=>?_) (fun hc=>?_)
 ·
  have hc:=bne_iff_ne.1 hc;refine zv ?_;exact ⟨by rw[UR,if_pos hc];rfl,aP LW E ak⟩
 ·
  have hc:jS (oi a) i=0:=by simpa using hc
  refine zo ?_;refine zb awx (vfv _ a hf) E fun dI E=>(zb FZ (ycx _ (gz .zero a)) E fun dV E=>(zk 42 (.int .u64 ((gz .zero a:Nat):Int)) rfl (by rw[hbr]<;>rfl) (zb an6 (rz _ a (gz .zero a)) E fun dB E=>(nW ?_))));exact ⟨by rw[UR,if_neg (by rw[hc];decide),←t1];rfl,aP LW E ak⟩
end
end
def wX (a:Nat) (n1:Bool) (xs:List Nat):Bool:=!(aW a)&&zm n1 xs
noncomputable def yR (a:Nat) (n1:Bool) (xs:List Nat):Int:=if wX a n1 xs then (if rg a=9218868437227405312 then af7 a else UR a (num n1 xs)) else 0
section
variable (w:World) (a:Nat) (ha:a<18446744073709551616) (n1:Bool) (A:Option Addr) (c:Nat) (xs:List Nat) (hx:aA w A xs) (hl:xs.length≤9223372036854775807)
include ha hx hl
theorem lG:Calls prog 118 #[.int .u64 ((a:Nat):Int),.agg #[.bool n1,.slice A xs.length c]] w (aF w (.tuple #[.int .i64 (yR a n1 xs),.bool (wX a n1 xs)])):=by
 cases hn:aW a with
 | true=>
  have h:wX a n1 xs=false:=by rw[wX,hn];rfl
  rw[yR,h,if_neg de];exact H7 w a ha n1 A c xs hx hl hn
 | false=>
  cases hg:zm n1 xs with
  | false=>
   have h:wX a n1 xs=false:=by rw[wX,hg,Bool.and_false]
   rw[yR,h,if_neg de];exact H9 w a ha n1 A c xs hx hl hn hg
  | true=>
   have h:wX a n1 xs=true:=by rw[wX,hn,hg];rfl
   rw[yR,h,if_pos rfl];obtain ⟨i,rfl,rfl,hi⟩:=vaz hg;rw[jr];by_cases gJ:rg a=9218868437227405312
   · rw[if_pos gJ];exact Ia w a ha i A c hi hx hn gJ
   · rw[if_neg gJ];have h1:=of_decide_eq_false hn;exact Ic w a ha i A c hi hx hn om
end
theorem lH {P Q:Prop} (k:Q) (h:(Unit→Q)→P:=by
 intro zK;refine zi ?_;refine bZ rfl (qyk u9 rfl ?_);exact zK ()):P:=h fun _=>k
theorem lI {P Q:Prop} (k:Q) (h:(Unit→Q)→P:=by
 intro zK;refine za rfl (iP u24 rfl oc rfl (HF.on E).here.2 rfl rfl ?_);exact zK ()):P:=h fun _=>k
theorem vmz {P:Prop} (h:P:=by
 refine quv ?_;exact fD):P:=h
theorem ysv {P:Prop} (h:P:=by
 refine yk ?_;exact fD):P:=h
theorem UU {P:Prop} (h:P:=by
 refine yv ?_;exact fD):P:=h
theorem aq9 {P:Prop} (h:P:=by
 refine bZ rfl (qgv rfl rfl (ye ?_));refine jq rfl (fun h3=>?_) (fun h3=>?_)
 ·
  refine yk ?_;exact fD
 ·
  refine yN ?_;exact aqz):P:=h
theorem aqz {P:Prop} (h:P:=by
 refine zy 51 rfl (fun h4=>?_) (fun h4=>?_)
 ·
  refine zp ?_;refine zy 58 rfl (fun h5=>?_) (fun h5=>?_)
  ·
   replace h5:=eq_of_beq h5;refine zi ?_;refine bZ rfl (qyk u9 rfl (yk ?_));exact fD
  ·
   replace h5:=beq_eq_false_iff_ne.1 h5;refine yv ?_;exact fD
 ·
  refine yN ?_;exact fD):P:=h
theorem fD {P:Prop} (h:P:=by
 exact ⟨by refine congrArg (fun z=>Ending.returned (.bool z)) ?_;first | (simp_all[PV.good,gr0];done) | (simp_all[PV.good,gr0];omega),aP LW E ak⟩):P:=h
theorem gr0 {n:Nat} (h:0<n):n≠0:=om
theorem zrq {s:ByteArray} (h:s.toList= []):s.size=0:=by
 have h1:=congrArg List.length h;rw[ByteArray.toList_eq] at h1;exact h1
section
variable (w:World) (k:Int) (yes neg:Bool) (A B:Option Addr) (xs:List Nat) (c bits ni d:Nat) (s:ByteArray) (hx:aA w A xs) (hl:xs.length≤9223372036854775807)
include hx hl
theorem NY:Calls prog 28 #[.agg #[.int .i64 k,.bool yes,.bool neg,.slice A xs.length c,.int .u64 ((bits:Nat):Int),.string s,.slice B ni d]] w (aF w (.bool (PV.good ⟨k,yes,neg,xs,bits,s,ni⟩))):=by
 refine zj func28 ntmps28 fun HF LW ak E=>?_;replace HF:=HF.and (Per.aD hx);refine zi ?_;refine zg HF LW E ak fun aO w2 HF LW E=>?_;refine vp ?_;refine jq rfl (fun h1=>?_) (fun h1=>?_)
 ·
  replace h1:=of_decide_eq_true h1;exact ysv
 ·
  replace h1:=of_decide_eq_false h1;refine qc ?_;refine zy 12 rfl (fun h2=>?_) (fun h2=>?_)
  ·
   refine Qc ?_;refine jq rfl (fun h3=>?_) (fun h3=>?_)
   ·
    replace h3:=eq_of_beq h3;subst h3;refine zo ?_;refine zy 26 rfl (fun h4=>?_) (fun h4=>?_)
    ·
     refine zr ?_;refine zy 29 rfl (fun h5=>?_) (fun h5=>?_)
     ·
      replace h5:=eq_of_beq h5;refine zn ?_;refine zy 34 rfl (fun h6=>?_) (fun h6=>?_)
      ·
       replace h6:=eq_of_beq h6;exact UU
      ·
       replace h6:=beq_eq_false_iff_ne.1 h6;exact UU
     ·
      replace h5:=beq_eq_false_iff_ne.1 h5;refine nW ?_;exact fD
    ·
     refine jI ?_;exact fD
   ·
    replace h3:=beq_eq_false_iff_ne.1 h3;refine zo ?_;refine jq rfl (fun h7=>?_) (fun h7=>?_)
    ·
     replace h7:=eq_of_beq h7;subst h7;refine ye ?_;refine zy 42 rfl (fun h8=>?_) (fun h8=>?_)
     ·
      replace h8:=eq_of_beq h8;refine zn ?_;refine zy 47 rfl (fun h9=>?_) (fun h9=>?_)
      ·
       replace h9:=eq_of_beq h9;exact UU
      ·
       replace h9:=beq_eq_false_iff_ne.1 h9;exact UU
     ·
      replace h8:=beq_eq_false_iff_ne.1 h8;refine nW ?_;exact fD
    ·
     replace h7:=beq_eq_false_iff_ne.1 h7;refine zo ?_;refine jq rfl (fun h10=>?_) (fun h10=>?_)
     ·
      replace h10:=eq_of_beq h10;subst h10;refine zr ?_;refine lI ?_;refine zb oP (yf neg c _ A xs hl (HF.on E).here.1.2) E fun w3 E=>(aK ?_);refine zy 57 rfl (fun h11=>?_) (fun h11=>?_)
      ·
       refine zn ?_;refine zy 62 rfl (fun h12=>?_) (fun h12=>?_)
       ·
        refine zn ?_;refine zy 67 rfl (fun h13=>?_) (fun h13=>?_)
        ·
         replace h13:=eq_of_beq h13;exact UU
        ·
         replace h13:=beq_eq_false_iff_ne.1 h13;exact UU
       ·
        refine nW ?_;exact fD
      ·
       refine qN ?_;exact fD
     ·
      replace h10:=beq_eq_false_iff_ne.1 h10;refine zo ?_;refine jq rfl (fun h14=>?_) (fun h14=>?_)
      ·
       replace h14:=eq_of_beq h14;subst h14;refine ye ?_;refine zy 75 rfl (fun h15=>?_) (fun h15=>?_)
       ·
        replace h15:=eq_of_beq h15;refine zn ?_;refine zy 80 rfl (fun h16=>?_) (fun h16=>?_)
        ·
         exact UU
        ·
         exact UU
       ·
        replace h15:=beq_eq_false_iff_ne.1 h15;refine nW ?_;exact fD
      ·
       replace h14:=beq_eq_false_iff_ne.1 h14;refine zo ?_;refine jq rfl (fun h17=>?_) (fun h17=>?_)
       ·
        replace h17:=eq_of_beq h17;subst h17;refine ye ?_;refine zy 88 rfl (fun h18=>?_) (fun h18=>?_)
        ·
         replace h18:=eq_of_beq h18;refine zn ?_;refine zy 93 rfl (fun h19=>?_) (fun h19=>?_)
         ·
          refine zn ?_;refine zy 98 rfl (fun h20=>?_) (fun h20=>?_)
          ·
           replace h20:=eq_of_beq h20;refine lH ?_;refine qc ?_;exact fD
          ·
           replace h20:=beq_eq_false_iff_ne.1 h20;refine vp ?_;exact fD
         ·
          refine ou ?_;exact fD
        ·
         replace h18:=beq_eq_false_iff_ne.1 h18;refine jJ ?_;exact fD
       ·
        replace h17:=beq_eq_false_iff_ne.1 h17;refine zv ?_;exact fD
  ·
   refine Qc ?_;refine jq rfl (fun h21=>?_) (fun h21=>?_)
   ·
    replace h21:=eq_of_beq h21;subst h21;refine zo ?_;refine zy 26 rfl (fun h22=>?_) (fun h22=>?_)
    ·
     refine jI ?_;exact fD
    ·
     refine jI ?_;exact fD
   ·
    replace h21:=beq_eq_false_iff_ne.1 h21;refine zo ?_;refine jq rfl (fun h23=>?_) (fun h23=>?_)
    ·
     replace h23:=eq_of_beq h23;subst h23;exact vmz
    ·
     replace h23:=beq_eq_false_iff_ne.1 h23;refine zo ?_;refine jq rfl (fun h24=>?_) (fun h24=>?_)
     ·
      replace h24:=eq_of_beq h24;subst h24;refine zr ?_;refine lI ?_;refine zb oP (yf neg c _ A xs hl (HF.on E).here.1.2) E fun w4 E=>(aK ?_);refine zy 57 rfl (fun h25=>?_) (fun h25=>?_)
      ·
       refine zn ?_;refine zy 62 rfl (fun h26=>?_) (fun h26=>?_)
       ·
        refine zn ?_;refine zy 67 rfl (fun h27=>?_) (fun h27=>?_)
        ·
         replace h27:=eq_of_beq h27;exact UU
        ·
         replace h27:=beq_eq_false_iff_ne.1 h27;exact UU
       ·
        refine nW ?_;exact fD
      ·
       refine qN ?_;exact fD
     ·
      replace h24:=beq_eq_false_iff_ne.1 h24;refine zo ?_;refine jq rfl (fun h28=>?_) (fun h28=>?_)
      ·
       replace h28:=eq_of_beq h28;subst h28;exact vmz
      ·
       replace h28:=beq_eq_false_iff_ne.1 h28;refine zo ?_;refine jq rfl (fun h29=>?_) (fun h29=>?_)
       ·
        replace h29:=eq_of_beq h29;subst h29;refine JO ?_;exact fD
       ·
        replace h29:=beq_eq_false_iff_ne.1 h29;refine zv ?_;exact fD
theorem rg0:Calls prog 12 #[.agg #[.int .i64 0,.bool yes,.bool neg,.slice A xs.length c,.int .u64 ((bits:Nat):Int),.string s,.slice B ni d]] w (aF w (.bool (PV.good ⟨0,yes,neg,xs,bits,s,ni⟩))):=by
 have _:=hx;have _:=hl;have hs0:s.toList= []→s.size=0:=zrq;refine zj func12 ntmps12 fun HF LW ak E=>?_;replace HF:=HF.and (Per.aD hx);refine zi ?_;refine zg HF LW E ak fun aO w2 HF LW E=>?_;refine jJ ?_;refine jq rfl (fun h1=>?_) (fun h1=>?_)
 ·
  exact ysv
 ·
  refine ja ?_;refine zy 24 rfl (fun h2=>?_) (fun h2=>?_)
  ·
   refine zY ?_;exact fD
  ·
   refine zv ?_;refine zy 34 rfl (fun h3=>?_) (fun h3=>?_)
   ·
    exact vmz
   ·
    refine zo ?_;refine bZ rfl (qgv rfl rfl (ye ?_));refine jq rfl (fun h4=>?_) (fun h4=>?_)
    ·
     exact ysv
    ·
     refine yN ?_;refine zy 51 rfl (fun h5=>?_) (fun h5=>?_)
     ·
      refine zp ?_;refine zy 58 rfl (fun h6=>?_) (fun h6=>?_)
      ·
       replace h6:=eq_of_beq h6;refine lH ?_;exact ysv
      ·
       replace h6:=beq_eq_false_iff_ne.1 h6;exact UU
     ·
      refine yN ?_;exact fD
theorem rg1:Calls prog 12 #[.agg #[.int .i64 1,.bool yes,.bool neg,.slice A xs.length c,.int .u64 ((bits:Nat):Int),.string s,.slice B ni d]] w (aF w (.bool (PV.good ⟨1,yes,neg,xs,bits,s,ni⟩))):=by
 have _:=hx;have _:=hl;have hs0:s.toList= []→s.size=0:=zrq;refine zj func12 ntmps12 fun HF LW ak E=>?_;replace HF:=HF.and (Per.aD hx);refine zi ?_;refine zg HF LW E ak fun aO w2 HF LW E=>?_;refine jJ ?_;refine jq rfl (fun h1=>?_) (fun h1=>?_)
 ·
  exact ysv
 ·
  refine Qc ?_;refine zy 34 rfl (fun h2=>?_) (fun h2=>?_)
  ·
   exact vmz
  ·
   refine zo ?_;exact aq9
theorem rg2:Calls prog 12 #[.agg #[.int .i64 2,.bool yes,.bool neg,.slice A xs.length c,.int .u64 ((bits:Nat):Int),.string s,.slice B ni d]] w (aF w (.bool (PV.good ⟨2,yes,neg,xs,bits,s,ni⟩))):=by
 have _:=hx;have _:=hl;have hs0:s.toList= []→s.size=0:=zrq;refine zj func12 ntmps12 fun HF LW ak E=>?_;replace HF:=HF.and (Per.aD hx);refine zi ?_;refine zg HF LW E ak fun aO w2 HF LW E=>?_;refine jJ ?_;refine jq rfl (fun h1=>?_) (fun h1=>?_)
 ·
  exact ysv
 ·
  refine ja ?_;refine zy 24 rfl (fun h2=>?_) (fun h2=>?_)
  ·
   refine zY ?_;exact fD
  ·
   refine zv ?_;refine zy 34 rfl (fun h3=>?_) (fun h3=>?_)
   ·
    exact vmz
   ·
    refine zo ?_;refine bZ rfl (qgv rfl rfl (ye ?_));refine jq rfl (fun h4=>?_) (fun h4=>?_)
    ·
     exact ysv
    ·
     refine nW ?_;refine lI ?_;refine zb aw8 (vhk neg c _ A xs hl (HF.on E).here.1.2) E fun w3 E=>(zn ?_);exact fD
theorem rg3:Calls prog 12 #[.agg #[.int .i64 3,.bool yes,.bool neg,.slice A xs.length c,.int .u64 ((bits:Nat):Int),.string s,.slice B ni d]] w (aF w (.bool (PV.good ⟨3,yes,neg,xs,bits,s,ni⟩))):=by
 have _:=hx;have _:=hl;have hs0:s.toList= []→s.size=0:=zrq;refine zj func12 ntmps12 fun HF LW ak E=>?_;replace HF:=HF.and (Per.aD hx);refine zi ?_;refine zg HF LW E ak fun aO w2 HF LW E=>?_;refine jJ ?_;refine jq rfl (fun h1=>?_) (fun h1=>?_)
 ·
  exact ysv
 ·
  refine ja ?_;refine zy 24 rfl (fun h2=>?_) (fun h2=>?_)
  ·
   refine zY ?_;exact fD
  ·
   refine nW ?_;exact aq9
theorem rg4:Calls prog 12 #[.agg #[.int .i64 4,.bool yes,.bool neg,.slice A xs.length c,.int .u64 ((bits:Nat):Int),.string s,.slice B ni d]] w (aF w (.bool (PV.good ⟨4,yes,neg,xs,bits,s,ni⟩))):=by
 have _:=hx;have _:=hl;have hs0:s.toList= []→s.size=0:=zrq;refine zj func12 ntmps12 fun HF LW ak E=>?_;replace HF:=HF.and (Per.aD hx);refine zi ?_;refine zg HF LW E ak fun aO w2 HF LW E=>?_;refine jJ ?_;refine jq rfl (fun h1=>?_) (fun h1=>?_)
 ·
  exact ysv
 ·
  refine ja ?_;refine zy 24 rfl (fun h2=>?_) (fun h2=>?_)
  ·
   refine zY ?_;exact fD
  ·
   refine zv ?_;refine zy 34 rfl (fun h3=>?_) (fun h3=>?_)
   ·
    exact vmz
   ·
    refine zY ?_;exact aqz
theorem rgx (hk:k<0∨4<k):Calls prog 12 #[.agg #[.int .i64 k,.bool yes,.bool neg,.slice A xs.length c,.int .u64 ((bits:Nat):Int),.string s,.slice B ni d]] w (aF w (.bool (PV.good ⟨k,yes,neg,xs,bits,s,ni⟩))):=by
 have _:=hx;have _:=hl;have e:PV.good ⟨k,yes,neg,xs,bits,s,ni⟩=false:=by unfold PV.good;simp only[];rw[if_neg om,if_neg om,if_neg om,if_neg om,if_neg om,Bool.and_false]
 rw[e];refine zj func12 ntmps12 fun HF LW ak E=>?_;refine zi ?_;refine zg HF LW E ak fun aO w2 HF LW E=>?_;refine zv ?_;by_cases q0:k<0
 ·
  refine vf 6 rfl (by rw[decide_eq_true q0]<;>rfl) (qN ?_);exact xq
 ·
  refine yu 6 rfl (by rw[decide_eq_false q0]<;>rfl) (zn ?_);refine vf 11 rfl (by rw[decide_eq_true om]<;>rfl) (nW ?_);exact xq
theorem Ih:Calls prog 12 #[.agg #[.int .i64 k,.bool yes,.bool neg,.slice A xs.length c,.int .u64 ((bits:Nat):Int),.string s,.slice B ni d]] w (aF w (.bool (PV.good ⟨k,yes,neg,xs,bits,s,ni⟩))):=by
 by_cases hk:k<0∨4<k
 · exact rgx w k yes neg A B xs c bits ni d s hx hl hk
 · obtain rfl | rfl | rfl | rfl | rfl:k=0∨k=1∨k=2∨k=3∨k=4:=om
   · exact rg0 w yes neg A B xs c bits ni d s hx hl
   · exact rg1 w yes neg A B xs c bits ni d s hx hl
   · exact rg2 w yes neg A B xs c bits ni d s hx hl
   · exact rg3 w yes neg A B xs c bits ni d s hx hl
   · exact rg4 w yes neg A B xs c bits ni d s hx hl
end
theorem Cx {P Q:Prop} (k:Q) (h:(Unit→Q)→P:=by
 intro zK;refine zr ?_;refine ks (rs:=[.cell 2 28]) (vs:=[_]) rfl ⟨⟨_,rfl,ypq u28 rfl qj B2e rfl⟩,trivial⟩ ?_;exact zK ()):P:=h fun _=>k
theorem zkk {P Q:Prop} (k:Q) (h:(Unit→Q)→P:=by
 intro zK;refine za rfl (kt ko ?_);exact zK ()):P:=h fun _=>k
theorem N9 {b:Nat} (hb:b<18446744073709551616):qu (qg (qu (qg b)))=qu b:=by
 have e1:aW (qg b)=aW b:=zhv hb;have hb2:=(zdk hb).2.2;by_cases h:aW b=true
 · have e2:aW (qg 9221120237041090560)=true:=by rw[zhv de];decide
   unfold qu;rw[if_pos (e1.trans h),if_pos e2,if_pos h]
 · have h2:¬aW (qg b)=true:=by rw[e1];exact h
   have h3:¬aW (qg (qg b))=true:=by rw[zhv hb2];exact h2
   unfold qu;rw[if_neg h2,if_neg h3,if_neg h];unfold qg;rw[Nat.xor_assoc,Nat.xor_self,Nat.xor_zero]
theorem zhq (w:World) (b:Nat) (hb:b<18446744073709551616):Calls prog 27 #[.int .u64 ((b:Nat):Int)] w (aF w (.agg #[.int .i64 3,.bool false,.bool false,.slice none 0 0,.int .u64 ((qu b:Nat):Int),.string ⟨#[]⟩,.slice none 0 0])):=by
 refine zd func27 rfl ntmps27 rfl (zi ?_);refine zkk ?_;rintro g2 wB B2 E2 G2;refine zo ?_;refine za rfl (ze FY rfl ((zoq _ b hb).mono ?_));rintro e w1 ⟨rfl,hb⟩;refine ⟨_,rfl,?_⟩;have E3:=E2.trans (Ext.of_below hb No);have B3:=B2.ext (Ext.of_below hb No) (fun h=>h.elim);by_cases hn:aW b=true
 ·
  refine vf 4 rfl (by rw[hn]<;>rfl) (zv ?_);refine za rfl (qz (cs:=#[.int .i64 3,.bool false,.bool false,.slice none 0 0,.int .u64 9221120237041090560,.string ⟨#[]⟩,.slice none 0 0]) nU ko rfl rfl (yj (qx qj rfl rfl B3 rfl rfl rfl ?_)));rintro wC B2e E4;refine Cx ?_;exact ⟨by unfold qu;rw[if_pos hn];rfl,((E3.noL w.heap.size).step E4 (fun q hq=>Or.inl (show w.heap.size≤q by have:=oO hq;omega))).below (fun _ h=>h)⟩
 ·
  have hn':aW b=false:=by cases h9:aW b<;>simp_all
  refine yu 4 rfl (by rw[hn']<;>rfl) (yk ?_);refine za rfl (qz (cs:=#[.int .i64 3,.bool false,.bool false,.slice none 0 0,.int .u64 ((b:Nat):Int),.string ⟨#[]⟩,.slice none 0 0]) nU ko rfl rfl (yj (qx qj rfl rfl B3 rfl rfl rfl ?_)));rintro wC B2e E4;refine Cx ?_;exact ⟨by unfold qu;rw[if_neg hn];rfl,((E3.noL w.heap.size).step E4 (fun q hq=>Or.inl (show w.heap.size≤q by have:=oO hq;omega))).below (fun _ h=>h)⟩
theorem lM {P Q:Prop} (k:Q) (h:(Unit→Q)→P:=by
 intro zK;refine yu 20 rfl (by rw[decide_eq_false om]<;>rfl) (zv ?_);exact zK ()):P:=h fun _=>k
theorem qsz {P Q:Prop} (k:Q) (h:(Unit→Q)→P:=by
 intro zK;refine za rfl (je (z:=0) rfl rfl kr ?_);exact zK ()):P:=h fun _=>k
theorem qsk {P Q:Prop} (k:Q) (h:(Unit→Q)→P:=by
 intro zK;refine yk ?_;refine xm ?_;refine vp ?_;refine Zk ?_;exact zK ()):P:=h fun _=>k
theorem Cy {P Q:Prop} (k:Q) (h:(Unit→Q)→P:=by
 intro zK;refine za rfl (jC (z:=((mg (nr (rg a)):Nat):Int)) u25 (by rw[gX];rfl) rfl fz (zo ?_));refine yp ?_;refine U7 ?_;exact zK ()):P:=h fun _=>k
theorem lN {P Q:Prop} (k:Q) (h:(Unit→Q)→P:=by
 intro zK;refine Tk ?_;refine zr ?_;refine zw 14 rfl (by rw[zex,qp hf]<;>rfl) (ye ?_);exact zK ()):P:=h fun _=>k
theorem yjz {P Q:Prop} (k:Q) (h:(Unit→Q)→P:=by
 intro zK;refine za rfl (xw (z:=0) rfl rfl kr ?_);exact zK ()):P:=h fun _=>k
theorem yxz {P Q:Prop} (k:Q) (h:(Unit→Q)→P:=by
 intro zK;refine za rfl (js (z:=0) rfl rfl de kr ?_);exact zK ()):P:=h fun _=>k
theorem U7 {P Q:Prop} (k:Q) (h:(Unit→Q)→P:=by
 intro zK;refine za rfl (E8 (z:=(ig (rg a)-53).tmod 31) rfl rfl de rfl (yw ?_));refine za rfl (E8 (z:=((k:Nat):Int)) rfl rfl de (by rw[t1,hk]) (zo ?_));refine za rfl (E8 (z:=((mg (nr (rg a))%2147483647:Nat):Int)) rfl rfl de (yhv _ 2147483647) (aK ?_));refine za rfl (ki rfl rfl om (Zl 1 k om) (zk 41 (.int .u64 ((2^k:Nat):Int)) rfl (by rw[Nat.one_mul,Nat.mod_eq_of_lt om]<;>rfl) ?_));exact zK ()):P:=h fun _=>k
theorem U8 {P:Prop} (h:P:=by
 refine zp ?_;exact ⟨by rw[U9,if_neg (by rw[hn];decide),h,if_pos hi];rfl,aP LW E ak⟩):P:=h
theorem ar0 {P:Prop} (h:P:=by
 refine zk 48 (.int .u64 ((vqx (rg a):Nat):Int)) rfl (by rw[zck rfl rfl,←hpr]<;>rfl) (za rfl (gf underlying3 u25 rfl (yt om) (za rfl (xw rfl rfl (yt om) (zn ?_)))));exact ⟨by rw[U9,if_neg (by rw[qp hf];decide),h,if_neg hni];rfl,aP LW E ak⟩):P:=h
theorem Ik {w w':World} (h:w=w'):Below w.heap.size w w':=by subst h;exact Below.refl _ _
theorem qzk (x y:Nat) (hx:x<18446744073709551616) (hy:y<18446744073709551616) (w:World) :
 Calls prog 114 #[.int .u64 x,.int .u64 y] w fun e w'=>e= .returned (.tuple #[.int .u64 ((x*y/18446744073709551616:Nat):Int),.int .u64 ((x*y%18446744073709551616:Nat):Int)])∧Below w.heap.size w w':=
 (qY x y hx hy w).mono fun _ _ ⟨h1,h2⟩=>⟨h1,Ik h2⟩
theorem aA3 (x:Int):(x.tmod 31+31).tmod 31=x%31∧ -31<x.tmod 31∧x.tmod 31<31:=by
 rcases Int.lt_or_le x 0 with h | h
 · obtain ⟨y,rfl⟩:∃y:Int,x= -y:=⟨-x,om⟩;have e:(-y).tmod 31= -(y%31):=by rw[Int.neg_tmod,Int.tmod_eq_emod_of_nonneg om]
   rw[e,Int.tmod_eq_emod_of_nonneg om];omega
 · rw[Int.tmod_eq_emod_of_nonneg h,Int.tmod_eq_emod_of_nonneg om];omega
def U9 (a:Nat):Int:=if aW a then 0 else (if ng a then -1 else 1)*(if rg a=9218868437227405312 then 314159 else ((vqx (rg a):Nat):Int))
theorem Il:vqx 0=0:=de
theorem Va (r:Nat):vqx r<2147483647:=Nat.mod_lt _ de
theorem Oa {r:Nat} (hr:r<9223372036854775808) (h0:r≠0):mg (nr r)%2147483647*2^((ig r-53)%31).toNat%2147483647=vqx r:=by
 obtain ⟨h1,_⟩:=ypz hr;have:=Ns (a:=r) (by rw[h1];exact h0);rw[h1] at this;rw[←this,fm,h1,Nat.mul_mod,Nat.mod_mod,←Nat.mul_mod]
theorem afq:Gives 114 #[.int .u64 0,.int .u64 512] (.tuple #[.int .u64 0,.int .u64 0]):=by
 intro w;refine zd func114 rfl ntmps114 rfl ?_;have LW:=aC (No) w;have ak:=aN (No) w;have E:=aC (No) w;refine qc ?_;refine qsq ?_;refine zo ?_;refine yxz ?_;refine zo ?_;refine za rfl (gh (z:=512) rfl rfl kr (zo ?_));refine yxz ?_;refine zp ?_;refine yjz ?_;refine zp ?_;refine yjz ?_;refine aK ?_;refine yxz ?_;refine qsz ?_;refine zo ?_;refine qsq ?_;refine zo ?_;refine yxz ?_;refine yk ?_;refine yjz ?_;refine qsz ?_;refine zp ?_;refine yjz ?_;refine aK ?_;refine qsz ?_;refine aK ?_;refine yxz ?_;refine qsz ?_;refine zp ?_;refine yjz ?_;refine ye ?_;refine ks (rs:=[.tmp 4,.tmp 5]) (vs:=[.int .u64 0,.int .u64 0]) rfl ⟨rfl,rfl,trivial⟩ ?_;exact xq
theorem afz:Gives 146 #[.int .u64 0,.int .u64 0,.int .u64 2147483647] (.tuple #[.int .u64 0,.int .u64 0]):=by
 intro w;refine zd func146 rfl ntmps146 rfl ?_;have LW:=aC (No) w;have ak:=aN (No) w;have E:=aC (No) w;refine aL2 ?_;have OY:∀q9,(aj (kf [])) q9→q9<(World.drew w).heap.size→(No) q9:=fun k h _=>(aj.none_) k h;refine yq (No) aj.none_ [] [] (xc [Fx.of (.int .u64 0),
  Fx.of (.int .u64 2147483647),
  Fx.of (.int .u64 0),
  Fx.of (.int .u64 0),
  Fx.of (.int .u64 2147483647),
  Fx.of (.int .u64 0),
  Fx.of (.int .u64 0),
  Fx.of (.int .u64 0)]) mixed rfl trivial (fun _ h=>by cases h) ?_ ?_
 · refine ⟨arm,arm,?_,arm,arm,?_,arm,arm,trivial⟩
   · refine yx ?_;intro vs X wq K;exact qpz (z:=0) rfl rfl de kr ⟨Below.refl _ _,Left.of rfl⟩
   · refine yx ?_;intro vs X wq K;exact E8 (z:=0) rfl rfl de kr ⟨Below.refl _ _,Left.of rfl⟩
 intro vs w1 LE AO AL AF AA;replace E:=E.drew.trans (LE.mono OY);obtain ⟨_,e6,k6⟩:=AL.2.2.2.2.2.2.1;obtain ⟨_,e7,k7⟩:=AL.2.2.2.2.2.2.2.1;refine vi (τ:=[(0,_),(1,_),(2,_),(6,.int .u64 0),(7,.int .u64 0)]) ⟨rfl,rfl,rfl,congrArg some e6,congrArg some e7,trivial⟩ ?_;clear AL AF AA LE AO OY e6 e7 k6 k7;refine zr ?_;refine ks (rs:=[.tmp 6,.tmp 7]) (vs:=[.int .u64 0,.int .u64 0]) rfl ⟨rfl,rfl,trivial⟩ ?_;exact xq
theorem afx:Gives 115 #[.int .u64 0,.int .u64 0,.int .u64 2147483647] (.int .u64 0):=by
 intro w;refine zd func115 rfl ntmps115 rfl ?_;have LW:=aC (No) w;have ak:=aN (No) w;have E:=aC (No) w;refine qc ?_;refine za rfl (E8 (z:=0) rfl rfl de kr (zi ?_));refine zb anz (afz _) E fun w1 E=>(kh ?_);refine ks (rs:=[.tmp 6]) (vs:=[.int .u64 0]) rfl ⟨rfl,trivial⟩ ?_;exact xq
theorem Oc (w:World) (a:Nat) (ha:a<18446744073709551616) (hf:rg a<9218868437227405312) (h0:rg a=0):Calls prog 62 #[.int .u64 ((a:Nat):Int)] w (aF w (.int .i64 (U9 a))):=by
 have hp:pc a=0:=by unfold pc;split<;>omega
 have hlt:(gk a 0==some .lt)=false:=by rw[ztk (qp hf) de,hp];decide
 have hF:U9 a=0:=by
  have e:(if rg a=9218868437227405312 then 314159 else ((vqx (rg a):Nat):Int))=0:=by rw[if_neg om,h0,Il];rfl
  rw[U9,if_neg (by rw[qp hf];decide),e,Int.mul_zero]
 have hr:rg a<18446744073709551616:=om;refine zd func62 rfl ntmps62 rfl ?_;have LW:=aC (No) w;have ak:=aN (No) w;have E:=aC (No) w;refine qsk ?_;refine zw 13 rfl (by rw[hlt]<;>rfl) (qc ?_);refine lN ?_;refine zb yM (vg _ a ha) E fun w1 E=>(lM ?_);refine zb vrx (yfv _ a ha) E fun w2 E=>(zb oQ (kP _ (rg a) hr (by rw[nX];exact h0)) E fun w3 E=>(zv ?_));refine zb vB (kQ _ (rg a) hr (by rw[nX];exact h0) 53) E fun w4 E=>(za rfl (jC (z:=0) u25 (by rw[gX];rfl) rfl (by rw[h0];decide +kernel) (zo ?_)));refine za rfl (jn (z:=(-53)) rfl rfl kr (za rfl (E8 (z:=(-22)) rfl rfl de kr (za rfl (je (z:=9) rfl rfl kr (za rfl (E8 (z:=9) rfl rfl de kr (zo ?_))))))));refine za rfl (E8 (z:=0) rfl rfl de kr (aK ?_));refine za rfl (ki (z:=512) rfl rfl de kr (zb qM (afq _) E fun w5 E=>(vp ?_)));refine zb JJ (afx _) E fun w6 E=>(za rfl (gf (z:=0) underlying3 u25 rfl kr (yjz ?_)));refine zn ?_;exact ⟨by rw[hF];rfl,aP LW E ak⟩
section
variable (w:World) (a:Nat) (ha:a<18446744073709551616)
include ha
theorem Vd (hn:aW a=true):Calls prog 62 #[.int .u64 ((a:Nat):Int)] w (aF w (.int .i64 (U9 a))):=by
 have _:=ha;refine zd func62 rfl ntmps62 rfl ?_;have LW:=aC (No) w;have ak:=aN (No) w;have E:=aC (No) w;refine qsk ?_;refine zw 13 rfl (by rw[zjq hn]<;>rfl) (qc ?_);refine Tk ?_;refine zr ?_;refine qm 14 rfl (by rw[zex,hn]<;>rfl) (zv ?_);exact ⟨by rw[U9,if_pos hn];rfl,aP LW E ak⟩
theorem Ve (hi:rg a=9218868437227405312):Calls prog 62 #[.int .u64 ((a:Nat):Int)] w (aF w (.int .i64 (U9 a))):=by
 have hn:aW a=false:=decide_eq_false om;refine zd func62 rfl ntmps62 rfl ?_;have LW:=aC (No) w;have ak:=aN (No) w;have E:=aC (No) w;refine qsk ?_;refine yr 13 (.bool (ng a)) rfl (by rw[zmz hn om]<;>rfl) (zf rfl (fun h=>?_) (fun h=>?_))
 ·
  refine zv ?_;refine Tk ?_;refine zr ?_;refine zw 14 rfl (by rw[zex,hn]<;>rfl) (ye ?_);refine zb yM (vg _ a ha) E fun w1 E=>(vf 20 rfl (by rw[decide_eq_true hi]<;>rfl) (zp ?_));refine za rfl (xw (z:=(-314159)) rfl rfl kr ?_);exact U8
 ·
  refine yk ?_;refine Tk ?_;refine zr ?_;refine zw 14 rfl (by rw[zex,hn]<;>rfl) (ye ?_);refine zb yM (vg _ a ha) E fun w2 E=>(vf 20 rfl (by rw[decide_eq_true hi]<;>rfl) (zp ?_));refine za rfl (xw (z:=314159) rfl rfl kr ?_);exact U8
section
variable (hf:rg a<9218868437227405312)
include hf
section
variable (h0:rg a≠0)
include h0
theorem Vf:Calls prog 62 #[.int .u64 ((a:Nat):Int)] w (aF w (.int .i64 (U9 a))):=by
 have hr:rg a<18446744073709551616:=om;obtain ⟨f1,f2,f3⟩:=rQ hf h0;have f0:=(ypz (r:=gG (rg a)) om).1;have f00:=(ypz (r:=gG (rg a)) om).2;obtain ⟨fq1,fq2⟩:=aq4 (r:=rg a) h0;have fq3:vl (1074*4503599627370496+mg (nr (rg a)))=vl (gG (rg a))*2^53:=by rewrite [fq1,f3];exact viq (p:=1074) (q:=1021) (s:=53) de _
 have hmg:=(qbv h0).2;have fw:=vj (ng (gG (rg a))) (1074*4503599627370496+mg (nr (rg a))) om;have fz:floatToIntVal .f64 (Ieee.double.word (ng (gG (rg a))) (1074*4503599627370496+mg (nr (rg a)))) .u64=some ((mg (nr (rg a)):Nat):Int):=by
  have h1:=ywz (ng (gG (rg a))) fq2 fq1;have h2:=ac7 (a:=Ieee.double.word (ng (gG (rg a))) (1074*4503599627370496+mg (nr (rg a)))) (by rw[fw.1];exact fq2) (by rw[fw.2.1];exact f00) (by rw[h1];omega);rw[h1] at h2;exact h2
 obtain ⟨b1,b2⟩:=ylv hf;obtain ⟨t1,t2,t3⟩:=aA3 (ig (rg a)-53);obtain ⟨k,hk⟩:∃k:Nat,(ig (rg a)-53)%31=(k:Int):=⟨((ig (rg a)-53)%31).toNat,om⟩;have hk31:k<31:=om;have hpr:=Oa (r:=rg a) (LX a) h0;have hkt:((ig (rg a)-53)%31).toNat=k:=om;rw[hkt] at hpr;have hp2:2^k≤1073741824:=(Nat.pow_le_pow_right de (show k≤30 from om):2^k≤2^30);have hprod:mg (nr (rg a))%2147483647*2^k≤2147483647*1073741824:=Nat.mul_le_mul (Nat.le_of_lt (Nat.mod_lt _ de)) hp2;have hml:=Va (rg a);have hni:¬rg a=9218868437227405312:=om;refine zd func62 rfl ntmps62 rfl ?_;have LW:=aC (No) w;have ak:=aN (No) w;have E:=aC (No) w;refine qsk ?_;refine yr 13 (.bool (ng a)) rfl (by rw[zmz (qp hf) h0]<;>rfl) (zf rfl (fun h=>?_) (fun h=>?_))
 ·
  refine zv ?_;refine lN ?_;refine zb yM (vg _ a ha) E fun w1 E=>(lM ?_);refine zb vrx (yfv _ a ha) E fun w2 E=>(zb oQ (zpk _ (rg a) hr (by rw[nX];exact h0) (by rw[nX];exact hf)) E fun w3 E=>(zv ?_));refine zb vB (zpq _ (gG (rg a)) om (by rw[f0];exact f2) (by rw[f0];exact f1) 53 (1074*4503599627370496+mg (nr (rg a))) de fq2 (by rw[f0];exact fq3)) E fun w4 E=>(Cy ?_);refine zb qM (qzk (mg (nr (rg a))%2147483647) (2^k) om om _) E fun w5 E=>(vp ?_);refine zb JJ (vix _ (mg (nr (rg a))%2147483647*2^k/18446744073709551616) (mg (nr (rg a))%2147483647*2^k%18446744073709551616) om (Nat.mod_lt _ de)) E fun w6 E=>?_;exact ar0
 ·
  refine yk ?_;refine lN ?_;refine zb yM (vg _ a ha) E fun w7 E=>(lM ?_);refine zb vrx (yfv _ a ha) E fun w8 E=>(zb oQ (zpk _ (rg a) hr (by rw[nX];exact h0) (by rw[nX];exact hf)) E fun w9 E=>(zv ?_));refine zb vB (zpq _ (gG (rg a)) om (by rw[f0];exact f2) (by rw[f0];exact f1) 53 (1074*4503599627370496+mg (nr (rg a))) de fq2 (by rw[f0];exact fq3)) E fun dI E=>(Cy ?_);refine zb qM (qzk (mg (nr (rg a))%2147483647) (2^k) om om _) E fun dV E=>(vp ?_);refine zb JJ (vix _ (mg (nr (rg a))%2147483647*2^k/18446744073709551616) (mg (nr (rg a))%2147483647*2^k%18446744073709551616) om (Nat.mod_lt _ de)) E fun dB E=>?_;exact ar0
end
end
theorem Vg:Calls prog 62 #[.int .u64 ((a:Nat):Int)] w (aF w (.int .i64 (U9 a))):=by
 cases hn:aW a with
 | true=>exact Vd w a ha hn
 | false=>
  have h1:=of_decide_eq_false hn;by_cases hi:rg a=9218868437227405312
  · exact Ve w a ha hi
  · by_cases h0:rg a=0
    · exact Oc w a ha om h0
    · exact Vf w a ha om h0
end
theorem zsz {P Q:Prop} (k:Q) (h:(Unit→Q)→P:=by
 intro zK;refine za rfl (uD rfl (yt om) ?_);exact zK ()):P:=h fun _=>k
theorem Cz {j:Int} (h0:j≠0):0<(limbs j).length:=by rw[qo];exact RL qk om
theorem Od {b:Nat} (L:List Nat) (j:Nat) (h:j<L.length):val b (L.drop j)=L.getD j 0+b*val b (L.drop (j+1)):=by
 rw[List.drop_eq_getElem_cons h,val,List.getD_eq_getElem?_getD,List.getElem?_eq_getElem h,Option.getD_some]
def Oe (b:Nat) (L:List Nat) (k:Nat):Nat:=val b (L.drop (L.length-k))%2147483647
theorem Vh (b:Nat) (L:List Nat):Oe b L 0=0:=by rw[Oe,Nat.sub_zero,List.drop_length];rfl
theorem aA4 (b:Nat) (L:List Nat) (k:Nat):Oe b L k<2147483647:=Nat.mod_lt _ de
theorem Vi {b:Nat} {L:List Nat} {k:Nat} (h:k<L.length):Oe b L (k+1)=(Oe b L k*b+L.getD (L.length-1-k) 0)%2147483647:=by
 have key:∀V l:Nat,(V%2147483647*b+l)%2147483647=(V*b+l)%2147483647:=fun V l=>by rw[←Nat.mod_add_mod,Nat.mod_mul_mod,Nat.mod_add_mod]
 unfold Oe;rw[Od L (L.length-(k+1)) om,show L.length-(k+1)+1=L.length-k from om,show L.length-(k+1)=L.length-1-k from om,Nat.add_comm,Nat.mul_comm b];exact (key _ _).symm
theorem Og (i:Int):Oe av (limbs i) (limbs i).length=i.natAbs%2147483647:=by rw[Oe,Nat.sub_self,List.drop_zero,qo,kx qk]
def rY (i:Int):Int:=if i<0 then 0-((i.natAbs%2147483647:Nat):Int) else ((i.natAbs%2147483647:Nat):Int)
theorem Vj:gW prog 116 add64Entry:=⟨_,func116,kr,kr,kr,kr⟩
theorem Im (x y:Nat) (w:World):(add64Entry #[.int .u64 ((x:Nat):Int),.int .u64 ((y:Nat):Int),.int .u64 0]).run prog w =
 .ok (.tuple #[.int .u64 (((x+y)%18446744073709551616:Nat):Int),.int .u64 (((x+y)/18446744073709551616:Nat):Int)]) w:=by
 rw[run_add64 _ _ 0 om om om om,Int.add_zero,←Int.natCast_add];rfl
theorem Io {h l hi lo c s:Nat} (h1:hi*18446744073709551616+lo=h*av) (h2:c*18446744073709551616+s=lo+l):((hi+c)*18446744073709551616+s)%2147483647=(h*av+l)%2147483647:=by
 have e:(hi+c)*18446744073709551616+s=h*av+l:=by rw[Nat.add_mul,Nat.add_assoc,h2,←Nat.add_assoc,h1]
 rw[e]
section
variable (i:Int) (A:Option Addr) (c:Nat) (w:World) (hi:i.natAbs<av^30) (hx:aA w A (limbs i))
include hi hx
theorem xA (h0:i=0):Calls prog 63 #[.agg #[.bool (decide (i<0)),.slice A (limbs i).length c]] w (aF w (.int .i64 (rY i))):=by
 have hl:((limbs i).length:Int)=0:=by rw[h0,qt];rfl
 refine zj func63 ntmps63 fun HF LW ak E=>?_;replace HF:=HF.and (Per.aD hx);refine zi ?_;refine zg HF LW E ak fun aO w2 HF LW E=>?_;refine zp ?_;refine zb oP (E9 A c _ hi (HF.on E).here.1.2) E fun w3 E=>(ou ?_);refine yp ?_;refine ye ?_;refine ZN (zp ?_);refine zw 16 rfl (by rw[hl];rfl) (ja ?_);refine zw 40 rfl (by rw[h0];rfl) (zo ?_);refine za rfl (gf (z:=0) underlying3 u25 rfl kr (zn ?_));exact ⟨by rw[h0];rfl,aP LW E ak⟩
theorem CB (h0:i≠0):Calls prog 63 #[.agg #[.bool (decide (i<0)),.slice A (limbs i).length c]] w (aF w (.int .i64 (rY i))):=by
 have hl2:=zt hi;obtain ⟨bx,ox,rfl,hbx,hcx⟩:=hx.2 (Cz h0);have hsm:=ztq i;refine zj func63 ntmps63 fun HF LW ak E=>?_;replace HF:=HF.and (Per.aD hx);refine zi ?_;refine zg HF LW E ak fun aO w2 HF LW E=>?_;refine zp ?_;refine zb oP (E9 (some ⟨bx,ox,none⟩) c _ hi (HF.on E).here.1.2) E fun w3 E=>(ou ?_);refine yp ?_;refine ye ?_;replace HF:=HF.on E;replace LW:=LW.step E ak;replace E:=aC (No) w3;refine qw (ι:=Nat) (fun k=>[(1,.pointer (some ⟨aO,0,none⟩)),(3,.int .u64 ((Oe av (limbs i) k:Nat):Int)),(4,.int .i64 (((limbs i).length:Int)-1-((k:Nat):Int)))]) (fun k w'=>Ext (No) w3 w'∧(k≤(limbs i).length)) (fun k=>(limbs i).length-k) 0 ⟨rfl,congrArg (fun z:Nat=>some (Value.int .u64 (z:Int))) (Vh _ _).symm,congrArg (fun z:Int=>some (Value.int .i64 z)) om,trivial⟩ ⟨Ext.refl _ _,Nat.zero_le _⟩ ?_;rintro k w5 ⟨M4,hk⟩;have XM4:=aN (No) w3;replace E:=E.trans M4;replace HF:=HF.on E;replace LW:=LW.step E ak;replace E:=aC (No) w5;refine zp ?_;refine yr 16 (.bool (decide (k<(limbs i).length))) rfl (gr om) ?_;have hup:=aA4 av (limbs i) k;refine zf rfl (fun hl=>?_) (fun hl=>?_)
 ·
  have hl:=of_decide_eq_true hl;obtain ⟨h,hh⟩:∃h,h=Oe av (limbs i) k:=⟨_,rfl⟩;obtain ⟨l,hll⟩:∃l,l=(limbs i).getD ((limbs i).length-1-k) 0:=⟨_,rfl⟩;have hlb:l<1000000000000000000:=by rw[hll];exact qnk de hsm _
  have hnx:Oe av (limbs i) (k+1)=(h*av+l)%2147483647:=by rw[Vi hl,←hh,←hll]
  rw[←hh] at hup;refine yr 3 (.int .u64 ((h:Nat):Int)) rfl (by rw[hh]<;>rfl) ?_;obtain ⟨p,hp⟩:∃p,p=h*1000000000000000000/18446744073709551616:=⟨_,rfl⟩;obtain ⟨q,hq⟩:∃q,q=h*1000000000000000000%18446744073709551616:=⟨_,rfl⟩;have hpq:p*18446744073709551616+q=h*av:=zck hp hq;have hpb:p<2147483647:=by rw[hp];exact Nat.div_lt_of_lt_mul (Nat.lt_of_lt_of_le (Nat.mul_lt_mul_of_pos_right hup de) de)
  have hqb:q<18446744073709551616:=zjx de hq;obtain ⟨t,ht⟩:∃t,t=(q+l)/18446744073709551616:=⟨_,rfl⟩;obtain ⟨s,hs⟩:∃s,s=(q+l)%18446744073709551616:=⟨_,rfl⟩;have hts:t*18446744073709551616+s=q+l:=zck ht hs;have hsb:s<18446744073709551616:=zjx de hs;have htb:t<2:=by rw[ht];exact Nat.div_lt_of_lt_mul om
  refine zp ?_;refine zb qM (qzk h 1000000000000000000 om de _) E fun w6 E=>(zk 21 (.tuple #[.int .u64 ((p:Nat):Int),.int .u64 ((q:Nat):Int)]) rfl (by rw[hp,hq]<;>rfl) (ja ?_));refine za rfl (jk (j:=(limbs i).length-1-k) u22 zP rfl rfl om om ?_);obtain ⟨b9,o9,hA9,_,hc9⟩:=((HF.on E).here.1.2).2 (Cz h0);obtain ⟨rfl,rfl⟩:b9=bx∧o9=ox:=by simpa using hA9.symm
  refine za rfl (jo u25 rfl rfl (hc9 ((limbs i).length-1-k) om) (zk 30 (.int .u64 ((l:Nat):Int)) rfl (by rw[adj,hll]<;>rfl) (za rfl (vjk (args:=[.int .u64 ((q:Nat):Int),.int .u64 ((l:Nat):Int),.int .u64 0]) Vj rfl (Im q l _) (zk 31 (.tuple #[.int .u64 ((s:Nat):Int),.int .u64 ((t:Nat):Int)]) rfl (by rw[hs,ht]<;>rfl) (zv ?_))))));refine TW ?_;refine aK ?_;refine zk 36 (.int .u64 ((p+t:Nat):Int)) rfl (by rw[Int.natCast_add]<;>rfl) (zb JJ (vix _ (p+t) s om hsb) E fun w7 E=>(zk 38 (.int .u64 ((Oe av (limbs i) (k+1):Nat):Int)) rfl (by rw[Io hpq hts,←hnx]<;>rfl) (zo ?_)));refine yp ?_;refine zi ?_;exact zx (k+1) om ⟨rfl,rfl,congrArg (fun z:Int=>some (Value.int .i64 z)) om,trivial⟩ ⟨M4.step E XM4,om⟩
 ·
  have hl:=of_decide_eq_false hl;have hke:k=(limbs i).length:=om;have hend:Oe av (limbs i) k=i.natAbs%2147483647:=by rw[hke,Og]
  refine yr 3 (.int .u64 ((i.natAbs%2147483647:Nat):Int)) rfl (by rw[hend]<;>rfl) (vp ?_);refine zf rfl (fun hn=>?_) (fun hn=>?_)
  ·
   refine zr ?_;refine yxk ?_;refine zsz ?_;refine zo ?_;exact ⟨by rw[rY,if_pos (of_decide_eq_true hn)];rfl,aP LW E ak⟩
  ·
   refine zn ?_;refine yxk ?_;refine zn ?_;exact ⟨by rw[rY,if_neg (of_decide_eq_false hn)];rfl,aP LW E ak⟩
theorem Vk:Calls prog 63 #[.agg #[.bool (decide (i<0)),.slice A (limbs i).length c]] w (aF w (.int .i64 (rY i))):=by
 by_cases h0:i=0
 · exact xA i A c w hi hx h0
 · exact CB i A c w hi hx h0
end
section
variable (n1:Bool) (A:Option Addr) (c:Nat) (xs:List Nat) (w:World) (hx:aA w A xs) (hl:xs.length≤9223372036854775807) (hg:zm n1 xs=false)
include hx hl hg
theorem CF:Calls prog 63 #[.agg #[.bool n1,.slice A xs.length c]] w (aF w (.int .i64 0)):=by
 refine zj func63 ntmps63 fun HF LW ak E=>?_;replace HF:=HF.and (Per.aD hx);refine zi ?_;refine zg HF LW E ak fun aO w2 HF LW E=>?_;refine zp ?_;refine zb oP (yf n1 c _ A xs hl (HF.on E).here.1.2) E fun w3 E=>(yu 9 rfl (by rw[hg]<;>rfl) (vp ?_));exact xq
end
noncomputable def KG (n1:Bool) (xs:List Nat):Int:=if zm n1 xs then rY (num n1 xs) else 0
section
variable (n1:Bool) (A:Option Addr) (c:Nat) (xs:List Nat) (w:World) (hx:aA w A xs) (hl:xs.length≤9223372036854775807)
include hx hl
theorem CG:Calls prog 63 #[.agg #[.bool n1,.slice A xs.length c]] w (aF w (.int .i64 (KG n1 xs))):=by
 cases hg:zm n1 xs with
 | false=>
  rw[KG,if_neg (by rw[hg];decide)];exact CF n1 A c xs w hx hl hg
 | true=>
  rw[KG,if_pos hg];obtain ⟨i,rfl,rfl,hi⟩:=vaz hg;rw[jr];exact Vk i A c w hi hx
end
theorem ar3 {P:Prop} (h:P:=by
 have LW:=aC (No) w;have ak:=aN (No) w;have E:=aC (No) w;refine yv ?_;refine zf rfl (fun h=>?_) (fun h=>?_)
 ·
  refine yk ?_;exact ⟨by rw[h];rfl,aP LW E ak⟩
 ·
  refine qc ?_;exact ⟨by rw[h];rfl,aP LW E ak⟩):P:=h
theorem N8 {P:Prop} (h:P:=by
 rintro e w2 ⟨rfl,hb⟩;exact ⟨_,rfl,hb,Left.of rfl⟩):P:=h
def Zn (j:Nat):Nat:=(Go.Pinned.pow10Rows.getD j (0,0)).1
def Zo (j:Nat):Nat:=(Go.Pinned.pow10Rows.getD j (0,0)).2
theorem ag5:Go.Pinned.pow10Rows.all (fun x=>Nat.blt x.1 18446744073709551616&&Nat.blt x.2 18446744073709551616)=true:=kr
theorem Iq:Go.Pinned.pow10Rows.length=696:=kr
theorem xB {j:Nat} (hj:j<696):Go.Pinned.pow10Rows[j]? =some (Zn j,Zo j)∧Zn j<18446744073709551616∧Zo j<18446744073709551616:=by
 have hl:j<Go.Pinned.pow10Rows.length:=by rw[Iq];exact hj
 have h:=List.all_eq_true.1 ag5 _ (List.getElem_mem hl);rw[Bool.and_eq_true] at h;have e:Go.Pinned.pow10Rows[j]? =some Go.Pinned.pow10Rows[j]:=List.getElem?_eq_getElem hl;have e1:Go.Pinned.pow10Rows.getD j (0,0)=Go.Pinned.pow10Rows[j]:=by rw[List.getD_eq_getElem?_getD,e];rfl
 unfold Zn Zo;rw[e1,e];exact ⟨rfl,Nat.le_of_ble_eq_true h.1,Nat.le_of_ble_eq_true h.2⟩
def xC (w:World):Prop:=∀j,j<696→w.cell? ⟨13,j*2,none⟩=some (.int .u64 ((Zn j:Nat):Int))∧w.cell? ⟨13,j*2+1,none⟩=some (.int .u64 ((Zo j:Nat):Int))
theorem xC.lt {w:World} (h:xC w):13<w.heap.size:=World.block_lt_of_cell? w _ (h 0 de).1
theorem Per.aA7 {X:Nat→Prop} {w:World} (h:xC w) (hx:¬X 13):Per X w xC:=fun b hb j hj=>
 ⟨(hb.cell (p:=⟨13,j*2,none⟩) h.lt hx).trans (h j hj).1,(hb.cell (p:=⟨13,j*2+1,none⟩) h.lt hx).trans (h j hj).2⟩
section
variable (w:World)
theorem xD (eG:Nat) (c0 c1 c2:Value) (e lp:Int) (j:Nat) (hj:j<696) (hB:aB w eG 257 #[c0,c1,c2]) (hT:xC w) (hne:eG≠13) (he:-10000≤e∧e≤10000) (hlp:-10000≤lp∧lp≤10000) :
 Calls prog 253 #[.pointer (some ⟨eG,0,none⟩),.int .i64 e,.int .i64 (((j:Nat):Int)-348),.int .i64 lp] w fun en w'=>en= .returned (.tuple #[])∧aB w' eG 257 #[.int .u64 ((Zn j:Nat):Int),.int .u64 ((Zo j:Nat):Int),.int .i64 (0-(e+lp+3))]∧Ext (aj [some eG]) w w':=by
 refine zd func253 rfl ntmps253 rfl ?_;have xE:=hB;have HF:Per (aj [(some eG)]) w (fun _=>True):=Per.yZ;have LW:=aC (aj [(some eG)]) w;have ak:=aN (aj [(some eG)]) w;have E:=aC (aj [(some eG)]) w;obtain ⟨HF,LW,E⟩:=dG HF LW E ak (Per.aA7 hT (fun h=>h.elim (fun e=>hne (Option.some.inj e).symm) (fun e=>e.elim)));refine ye ?_;refine yp ?_;refine za rfl (zqk (j:=j) underlying277 amq rfl rfl om hj (aK ?_));refine za rfl (jo u25 rfl rfl (by rw[Nat.zero_add];exact ((HF.on E).here.2 j hj).1) (zi ?_));refine yj (qy zP rfl rfl xE rfl rfl (Nat.le_of_ble_eq_true rfl) ?_);intro w1 Bx CS;replace xE:=Bx;replace E:=E.step1 CS aj.head;clear CS;refine zo ?_;refine yp ?_;refine za rfl (zqk (j:=j) underlying277 amq rfl rfl om hj (aK ?_));refine za rfl (jo u25 rfl rfl (by rw[Nat.zero_add];exact ((HF.on E).here.2 j hj).2) (zi ?_));refine yj (qy zP rfl rfl xE rfl rfl (Nat.le_of_ble_eq_true rfl) ?_);intro w2 Bx CS;replace xE:=Bx;replace E:=E.step1 CS aj.head;clear CS;refine zo ?_;refine yw ?_;refine yw ?_;refine zsz ?_;refine zi ?_;refine yj (qy JI rfl rfl xE rfl rfl (Nat.le_of_ble_eq_true rfl) ?_);intro w3 Bx CS;replace xE:=Bx;replace E:=E.step1 CS aj.head;clear CS;obtain ⟨HF,LW,ak,E⟩:=d9 HF LW E ak (Y:=No) (aj.skip aj.bI) (Per.bH xE au.nil);clear xE;refine aK ?_;refine ZJ rfl ?_;exact ⟨rfl,by first | exact (HF.on E).here.2 | exact xE,(LW.step E ak)⟩
end
theorem Vt {M x y:Nat} (hM:0<M) (hy:y≤M):((x:Int)-(y:Int))%(M:Int)=(((x+M-y)%M:Nat):Int):=by
 refine voz (Nat.mod_lt _ hM) ?_;rw[Nat.mod_add_mod,Nat.sub_add_cancel om,Nat.add_mod_right]
theorem CU {x y:Nat} (hy:y≤18446744073709551616):IntKind.u64.wrap (((x:Nat):Int)-((y:Nat):Int))=(((x+18446744073709551616-y)%18446744073709551616:Nat):Int):=by
 rw[IntKind.wrap_u64];exact Vt de hy
theorem aA8 {s:Nat} (h:s<64):IntKind.i64.wrap (BitVec.ofInt IntKind.i64.bits ((s:Nat):Int) &&& BitVec.ofInt IntKind.i64.bits 63).toNat=((s:Nat):Int):=by
 have key:∀s:Fin 64,IntKind.i64.wrap (BitVec.ofInt IntKind.i64.bits (s.val:Int) &&& BitVec.ofInt IntKind.i64.bits 63).toNat=(s.val:Int):=by decide +kernel
 exact key ⟨s,h⟩
theorem ag6 (m n:Nat):(((m:Nat):Int) !=((n:Nat):Int))=decide (m≠n):=by
 by_cases h:m=n
 · subst h;simp
 · rw[decide_eq_true h];exact bne_iff_ne.2 om
def Qj (b:Bool):Nat:=if b then 1 else 0
theorem xG (b:Bool):Qj b≤1:=by cases b<;>decide
section
variable (w:World)
theorem Ir (b:Bool):Calls prog 224 #[.bool b] w (aF w (.int .u64 ((Qj b:Nat):Int))):=by
 refine zd func224 rfl ntmps224 rfl ?_;exact ar3
theorem aA9 (b:Bool):Calls prog 229 #[.bool b] w (aF w (.int .i64 ((Qj b:Nat):Int))):=by
 refine zd func229 rfl ntmps229 rfl ?_;exact ar3
def Fh (x hi:Nat):Nat:=x*hi/18446744073709551616
def CV (x hi:Nat):Nat:=x*hi%18446744073709551616
def pO (x hi lo:Nat):Nat:=(Fh x hi+18446744073709551616-Qj (decide (CV x hi<Fh x lo)))%18446744073709551616
def CX (x hi lo:Nat):Nat:=(CV x hi+18446744073709551616-Fh x lo)%18446744073709551616
def Oo (x hi lo s:Nat):Nat:=
 if Fh x hi/2^s*2^s%18446744073709551616≠Fh x hi then Fh x hi/2^s ||| 1
 else pO x hi lo/2^s ||| Qj (decide (1<CX x hi lo))
theorem Iu {x hi:Nat} (hx:x<18446744073709551616) (hh:hi<18446744073709551616):Fh x hi<18446744073709551616:=
 Nat.div_lt_of_lt_mul (Nat.lt_of_le_of_lt (Nat.mul_le_mul_left x (Nat.le_of_lt hh)) (Nat.mul_lt_mul_of_pos_right hx de))
theorem Iw (gp x hi lo s:Nat) (hx:x<18446744073709551616) (hh:hi<18446744073709551616) (hl:lo<18446744073709551616) (hs:s<64) (hB:aB w gp 257 #[.int .u64 ((hi:Nat):Int),.int .u64 ((lo:Nat):Int),.int .i64 ((s:Nat):Int)]) :
 Calls prog 254 #[.int .u64 ((x:Nat):Int),.pointer (some ⟨gp,0,none⟩)] w (aF w (.int .u64 ((Oo x hi lo s:Nat):Int))):=by
 have h1:=Iu hx hh;have h2:=Iu hx hl;have h3:CV x hi<18446744073709551616:=Nat.mod_lt _ de;have h4:pO x hi lo<18446744073709551616:=Nat.mod_lt _ de;have hd:∀m,m/2^s≤m:=fun m=>Nat.div_le_self _ _;refine zj func254 ntmps254 fun HF LW ak E=>?_;replace HF:=HF.and (Per.blk hB (fun h=>h.elim));refine vp ?_;refine zb qM (qzk x hi hx hh _) E fun w1 E=>(zk 16 (.tuple #[.int .u64 ((Fh x hi:Nat):Int),.int .u64 ((CV x hi:Nat):Int)]) rfl (by rw[Fh,CV]<;>rfl) (ja ?_));refine za rfl (gh rfl rfl (aA8 hs) (yk ?_));refine za rfl (js rfl rfl om (xv _ s hs) (aK ?_));refine za rfl (ki rfl rfl om (Zl _ s hs) (ye ?_));refine yr 30 (.bool (decide (Fh x hi/2^s*2^s%18446744073709551616≠Fh x hi))) rfl (by rw[ag6]<;>rfl) (zf rfl (fun hc=>?_) (fun hc=>?_))
 ·
  have hc:=of_decide_eq_true hc;refine ye ?_;refine za rfl (js rfl rfl om (xv _ s hs) (za rfl (oJ rfl rfl (xb (n:=1) (Nat.lt_of_le_of_lt (hd _) h1) de) (zo ?_))));exact ⟨by rw[Oo,if_pos hc];rfl,aP LW E ak⟩
 ·
  have hc:=of_decide_eq_false hc;refine qc ?_;refine zb qM (qzk x lo hx hl _) E fun w2 E=>(zk 41 (.tuple #[.int .u64 ((Fh x lo:Nat):Int),.int .u64 ((x*lo%18446744073709551616:Nat):Int)]) rfl (by rw[Fh]<;>rfl) (ja ?_));refine zk 47 (.bool (decide (CV x hi<Fh x lo))) rfl (gr om) (zb Rv (Ir _ (decide (CV x hi<Fh x lo))) E fun w3 E=>(za rfl (jn rfl rfl (CU (Nat.le_trans (xG _) de)) (zk 49 (.int .u64 ((pO x hi lo:Nat):Int)) rfl (by rw[pO]<;>rfl) (ye ?_)))));have OY:∀q9,(aj (kf [])) q9→q9<(World.drew w3).heap.size→(No) q9:=fun k h _=>(aj.none_) k h;refine yq (No) aj.none_ [] [] (xc [Fx.of (.int .u64 ((pO x hi lo:Nat):Int)),
   Fx.of (.int .i64 ((s:Nat):Int)),
   Fx.of (.int .u64 ((pO x hi lo/2^s:Nat):Int)),
   Fx.of (.int .u64 ((CV x hi:Nat):Int)),
   Fx.of (.int .u64 ((Fh x lo:Nat):Int)),
   Fx.of (.int .u64 ((CX x hi lo:Nat):Int)),
   Fx.of (.bool (decide (1<CX x hi lo))),
   Fx.of (.int .u64 ((Qj (decide (1<CX x hi lo)):Nat):Int)),
   Fx.of (.int .u64 ((pO x hi lo/2^s ||| Qj (decide (1<CX x hi lo)):Nat):Int)),
   Fx.of (.int .u64 ((pO x hi lo/2^s ||| Qj (decide (1<CX x hi lo)):Nat):Int))]) mixed rfl trivial (fun _ h=>by cases h) ?_ ?_
  · refine ⟨arm,arm,?_,arm,arm,?_,?_,?_,?_,arm,trivial⟩
    · refine yx ?_;intro vs X wq K;exact js rfl rfl om (xv _ s hs) ⟨Below.refl _ _,Left.of rfl⟩
    · refine yx ?_;intro vs X wq K;exact jn rfl rfl (CU (Nat.le_of_lt h2)) ⟨Below.refl _ _,Left.of rfl⟩
    · refine yx ?_;intro vs X wq K;exact uE rfl rfl ⟨Below.refl _ _,Left.of (gr om)⟩
    · refine yx ?_;intro vs X wq K;refine ze Rv rfl ((Ir _ (decide (1<CX x hi lo))).mono ?_);exact N8
    · refine yx ?_;intro vs X wq K;exact oJ rfl rfl (xb (Nat.lt_of_le_of_lt (hd _) h4) (Nat.lt_of_le_of_lt (xG _) de)) ⟨Below.refl _ _,Left.of rfl⟩
  intro vs w4 LE AO AL AF AA;replace E:=E.drew.trans (LE.mono OY);obtain ⟨_,e9,k9⟩:=AL.2.2.2.2.2.2.2.2.2.1;refine vi (τ:=[(4,.int .u64 ((pO x hi lo/2^s ||| Qj (decide (1<CX x hi lo)):Nat):Int))]) ⟨congrArg some e9,trivial⟩ ?_;clear AL AF AA LE AO OY e9 k9;refine zr ?_;exact ⟨by rw[Oo,if_neg hc];rfl,aP LW E ak⟩
end
theorem qtv {P Q:Prop} (k:Q) (h:(Unit→Q)→P:=by
 intro zK;refine za rfl (gf underlying3 u5 rfl (yt om) (yw ?_));exact zK ()):P:=h fun _=>k
theorem jl {P Q:Prop} (k:Q) (h:(Unit→Q)→P:=by
 intro zK;refine zn ?_;refine yw ?_;refine zi ?_;exact zK ()):P:=h fun _=>k
def gL (x:Nat):Nat:=if x=0 then 0 else x.log2+1
theorem xH {x k:Nat} (h:x<2^k):gL x≤k:=by
 unfold gL;split
 · omega
 · rename_i h0
   have:=(Nat.log2_lt h0).2 h;omega
theorem lS {x k:Nat} (h:2^k≤x):gL x=gL (x/2^k)+k:=by
 have hp:=ot k;have h1:x≠0:=om;have h2:x/2^k≠0:=by have:=Nat.div_pos h hp;omega
 unfold gL;rw[if_neg h1,if_neg h2];have e:x.log2=(x/2^k).log2+k:=by
  refine (Nat.log2_eq_iff h1).2 ⟨?_,?_⟩
  · have:=Nat.log2_self_le h2;rw[Nat.pow_add];exact Nat.le_trans (Nat.mul_le_mul_right _ this) (Nat.div_mul_le_self _ _)
  · have:=@Nat.lt_log2_self (x/2^k);have h3:x<(x/2^k+1)*2^k:=by
     have:=Nat.div_add_mod x (2^k);have h4:=Nat.mod_lt x hp;rw[Nat.add_mul,Nat.one_mul,Nat.mul_comm];omega
    rw[show (x/2^k).log2+k+1=(x/2^k).log2+1+k from om,Nat.pow_add];exact Nat.lt_of_lt_of_le h3 (Nat.mul_le_mul_right _ this)
 omega
def Vu:ByteArray:=⟨#[0,1,2,2,3,3,3,3,4,4,4,4,4,4,4,4,5,5,5,5,5,5,5,5,5,5,5,5,5,5,5,5,6,6,6,6,6,6,6,6,6,6,6,6,6,6,6,6,6,6,6,6,6,6,6,6,6,6,6,6,6,6,6,6,7,7,7,7,7,7,7,7,7,7,7,7,7,7,7,7,7,7,7,7,7,7,7,7,7,7,7,7,7,7,7,7,7,7,7,7,7,7,7,7,7,7,7,7,7,7,7,7,7,7,7,7,7,7,7,7,7,7,7,7,7,7,7,7,8,8,8,8,8,8,8,8,8,8,8,8,8,8,8,8,8,8,8,8,8,8,8,8,8,8,8,8,8,8,8,8,8,8,8,8,8,8,8,8,8,8,8,8,8,8,8,8,8,8,8,8,8,8,8,8,8,8,8,8,8,8,8,8,8,8,8,8,8,8,8,8,8,8,8,8,8,8,8,8,8,8,8,8,8,8,8,8,8,8,8,8,8,8,8,8,8,8,8,8,8,8,8,8,8,8,8,8,8,8,8,8,8,8,8,8,8,8,8,8,8,8,8,8,8,8,8,8]⟩
theorem Oq {u:Nat} (h:u<256):(Vu.data[u]?).map (·.toNat)=some (gL u):=by
 have key:∀v:Fin 256,(Vu.data[v.val]?).map (·.toNat)=some (gL v.val):=by decide +kernel
 exact key ⟨u,h⟩
section
variable (w:World)
theorem Ot (x:Nat) (hx:x<18446744073709551616):Calls prog 196 #[.int .u64 ((x:Nat):Int)] w (aF w (.int .i64 ((gL x:Nat):Int))):=by
 refine zd func196 rfl ntmps196 rfl ?_;have LW:=aC (No) w;have ak:=aN (No) w;have E:=aC (No) w;refine vp ?_;replace LW:=LW.step E ak;replace E:=aC (No) w;refine yy (ι:=Nat×Nat) (fun (y,n)=>[(0,.int .u64 ((y:Nat):Int)),(2,.int .i64 ((n:Nat):Int))]) (fun (y,n) w'=>Ext (No) w w'∧(gL x=gL y+n∧y<4294967296∧n≤32)) ?_ ?_
 ·
  have M1:=aC (No) w;have dn:=aN (No) w;refine zf rfl (fun h=>?_) (fun h=>?_)
  ·
   have h:=of_decide_eq_true h;refine zr ?_;refine za rfl (js rfl rfl de (xv x 32 de) (zo ?_));exact yn (x/2^32,32) ⟨rfl,rfl,trivial⟩ ⟨M1.step E dn,lS (by show 4294967296≤x;omega),(Nat.div_lt_iff_lt_mul (ot 32)).2 (by show x<18446744073709551616;omega),Nat.le_refl _⟩
  ·
   have h:=of_decide_eq_false h;refine aK ?_;exact yn (x,0) ⟨rfl,rfl,trivial⟩ ⟨M1.step E dn,rfl,by show x<4294967296;omega,de⟩
 ·
  rintro ⟨y,n⟩ w2 ⟨M1,⟨hy1,hy2,hy3⟩⟩;replace E:=E.trans M1;replace LW:=LW.step E ak;replace E:=aC (No) w2;refine zp ?_;replace LW:=LW.step E ak;replace E:=aC (No) w2;refine yy (ι:=Nat×Nat) (fun (z,m)=>[(0,.int .u64 ((z:Nat):Int)),(2,.int .i64 ((m:Nat):Int))]) (fun (z,m) w'=>Ext (No) w2 w'∧(gL x=gL z+m∧z<65536∧m≤48)) ?_ ?_
  ·
   have M3:=aC (No) w2;have dD:=aN (No) w2;refine zf rfl (fun h=>?_) (fun h=>?_)
   ·
    have h:=of_decide_eq_true h;have hs:=lS (x:=y) (k:=16) (by show 65536≤y;omega);refine zr ?_;refine za rfl (js rfl rfl de (xv y 16 de) (jl ?_));exact yn (y/2^16,n+16) ⟨rfl,congrArg (fun z:Int=>some (Value.int .i64 z)) om,trivial⟩ ⟨M3.step E dD,by show gL x=gL (y/2^16)+(n+16);omega,(Nat.div_lt_iff_lt_mul (ot 16)).2 hy2,by show n+16≤48;omega⟩
   ·
    have h:=of_decide_eq_false h;refine aK ?_;exact yn (y,n) ⟨rfl,rfl,trivial⟩ ⟨M3.step E dD,hy1,by show y<65536;omega,by show n≤48;omega⟩
  ·
   rintro ⟨z,m⟩ w4 ⟨M3,⟨hz1,hz2,hz3⟩⟩;replace E:=E.trans M3;replace LW:=LW.step E ak;replace E:=aC (No) w4;refine zp ?_;replace LW:=LW.step E ak;replace E:=aC (No) w4;refine yy (ι:=Nat×Nat) (fun (u,k)=>[(0,.int .u64 ((u:Nat):Int)),(2,.int .i64 ((k:Nat):Int))]) (fun (u,k) w'=>Ext (No) w4 w'∧(gL x=gL u+k∧u<256∧k≤56)) ?_ ?_
   ·
    have M5:=aC (No) w4;have Kh:=aN (No) w4;refine zf rfl (fun h=>?_) (fun h=>?_)
    ·
     have h:=of_decide_eq_true h;have hs:=lS (x:=z) (k:=8) (by show 256≤z;omega);refine zr ?_;refine za rfl (js rfl rfl de (xv z 8 de) (jl ?_));exact yn (z/2^8,m+8) ⟨rfl,congrArg (fun z:Int=>some (Value.int .i64 z)) om,trivial⟩ ⟨M5.step E Kh,by show gL x=gL (z/2^8)+(m+8);omega,(Nat.div_lt_iff_lt_mul (ot 8)).2 hz2,by show m+8≤56;omega⟩
    ·
     have h:=of_decide_eq_false h;refine aK ?_;exact yn (z,m) ⟨rfl,rfl,trivial⟩ ⟨M5.step E Kh,hz1,by show z<256;omega,by show m≤56;omega⟩
   ·
    rintro ⟨u,k⟩ w6 ⟨M5,⟨hu1,hu2,hu3⟩⟩;replace E:=E.trans M5;replace LW:=LW.step E ak;replace E:=aC (No) w6;have hul:=xH (x:=u) (k:=8) hu2;refine ye ?_;refine za rfl (gf u5 u25 rfl (qex om) (za rfl (qd (j:=u) (b:=gL u) u9 rfl rfl rfl (Oq hu2) (qtv ?_))));refine zn ?_;exact ⟨by rw[hu1,Int.natCast_add,Int.add_comm];rfl,aP LW E ak⟩
end
end
end Go.Proofs.YtmnmebdmpigddaaGreatDoor
namespace Go.Proofs.YtmnmebdmpigddaaGreatDoor
open Go.RowKit Proofs.Tryz
theorem qsx {P Q:Prop} (k:Q) (h:(Unit→Q)→P:=by
 intro zK;refine za rfl (xw rfl rfl (yt om) ?_);exact zK ()):P:=h fun _=>k
theorem Vv {P:Prop} (h:P:=by
 by_cases h:m=0
 · subst h;rfl
 · rw[decide_eq_false h];exact beq_eq_false_iff_ne.2 om):P:=h
theorem ag7 (m:Int) (k:Nat) (hk:k<64):m.fdiv (2^(min ((k:Nat):Int).toNat IntKind.i64.bits))=m/((2^k:Nat):Int):=by
 rw[Int.toNat_natCast,show min k IntKind.i64.bits=k from Nat.min_eq_left (by show k≤64;omega),Int.fdiv_eq_ediv_of_nonneg _ (Int.le_of_lt (Int.pow_pos de))];rw[show (2:Int)^k=((2^k:Nat):Int) by simp]
def l2p (p:Int):Int:=p*108853/32768
def lT (u:Nat):Nat:=(u+1+(u/2^2 &&& 1))/2^2
theorem zpz (u:Nat):u &&& 1≤1:=Nat.and_le_right
def lU (m:Nat):Nat:=m &&& 9223372036854775808
def Zp (m:Nat):Nat:=m &&& 18442240474082181119
def CY (m:Nat):Nat:=lU m ||| 9218868437227405312
def CZ (m k:Nat):Nat:=Zp m ||| (k*2^52%18446744073709551616)
def Zq (m k:Nat):Nat:=
 if m &&& 4503599627370496=0 then m
 else if 2047≤k then CY m
 else CZ m k
def vpz (m k:Nat):Value:=
 if m &&& 4503599627370496=0 then .nilIface
 else if 2047≤k then .iface 183 (.int .i64 1)
 else .nilIface
theorem Ou {m:Nat} (hm:m<18446744073709551616):IntKind.u64.wrap (BitVec.ofInt IntKind.u64.bits (m:Int) &&& ~~~BitVec.ofInt IntKind.u64.bits 4503599627370496).toNat=((m &&& 18442240474082181119:Nat):Int):=by
 have e: ~~~BitVec.ofInt IntKind.u64.bits 4503599627370496=BitVec.ofInt IntKind.u64.bits ((18442240474082181119:Nat):Int):=by decide +kernel
 rw[e];exact xp hm de
theorem aAq {m:Nat} (hm:m<18446744073709551616):IntKind.u64.wrap (BitVec.ofInt IntKind.u64.bits ((lU m:Nat):Int) ||| BitVec.ofInt IntKind.u64.bits 9218868437227405312).toNat=((CY m:Nat):Int):=
 xb (m:=lU m) (n:=9218868437227405312) (Nat.lt_of_le_of_lt Nat.and_le_left hm) de
theorem aAz {m k:Nat} (hm:m<18446744073709551616):IntKind.u64.wrap (BitVec.ofInt IntKind.u64.bits ((Zp m:Nat):Int) ||| BitVec.ofInt IntKind.u64.bits ((k*2^52%18446744073709551616:Nat):Int)).toNat=((CZ m k:Nat):Int):=
 xb (m:=Zp m) (n:=k*2^52%18446744073709551616) (Nat.lt_of_le_of_lt Nat.and_le_left hm) (Nat.mod_lt _ de)
theorem ag8 (m:Nat):(((m:Nat):Int)==0)=decide (m=0):=by
 exact Vv
attribute [local irreducible] OW RS CW EW
section
variable (w:World)
theorem ag9 (p:Int) (hp:-10000≤p∧p≤10000):Calls prog 252 #[.int .i64 p] w (aF w (.int .i64 (l2p p))):=by
 refine zd func252 rfl ntmps252 rfl ?_;have LW:=aC (No) w;have ak:=aN (No) w;have E:=aC (No) w;refine yk ?_;refine qsx ?_;refine za rfl (js rfl rfl de (ag7 _ 15 de) ?_);exact Qg
theorem Ov (u:Nat) (hu:u<144115188075855872):Calls prog 257 #[.int .u64 ((u:Nat):Int)] w (aF w (.int .u64 ((lT u:Nat):Int))):=by
 have h1:=zpz (u/2^2);have h2:u/2^2≤u:=Nat.div_le_self _ _;refine zd func257 rfl ntmps257 rfl ?_;have LW:=aC (No) w;have ak:=aN (No) w;have E:=aC (No) w;refine yk ?_;refine TW ?_;refine aK ?_;refine za rfl (js rfl rfl de (xv _ 2 de) (za rfl (gh rfl rfl (xp (n:=1) om de) (TW ?_))));refine za rfl (js rfl rfl de (xv _ 2 de) ?_);exact Qg
theorem Vw (m k:Nat) (hm:m<18446744073709551616) (hk:1≤k∧k≤10000):Calls prog 259 #[.int .u64 ((m:Nat):Int),.int .i64 (((k:Nat):Int)-1075)] w (aF w (.tuple #[.float .f64 (Zq m k),vpz m k])):=by
 refine zd func259 rfl ntmps259 rfl ?_;have LW:=aC (No) w;have ak:=aN (No) w;have E:=aC (No) w;refine zv ?_;refine za rfl (gh rfl rfl (xp (n:=4503599627370496) hm de) (zr ?_));refine yr 8 (.bool (decide (m &&& 4503599627370496=0))) rfl (by rw[ag8]<;>rfl) (zf rfl (fun h=>?_) (fun h=>?_))
 ·
  have h:=of_decide_eq_true h;refine zr ?_;refine za rfl (vq (b:=m) jK rfl (zp ?_));exact ⟨by rw[Zq,vpz,if_pos h,if_pos h];rfl,aP LW E ak⟩
 ·
  have h:=of_decide_eq_false h;refine qc ?_;refine yr 12 (.bool (decide (2047≤k))) rfl (gr om) (zf rfl (fun h'=>?_) (fun h'=>?_))
  ·
   have h':=of_decide_eq_true h';refine zr ?_;refine za rfl (gh rfl rfl (xp (n:=9223372036854775808) hm de) (zk 14 (.int .u64 ((lU m:Nat):Int)) rfl (by rw[lU]<;>rfl) (za rfl (oJ rfl rfl (aAq hm) (za rfl (vq (b:=CY m) jK rfl (za rfl (FN kr rfl (zp ?_)))))))));exact ⟨by rw[Zq,vpz,if_neg h,if_neg h,if_pos h',if_pos h'];rfl,aP LW E ak⟩
  ·
   have h':=of_decide_eq_false h';refine zn ?_;refine za rfl (ykz rfl rfl (Ou hm) (aK ?_));refine yw ?_;refine za rfl (gf u25 underlying3 rfl (wrap_u64 om) (zk 22 (.int .u64 ((k:Nat):Int)) rfl (by congr 1;omega) (zk 19 (.int .u64 ((Zp m:Nat):Int)) rfl (by rw[Zp]<;>rfl) (za rfl (ki rfl rfl de (Zl k 52 de) (za rfl (oJ rfl rfl (aAz hm) (za rfl (vq (b:=CZ m k) jK rfl (zo ?_))))))))));exact ⟨by rw[Zq,vpz,if_neg h,if_neg h,if_neg h',if_neg h'];rfl,aP LW E ak⟩
end
def eF (d j:Nat):Int:=min 1074 (53-((gL d:Nat):Int)-l2p (((j:Nat):Int)-348))
def sF (d j:Nat):Nat:=(61-((gL d:Nat):Int)-l2p (((j:Nat):Int)-348)-eF d j).toNat
def xF (d:Nat):Nat:=d*2^(64-gL d)%18446744073709551616
def uF (d j:Nat):Nat:=Oo (xF d) (Zn j) (Zo j) (sF d j)
def kF (d j:Nat):Nat:=Qj (decide (36028797018963966≤uF d j))
def vF (d j:Nat):Nat:=uF d j/2^kF d j ||| (uF d j &&& 1)
def mF (d j sign:Nat):Nat:=sign ||| lT (vF d j)
def vbx (d j sign:Nat):Nat:=if 64≤sF d j then sign ||| 0 else Zq (mF d j sign) ((1075-eF d j).toNat+kF d j)
def vbz (d j sign:Nat):Value:=if 64≤sF d j then .nilIface else vpz (mF d j sign) ((1075-eF d j).toNat+kF d j)
theorem C8 {d:Nat} (h:0<d):1≤gL d:=by unfold gL;rw[if_neg om];omega
theorem rZ {a b k:Nat} (ha:a<2^k) (hb:b<2^k):a ||| b<2^k:=Nat.or_lt_two_pow ha hb
theorem r9 {a s:Nat} (h:a<18446744073709551616) (hs:8≤s):a/2^s<72057594037927936:=by
 refine Nat.lt_of_le_of_lt (Nat.div_le_div_left (Nat.pow_le_pow_right de hs) de) ((Nat.div_lt_iff_lt_mul (ot 8)).2 h)
theorem KH {x hi lo s:Nat} (hx:x<18446744073709551616) (hh:hi<18446744073709551616) (hs:8≤s):Oo x hi lo s<72057594037927936:=by
 have h1:=r9 (Iu hx hh) hs;have h2:=r9 (a:=pO x hi lo) (Nat.mod_lt _ de) hs;unfold Oo;split
 · exact rZ (k:=56) h1 de
 · exact rZ (k:=56) h2 (Nat.lt_of_le_of_lt (xG _) de)
theorem aQ4 {d j:Nat} (h:uF d j<72057594037927936):vF d j<72057594037927936:=
 rZ (k:=56) (Nat.lt_of_le_of_lt (Nat.div_le_self _ _) h) (Nat.lt_of_le_of_lt (zpz _) de)
theorem Ow {u:Nat} (h:u<72057594037927936):lT u<18446744073709551616:=by
 have h1:=zpz (u/2^2);refine Nat.lt_of_le_of_lt (Nat.div_le_self _ _) om
theorem agq:Gives 255 #[.int .u64 9007199254740992] (.int .u64 36028797018963966):=by
 intro w;refine zd func255 rfl ntmps255 rfl ?_;have LW:=aC (No) w;have ak:=aN (No) w;have E:=aC (No) w;refine yk ?_;refine za rfl (ki (z:=36028797018963968) rfl rfl de kr (za rfl (jn (z:=36028797018963966) rfl rfl kr (ye ?_))));refine ks (rs:=[.tmp 2]) (vs:=[.int .u64 36028797018963966]) rfl ⟨rfl,trivial⟩ ?_;exact xq
section
variable (w:World)
theorem xI (eG:Nat) (c0 c1 c2:Value) (e lp:Int) (j S:Nat) (hj:j<696) (hB:aB w eG 257 #[c0,c1,c2]) (hT:xC w) (hne:eG≠13) (he:-10000≤e∧e≤10000) (hlp:-10000≤lp∧lp≤10000) (hS:((S:Nat):Int)=0-(e+lp+3)) :
 Calls prog 253 #[.pointer (some ⟨eG,0,none⟩),.int .i64 e,.int .i64 (((j:Nat):Int)-348),.int .i64 lp] w fun en w'=>en= .returned (.tuple #[])∧aB w' eG 257 #[.int .u64 ((Zn j:Nat):Int),.int .u64 ((Zo j:Nat):Int),.int .i64 ((S:Nat):Int)]∧Ext (aj [some eG]) w w':=by
 rw[hS];exact xD w eG c0 c1 c2 e lp j hj hB hT hne he hlp
theorem C9 (d j sign:Nat) (hd:0<d∧d<18446744073709551616) (hj:3≤j∧j≤658) (hs:sign<18446744073709551616) (hT:xC w) :
 Calls prog 227 #[.int .u64 ((d:Nat):Int),.int .i64 (((j:Nat):Int)-348),.int .u64 ((sign:Nat):Int)] w (aF w (.tuple #[.float .f64 (vbx d j sign),vbz d j sign])):=by
 have hB1:=C8 hd.1;have hB2:gL d≤64:=xH (k:=64) hd.2;obtain ⟨B,hB⟩:∃B,B=gL d:=⟨_,rfl⟩;obtain ⟨L,hL⟩:∃L,L=l2p (((j:Nat):Int)-348):=⟨_,rfl⟩;have hL':-2000≤L∧L≤2000:=by rw[hL,l2p];omega
 obtain ⟨E0,hE0⟩:∃E0,E0=eF d j:=⟨_,rfl⟩;have hE1:E0=min 1074 (53-((B:Nat):Int)-L):=by rw[hE0,eF,hB,hL]
 obtain ⟨S,hS⟩:∃S,S=sF d j:=⟨_,rfl⟩;have hS1:((S:Nat):Int)=61-((B:Nat):Int)-L-E0:=by rw[hS,sF,←hB,←hL,←hE0];omega
 rw[←hB] at hB1 hB2;have hx:xF d<18446744073709551616:=Nat.mod_lt _ de;obtain ⟨_,ht1,ht2⟩:=xB (j:=j) om;have hu:uF d j<72057594037927936:=KH hx ht1 (by rw[←hS];omega);have hk:kF d j≤1:=xG _;have hv:=aQ4 hu;have hr:=Ow hv;refine zj func227 ntmps227 fun HF LW ak E=>?_;replace HF:=HF.and (Per.aA7 hT (fun h=>h.elim));refine qc ?_;refine zb ao2 (Ot _ d hd.2) E fun w1 E=>(zk 15 (.int .i64 ((B:Nat):Int)) rfl (by rw[hB]<;>rfl) (zo ?_));refine zb aK2 (ag9 _ (((j:Nat):Int)-348) om) E fun w2 E=>(zk 17 (.int .i64 L) rfl (by rw[hL]<;>rfl) (zo ?_));refine yp ?_;refine aK ?_;refine yp ?_;refine za rfl (Q6 rfl rfl (zk 22 (.int .i64 E0) rfl (by congr 1;rw[hE1];split<;>omega) (zn ?_)));refine yb aG9 HF LW E ak fun bM w4 bP sj HF E ak=>(zo ?_);refine yp ?_;refine yp ?_;refine zi ?_;refine za rfl (ze aK3 rfl ((xI _ bM _ _ _ _ _ j S om bP (HF.on E).here.2 (by have:=hT.lt;omega) om om om).mono ?_));rintro e w5 ⟨rfl,hB,hE⟩;refine ⟨_,rfl,?_⟩;replace bP:=hB;clear hB;replace E:=E.step1 hE aj.head;clear hE;refine zv ?_;refine yr 32 (.bool (decide (64≤S))) rfl (gr om) (zf rfl (fun h=>?_) (fun h=>?_))
 ·
  have h:=of_decide_eq_true h;have h':64≤sF d j:=hS▸h;refine zr ?_;refine za rfl (oJ rfl rfl (xb (n:=0) hs de) (za rfl (vq (b:=sign ||| 0) jK rfl (zp ?_))));exact ⟨by rw[vbx,vbz,if_pos h',if_pos h'];rfl,aP LW E ak⟩
 ·
  have h:=of_decide_eq_false h;have h':¬64≤sF d j:=hS▸h;obtain ⟨HF,LW,ak,E⟩:=d9 HF LW E ak (Y:=No) (aj.skip aj.bI) (Per.bH bP au.nil);refine zo ?_;refine yp ?_;refine zk 38 (.int .i64 ((64-B:Nat):Int)) rfl (by congr 1;omega) (za rfl (ki rfl rfl om (Zl d (64-B) om) (zk 39 (.int .u64 ((xF d:Nat):Int)) rfl (by rw[xF,hB]<;>rfl) (zb aK4 (Iw _ bM (xF d) (Zn j) (Zo j) S hx ht1 ht2 om (HF.on E).here.2) E fun w6 E=>(zk 40 (.int .u64 ((uF d j:Nat):Int)) rfl (by rw[uF,hS]<;>rfl) (zo ?_))))));refine zb aK5 (agq _) E fun w7 E=>(aK ?_);refine zk 43 (.bool (decide (36028797018963966≤uF d j))) rfl (gr om) (zb aK0 (aA9 _ (decide (36028797018963966≤uF d j))) E fun w8 E=>(zk 44 (.int .i64 ((kF d j:Nat):Int)) rfl (by rw[kF]<;>rfl) (zp ?_)));refine za rfl (js rfl rfl om (xv _ (kF d j) om) (aK ?_));refine za rfl (gh rfl rfl (xp (n:=1) om de) (za rfl (oJ rfl rfl (xb (Nat.lt_of_le_of_lt (Nat.div_le_self _ _) om) (Nat.lt_of_le_of_lt (zpz _) de)) (zk 50 (.int .u64 ((vF d j:Nat):Int)) rfl (by rw[vF]<;>rfl) (zp ?_)))));refine yp ?_;refine zp ?_;refine zb aK6 (Ov _ (vF d j) om) E fun w9 E=>(za rfl (oJ rfl rfl (xb hs hr) (zk 57 (.int .u64 ((mF d j sign:Nat):Int)) rfl (by rw[mF]<;>rfl) (aK ?_))));refine zsz ?_;refine zk 59 (.int .i64 ((((1075-E0).toNat+kF d j:Nat):Int)-1075)) rfl (by congr 1;omega) (zb aK8 (Vw _ (mF d j sign) ((1075-E0).toNat+kF d j) (rZ (k:=64) hs hr) om) E fun dI E=>(yk ?_));exact ⟨by rw[vbx,vbz,if_neg h',if_neg h',←hE0];rfl,aP LW E ak⟩
end
end Go.Proofs.YtmnmebdmpigddaaGreatDoor
namespace Go.Proofs.YtmnmebdmpigddaaGreatDoor
open Go.RowKit Proofs.Tryz
def aQ5 (b:Nat):Prop:=b≤9218868437227405312
theorem Iy {m i:Nat} (h:m<2^i):m &&& 2^i=0:=by
 apply Nat.eq_of_testBit_eq
 intro j;rw[Nat.testBit_and,Nat.testBit_two_pow,Nat.zero_testBit];by_cases hj:i=j
 · subst hj;rw[Nat.testBit_lt_two_pow h];rfl
 · rw[decide_eq_false hj,Bool.and_false]
theorem Vx {m:Nat} (h:m<9007199254740992):Zp m<4503599627370496:=by
 have e:m=m &&& (2^53-1):=by rw[Nat.and_two_pow_sub_one_eq_mod,Nat.mod_eq_of_lt h]
 have e2:Zp m=m%2^52:=by
  unfold Zp;rw[←Nat.and_two_pow_sub_one_eq_mod];conv=>lhs;rw[e]
  rw[Nat.and_assoc];have:(2^53-1) &&& 18442240474082181119=2^52-1:=by decide +kernel
  rw[this]
 rw[e2];exact Nat.mod_lt _ de
theorem Iz {m k:Nat} (hm:m≤9007199254740992):aQ5 (Zq m k):=by
 unfold Zq;split
 · unfold aQ5;omega
 · rename_i h
   have hlt:m<9007199254740992:=by
    rcases Nat.lt_or_eq_of_le hm with h' | h'
    · exact h'
    · subst h';exact absurd (by decide +kernel) h
   split
   · have e:lU m=0:=Iy (i:=63) (by show m<9223372036854775808;omega);unfold CY;rw[e];exact Nat.le_refl _
   · rename_i hk
     have hc:=Vx hlt;have hk':k*2^52%18446744073709551616=2^52*k:=by
      rw[Nat.mul_comm];exact Nat.mod_eq_of_lt (by show 4503599627370496*k<18446744073709551616;omega)
     unfold CZ;rw[hk',Nat.or_comm,←Nat.two_pow_add_eq_or_of_lt hc];show 4503599627370496*k+Zp m≤9218868437227405312
     omega
theorem Oy {u:Nat} (h:u<36028797018963968):lT u≤9007199254740992:=by
 have h1:=zpz (u/2^2);unfold lT;show (u+1+(u/4 &&& 1))/4≤9007199254740992
 have h2:u/4 &&& 1≤1:=h1;omega
theorem aAx {d j:Nat} (h:uF d j<72057594037927936):vF d j<36028797018963968:=by
 unfold vF;refine rZ (k:=55) ?_ (Nat.lt_of_le_of_lt (zpz _) de);unfold kF Qj;by_cases hc:36028797018963966≤uF d j
 · rw[decide_eq_true hc,if_pos rfl];show uF d j/2<36028797018963968
   omega
 · rw[decide_eq_false hc,if_neg de];show uF d j/1<36028797018963968
   omega
theorem aQ6 {d j:Nat} (hd:0<d∧d<18446744073709551616) (hj:3≤j∧j≤658):uF d j<72057594037927936:=by
 obtain ⟨_,ht1,_⟩:=xB (j:=j) om;have hB1:=C8 hd.1;have hB2:gL d≤64:=xH (k:=64) hd.2;refine KH (Nat.mod_lt _ de) ht1 ?_;unfold sF eF;have:-2000≤l2p (((j:Nat):Int)-348)∧l2p (((j:Nat):Int)-348)≤2000:=by rw[l2p];omega
 omega
structure xL (g b o n c:Nat) (vs:List Value) (w:World):Prop where
 head:w.cell? ⟨g,0,none⟩=some (.slice (some ⟨b,o,none⟩) n c)
 cells:∀i v,vs[i]? =some v→w.cell? ⟨b,o+i,none⟩=some v
theorem Per.bY {X:Nat→Prop} {w:World} {p:Addr} {v:Value} (h:w.cell? p=some v) (hX:∀k,X k→w.heap.size≤k):Per X w (fun z=>z.cell? p=some v):=fun _ hb=>
 (hb.cell (World.block_lt_of_cell? w _ h) (fun hx=>Nat.lt_irrefl _ (Nat.lt_of_lt_of_le (World.block_lt_of_cell? w _ h) (hX _ hx)))).trans h
def gM:List Nat:=[4607182418800017408,4621819117588971520,4636737291354636288,4652007308841189376,4666723172467343360,4681608360884174848,4696837146684686336,4711630319722168320,4726483295884279808,4741671816366391296,4756540486875873280,4771362005757984768,4786511204640096256,4801453603149578240,4816244402031689728,4831355200913801216,4846369599423283200,4861130398305394688,4876203697187506176,4891288408196988160,4906019910204099648,4921056587992461136,4936209963552724370]
def oD (j:Nat):Nat:=gM.getD j 0
theorem sW {j:Nat} (h:j<23):(gM.map (fun f=>Value.float .f64 f))[j]? =some (.float .f64 (oD j)):=by
 have key:∀i:Fin 23,(gM[i.val]?)=some (oD i.val):=by decide +kernel
 rw[List.getElem?_map,key ⟨j,h⟩];rfl
theorem Dn {j:Nat} (h:j<23):rg (oD j)<9218868437227405312∧rg (oD j)≠0∧ng (oD j)=false:=by
 have key:∀i:Fin 23,rg (oD i.val)<9218868437227405312∧rg (oD i.val)≠0∧ng (oD i.val)=false:=by decide +kernel
 exact key ⟨j,h⟩
def VL:List Int:=[1,3,6,9,13,16,19,23,26]
def lcB (k:Nat):ByteArray:=⟨(Go.Pinned.cheatRows.getD k (0,[])).2.toArray⟩
theorem xM {k:Nat} (h:yS k):(Go.Pinned.cheatRows.getD k (0,[])).1=oC k∧(Go.Pinned.cheatRows.getD k (0,[])).2.map (·.toNat)=sO k∧k<61:=by
 rcases h with rfl | rfl | rfl | rfl | rfl | rfl | rfl | rfl | rfl | rfl | rfl<;>exact ⟨by decide +kernel,by decide +kernel,de⟩
structure VN (b o c:Nat) (w:World):Prop where
 head:w.cell? ⟨16,0,none⟩=some (.slice (some ⟨b,o,none⟩) 61 c)
 delta:∀k,yS k→w.cell? ⟨b,o+k*2,none⟩=some (.int .i64 ((oC k:Nat):Int))
 cut:∀k,yS k→w.cell? ⟨b,o+k*2+1,none⟩=some (.string (lcB k))
structure bV (bp op cp bf of cf bl ol cl:Nat) (w:World):Prop where
 pow:xC w
 man:w.cell? ⟨8,0,none⟩=some (.int .u64 52)
 exp:w.cell? ⟨8,1,none⟩=some (.int .u64 11)
 bias:w.cell? ⟨8,2,none⟩=some (.int .i64 (-1023))
 opt:w.cell? ⟨7,0,none⟩=some (.bool true)
 powtab:xL 11 bp op 9 cp (VL.map (fun z=>Value.int .i64 z)) w
 ten:xL 12 bf of 23 cf (gM.map (fun f=>Value.float .f64 f)) w
 fT:VN bl ol cl w
structure gT (bp bf bl n:Nat):Prop where
 pow:13<n
 info:8<n
 opt:7<n
 pt:11<n
 tn:12<n
 ch:16<n
 bp:bp<n
 bf:bf<n
 bl:bl<n
theorem bV.below {w:World} {bp op cp bf of cf bl ol cl:Nat} (h:bV bp op cp bf of cf bl ol cl w):gT bp bf bl w.heap.size:=
 have lt {p:Addr} {v:Value} (e:w.cell? p=some v):p.block<w.heap.size:=World.block_lt_of_cell? w _ e;⟨h.pow.lt,lt h.man,lt h.opt,lt h.powtab.head,lt h.ten.head,lt h.fT.head,lt (h.powtab.cells 0 _ rfl),lt (h.ten.cells 0 _ rfl),lt (h.fT.delta 1 (.inl rfl))⟩
theorem gT.le {bp bf bl n m:Nat} (h:gT bp bf bl n) (hm:n≤m):gT bp bf bl m:=
 ⟨Nat.lt_of_lt_of_le h.pow hm,Nat.lt_of_lt_of_le h.info hm,Nat.lt_of_lt_of_le h.opt hm,Nat.lt_of_lt_of_le h.pt hm,Nat.lt_of_lt_of_le h.tn hm,Nat.lt_of_lt_of_le h.ch hm,Nat.lt_of_lt_of_le h.bp hm,Nat.lt_of_lt_of_le h.bf hm,Nat.lt_of_lt_of_le h.bl hm⟩
theorem Per.dA {X:Nat→Prop} {w:World} {p:Addr} {v:Value} {n:Nat} (h:w.cell? p=some v) (hp:p.block<n) (hX:∀k,X k→n≤k):Per X w (fun z=>z.cell? p=some v):=fun _ hb=>
 (hb.cell (World.block_lt_of_cell? w _ h) (fun hx=>Nat.lt_irrefl _ (Nat.lt_of_lt_of_le hp (hX _ hx)))).trans h
theorem Per.KO {X:Nat→Prop} {w:World} {bp op cp bf of cf bl ol cl n:Nat} (h:bV bp op cp bf of cf bl ol cl w) (hn:gT bp bf bl n) (hX:∀k,X k→n≤k):Per X w (bV bp op cp bf of cf bl ol cl):=fun z hz=>
 ⟨Per.aA7 h.pow (fun hx=>Nat.lt_irrefl _ (Nat.lt_of_lt_of_le hn.pow (hX _ hx))) z hz,Per.dA h.man hn.info hX z hz,Per.dA h.exp hn.info hX z hz,Per.dA h.bias hn.info hX z hz,Per.dA h.opt hn.opt hX z hz,
  ⟨Per.dA h.powtab.head hn.pt hX z hz,fun i v hv=>Per.dA (h.powtab.cells i v hv) hn.bp hX z hz⟩,⟨Per.dA h.ten.head hn.tn hX z hz,fun i v hv=>Per.dA (h.ten.cells i v hv) hn.bf hX z hz⟩,
  ⟨Per.dA h.fT.head hn.ch hX z hz,fun k hk=>Per.dA (h.fT.delta k hk) hn.bl hX z hz,fun k hk=>Per.dA (h.fT.cut k hk) hn.bl hX z hz⟩⟩
theorem Per.tabs {X:Nat→Prop} {w:World} {bp op cp bf of cf bl ol cl:Nat} (h:bV bp op cp bf of cf bl ol cl w) (hX:∀k,X k→w.heap.size≤k):Per X w (bV bp op cp bf of cf bl ol cl):=Per.KO h h.below hX
theorem Dp (m:Nat):nZ false (FloatKind.f64.nearest ((m:Nat):Int)):=by
 have e:FloatKind.f64.nearest ((m:Nat):Int)=Ieee.double.write (.number false m 0):=by
  show Ieee.double.write (.number (decide (((m:Nat):Int)<0)) ((m:Nat):Int).natAbs 0)=_
  rw[decide_eq_false om];rfl
 rw[e];have h:=yhq (d:=.number false m 0) rfl;exact ⟨h.1,yrz _ _ _,h.2⟩
theorem ah2 {b:Nat} {n:Bool} (h:nZ n b):nZ (!n) (b ^^^ 9223372036854775808):=by
 obtain ⟨h1,h2,h3⟩:=zdk h.lt;have e:b ^^^ 9223372036854775808=qg b:=rfl;rw[e];exact ⟨by rw[aW,h1];exact h.num,by rw[h2,h.sg],h3⟩
end Go.Proofs.YtmnmebdmpigddaaGreatDoor
namespace Go.Proofs.YtmnmebdmpigddaaGreatDoor
open Go.RowKit Proofs.Tryz
attribute [local irreducible] OW RS CW EW
theorem Dq {P Q:Prop} (k:Q) (h:(Unit→Q)→P:=by
 intro zK;refine za rfl (jo gX rfl rfl (by rw[Nat.mul_one];exact (HF.on E).here.2.ten.cells _ _ (sW om)) ?_);exact zK ()):P:=h fun _=>k
theorem l8 {P Q:Prop} (k:Q) (h:(Unit→Q)→P:=by
 intro zK;refine za rfl (jo FT rfl rfl (HF.on E).here.2.ten.head (aK ?_));exact zK ()):P:=h fun _=>k
def f0 (m:Nat) (neg:Bool):Nat:=if neg then FloatKind.f64.nearest ((m:Nat):Int) ^^^ 9223372036854775808 else FloatKind.f64.nearest ((m:Nat):Int)
theorem VO (m:Nat) (neg:Bool):nZ neg (f0 m neg):=by
 cases neg
 · rw[f0,if_neg de];exact Dp m
 · rw[f0,if_pos rfl];exact ah2 (Dp m)
def IG (f:Nat) (p:Int):Nat:=if 22<p then ji (aR .mul f (oD (p-22).toNat)) else f
def exQ (p:Int):Nat:=if 22<p then 22 else p.toNat
def xO (m:Nat) (p:Int) (neg:Bool):Nat×Bool:=
 if m/2^52≠0 then (0,false)
 else if p=0 then (f0 m neg,true)
 else if 0<p∧p≤37 then
  if (gk (IG (f0 m neg) p) 4831355200913801216==some .gt)=true∨(gk (IG (f0 m neg) p) 14054727237768577024==some .lt)=true then (IG (f0 m neg) p,false)
  else (ji (aR .mul (IG (f0 m neg) p) (oD (exQ p))),true)
 else if p<0∧ -22≤p then (ji (aR .quo (f0 m neg) (oD (-p).toNat)),true)
 else (f0 m neg,false)
theorem KP {m:Nat} {p:Int} {neg:Bool} (h:m/2^52≠0):xO m p neg=(0,false):=by rw[xO,if_pos h]
theorem KQ {m:Nat} {p:Int} {neg:Bool} (h:¬m/2^52≠0) (h1:p=0):xO m p neg=(f0 m neg,true):=by rw[xO,if_neg h,if_pos h1]
theorem VP {m:Nat} {p:Int} {neg:Bool} (h:¬m/2^52≠0) (h1:¬p=0) (h2:0<p∧p≤37) {b:Bool} (hb:b=(gk (IG (f0 m neg) p) 4831355200913801216==some .gt || gk (IG (f0 m neg) p) 14054727237768577024==some .lt)):xO m p neg=if b then (IG (f0 m neg) p,false) else (ji (aR .mul (IG (f0 m neg) p) (oD (exQ p))),true):=by
 rw[xO,if_neg h,if_neg h1,if_pos h2,hb];simp only[Bool.or_eq_true]
theorem Dr {m:Nat} {p:Int} {neg:Bool} (h:¬m/2^52≠0) (h1:¬p=0) (h2:¬(0<p∧p≤37)) (h3:p<0∧ -22≤p):xO m p neg=(ji (aR .quo (f0 m neg) (oD (-p).toNat)),true):=by rw[xO,if_neg h,if_neg h1,if_neg h2,if_pos h3]
theorem l9 {m:Nat} {p:Int} {neg:Bool} (h:¬m/2^52≠0) (h1:¬p=0) (h2:¬(0<p∧p≤37)) (h3:¬(p<0∧ -22≤p)):xO m p neg=(f0 m neg,false):=by rw[xO,if_neg h,if_neg h1,if_neg h2,if_neg h3]
theorem VQ {f:Nat} {p:Int} (h:22<p):IG f p=ji (aR .mul f (oD (p-22).toNat)):=by rw[IG,if_pos h]
theorem VR {f:Nat} {p:Int} (h:¬22<p):IG f p=f:=by rw[IG,if_neg h]
theorem VT {p:Int} (h:22<p):exQ p=22:=by rw[exQ,if_pos h]
theorem VU {p:Int} (h:¬22<p):exQ p=p.toNat:=by rw[exQ,if_neg h]
attribute [local irreducible] f0 IG oD ji gk
theorem ah3 (p q:Int):(p==q)=decide (p=q):=by by_cases h:p=q<;>simp[h]
theorem OI (m:Nat):(((m:Nat):Int) !=0)=decide (m≠0):=by
 by_cases h:m=0
 · subst h;rfl
 · rw[decide_eq_true h];exact bne_iff_ne.2 om
theorem vuz {f j:Nat} {n:Bool} (hf:nZ n f) (hj:j<23):aR .mul f (oD j)=some (ji (aR .mul f (oD j)))∧nZ n (ji (aR .mul f (oD j))):=by
 obtain ⟨h1,h2,h3⟩:=Dn hj;obtain ⟨z,hz,hs⟩:=agz hf h1 h2 h3;rw[rG hz];exact ⟨hz,hs⟩
theorem KR {f j:Nat} {n:Bool} (hf:nZ n f) (hj:j<23):aR .quo f (oD j)=some (ji (aR .quo f (oD j)))∧nZ n (ji (aR .quo f (oD j))):=by
 obtain ⟨h1,h2,h3⟩:=Dn hj;obtain ⟨z,hz,hs⟩:=agx hf h1 h2 h3;rw[rG hz];exact ⟨hz,hs⟩
theorem ah4 {f:Nat} {p:Int} {n:Bool} (h:nZ n f) (hp:p≤37):nZ n (IG f p):=by
 by_cases h2:22<p
 · rw[VQ h2];exact (vuz h om).2
 · rw[VR h2];exact h
theorem aB4 (p:Int):exQ p<23:=by
 by_cases h2:22<p
 · rw[VT h2];decide
 · rw[VU h2];omega
theorem ah5 {m:Nat} {p:Int} {neg:Bool} (h:(xO m p neg).2=true):nZ neg (xO m p neg).1:=by
 have h0:=VO m neg;by_cases a1:m/2^52≠0
 · rw[KP a1] at h;cases h
 · by_cases a2:p=0
   · rw[KQ a1 a2];exact h0
   · by_cases a3:0<p∧p≤37
     · have hx:=VP (neg:=neg) a1 a2 a3 rfl;rw[hx] at h ⊢;split at h
       · cases h
       · rename_i hb
         rw[if_neg hb];exact (vuz (ah4 h0 a3.2) (aB4 p)).2
     · by_cases a4:p<0∧ -22≤p
       · rw[Dr a1 a2 a3 a4];exact (KR h0 om).2
       · rw[l9 a1 a2 a3 a4] at h;cases h
section
variable (w:World) {bp op cp bf of cf bl ol cl:Nat}
theorem OJ (m:Nat) (p:Int) (neg:Bool) (hp:-10000≤p∧p≤10000) (hT:bV bp op cp bf of cf bl ol cl w) :
 Calls prog 226 #[.int .u64 ((m:Nat):Int),.int .i64 p,.bool neg] w (aF w (.tuple #[.float .f64 (xO m p neg).1,.bool (xO m p neg).2])):=by
 refine zj func226 ntmps226 fun HF LW ak E=>?_;replace HF:=HF.and (Per.tabs hT (fun _ h=>h.elim));refine yv ?_;refine za rfl (jo Rk rfl rfl (HF.on E).here.2.man (za rfl (js rfl rfl de (xv m 52 de) (zr ?_))));refine yr 12 (.bool (decide (m/2^52≠0))) rfl (by rw[OI]<;>rfl) (zf rfl (fun h=>?_) (fun h=>?_))
 ·
  have h:=of_decide_eq_true h;refine zr ?_;exact ⟨by rw[KP h];rfl,aP LW E ak⟩
 ·
  have h:=of_decide_eq_false h;refine zn ?_;refine za rfl (Rf gX (by rw[u25];rfl) rfl (qc ?_));replace HF:=HF.on E;replace LW:=LW.step E ak;replace E:=aC (No) w;refine yy (ι:=Nat) (fun f=>[(1,.int .i64 p),(7,.bool false),(6,.float .f64 f)]) (fun f w'=>Ext (No) w w'∧(f=f0 m neg)) ?_ ?_
  ·
   have M1:=aC (No) w;have dn:=aN (No) w;refine zf rfl (fun hn=>?_) (fun hn=>?_)
   ·
    refine zi ?_;refine za rfl (qyv rfl (zi ?_));exact yn (FloatKind.f64.nearest ((m:Nat):Int) ^^^ 9223372036854775808) ⟨rfl,rfl,rfl,trivial⟩ ⟨M1.step E dn,by rw[hn,f0,if_pos rfl]⟩
   ·
    refine aK ?_;exact yn (FloatKind.f64.nearest ((m:Nat):Int)) ⟨rfl,rfl,rfl,trivial⟩ ⟨M1.step E dn,by rw[hn,f0,if_neg de]⟩
  ·
   rintro f w2 ⟨M1,hf⟩;replace E:=E.trans M1;replace HF:=HF.on E;replace LW:=LW.step E ak;replace E:=aC (No) w2;have hs:=VO m neg;rw[←hf] at hs;refine qc ?_;refine yr 18 (.bool (decide (p=0))) rfl (by rw[ah3]<;>rfl) (zf rfl (fun h1=>?_) (fun h1=>?_))
   ·
    have h1:=of_decide_eq_true h1;refine yv ?_;exact ⟨by rw[KQ h h1,hf];rfl,aP LW E ak⟩
   ·
    have h1:=of_decide_eq_false h1;refine zn ?_;refine zy 25 rfl (fun h2=>?_) (fun h2=>?_)
    ·
     have h2:=of_decide_eq_true h2;refine zo ?_;refine zf rfl (fun h3=>?_) (fun h3=>?_)
     ·
      have h3:=of_decide_eq_true h3;refine zp ?_;replace HF:=HF.on E;replace LW:=LW.step E ak;replace E:=aC (No) w2;refine yy (ι:=Nat×Nat) (fun (g,q)=>[(1,.int .i64 ((q:Nat):Int)),(7,.bool false),(6,.float .f64 g)]) (fun (g,q) w'=>Ext (No) w2 w'∧(g=IG f p∧q=exQ p∧q<23∧nZ neg g)) ?_ ?_
      ·
       have M3:=aC (No) w2;have dD:=aN (No) w2;refine zf rfl (fun h4=>?_) (fun h4=>?_)
       ·
        have h4:=of_decide_eq_true h4;have hmt:=vuz hs (j:=(p-22).toNat) om;refine zr ?_;refine l8 ?_;refine yp ?_;refine za rfl (gy (j:=(p-22).toNat) FT Rl rfl rfl om om (Dq ?_));refine za rfl (P7 (.inr (.inr (.inl rfl))) rfl rfl hmt.1 (zo ?_));exact yn (ji (aR .mul f (oD (p-22).toNat)),22) ⟨rfl,rfl,rfl,trivial⟩ ⟨M3.step E dD,(VQ h4).symm,(VT h4).symm,de,hmt.2⟩
       ·
        have h4:=of_decide_eq_false h4;refine aK ?_;exact yn (f,p.toNat) ⟨congrArg (fun z:Int=>some (Value.int .i64 z)) om,rfl,rfl,trivial⟩ ⟨M3.step E dD,(VR h4).symm,(VU h4).symm,om,hs⟩
      ·
       rintro ⟨g,q⟩ w4 ⟨M3,⟨hg,hq,aB5,hgs⟩⟩;replace E:=E.trans M3;replace HF:=HF.on E;replace LW:=LW.step E ak;replace E:=aC (No) w4;have hx:=VP (neg:=neg) h h1 ⟨h2,h3⟩ rfl;rw[←hf,←hg,←hq] at hx;refine ye ?_;refine za rfl (vtk rfl rfl (aK ?_));refine zy 40 rfl (fun h5=>?_) (fun h5=>?_)
       ·
        rw[h5,Bool.true_or,if_pos rfl] at hx;refine yv ?_;exact ⟨by rw[hx];rfl,aP LW E ak⟩
       ·
        rw[h5,Bool.false_or] at hx;refine aK ?_;refine bZ rfl (ypv rfl rfl (zr ?_));refine zf rfl (fun h6=>?_) (fun h6=>?_)
        ·
         rw[h6,if_pos rfl] at hx;refine zn ?_;exact ⟨by rw[hx];rfl,aP LW E ak⟩
        ·
         rw[h6,if_neg de] at hx;have hmt:=vuz hgs aB5;refine zn ?_;refine l8 ?_;refine za rfl (gy (j:=q) FT Rl rfl rfl rfl aB5 (za rfl (jo gX rfl rfl (by rw[Nat.mul_one];exact (HF.on E).here.2.ten.cells _ _ (sW aB5)) (za rfl (P7 (.inr (.inr (.inl rfl))) rfl rfl hmt.1 (yk ?_))))));exact ⟨by rw[hx];rfl,aP LW E ak⟩
     ·
      have h3:=of_decide_eq_false h3;refine zn ?_;refine yu 53 rfl (by rw[decide_eq_false om]<;>rfl) (vp ?_);exact ⟨by rw[l9 h h1 om om,hf];rfl,aP LW E ak⟩
    ·
     have h2:=of_decide_eq_false h2;refine vp ?_;refine vf 53 rfl (by rw[decide_eq_true om]<;>rfl) (zo ?_);refine zf rfl (fun h3=>?_) (fun h3=>?_)
     ·
      have h3:=of_decide_eq_true h3;have hmt:=KR hs (j:=(-p).toNat) om;refine zr ?_;refine l8 ?_;refine zsz ?_;refine za rfl (gy (j:=(-p).toNat) FT Rl rfl rfl om om (Dq ?_));refine za rfl (P7 (.inr (.inr (.inr rfl))) rfl rfl hmt.1 (yk ?_));exact ⟨by rw[Dr h h1 om ⟨om,h3⟩,hf];rfl,aP LW E ak⟩
     ·
      have h3:=of_decide_eq_false h3;refine zn ?_;exact ⟨by rw[l9 h h1 om om,hf];rfl,aP LW E ak⟩
end
end Go.Proofs.YtmnmebdmpigddaaGreatDoor
namespace Go.Proofs.YtmnmebdmpigddaaGreatDoor
open Go.RowKit Proofs.Tryz
section
attribute [local irreducible] OW RS CW EW
theorem vm {P Q:Prop} (k:Q) (h:(Unit→Q)→P:=by
 intro zK;refine za rfl (qyk u9 rfl ?_);exact zK ()):P:=h fun _=>k
theorem VW {P:Prop} (h:P:=by
 refine qh rfl (yv ?_);refine ks (rs:=[.tmp 2,.tmp 3,.tmp 4]) (vs:=[_,_,_]) rfl ⟨rfl,rfl,rfl,trivial⟩ ?_;exact xq):P:=h
theorem ah6 {s:ByteArray} {j u:Nat} (h:(s.data[j]?).map (·.toNat)=some u):j<s.size∧u<256:=by
 obtain ⟨c,h1,rfl⟩:=Option.map_eq_some_iff.1 h;have h2:j<s.data.size:=by
  rcases Nat.lt_or_ge j s.data.size with h3 | h3
  · exact h3
  · rw[Array.getElem?_eq_none h3] at h1;cases h1
 exact ⟨h2,c.toNat_lt⟩
theorem gq {p q:Int} (h:p≠q):(p==q)=false:=beq_eq_false_iff_ne.2 h
theorem aQ9 {u:Nat} (h:u<256):IntKind.u8.wrap (BitVec.ofInt IntKind.u8.bits ((u:Nat):Int) ||| BitVec.ofInt IntKind.u8.bits 32).toNat=((u ||| 32:Nat):Int):=by
 have key:∀v:Fin 256,IntKind.u8.wrap (BitVec.ofInt IntKind.u8.bits (v.val:Int) ||| BitVec.ofInt IntKind.u8.bits 32).toNat=((v.val ||| 32:Nat):Int):=by decide +kernel
 exact key ⟨u,h⟩
section
variable (w:World)
theorem OL (u:Nat) (hu:u<256):Calls prog 180 #[.int .u8 ((u:Nat):Int)] w (aF w (.int .u8 ((u ||| 32:Nat):Int))):=by
 refine zd func180 rfl ntmps180 rfl ?_;have LW:=aC (No) w;have ak:=aN (No) w;have E:=aC (No) w;refine yk ?_;refine za rfl (oJ rfl rfl (aQ9 hu) ?_);exact Qg
theorem pR (s:ByteArray) (u:Nat) (hu:(s.data[0]?).map (·.toNat)=some u) (hd:48≤u∧u≤57):Calls prog 215 #[.string s] w (aF w (.tuple #[.float .f64 0,.int .i64 0,.bool false])):=by
 have hs:=(ah6 hu).1;refine zd func215 rfl ntmps215 rfl ?_;have LW:=aC (No) w;have ak:=aN (No) w;have E:=aC (No) w;refine yv ?_;refine vm ?_;refine zr ?_;refine zw 10 rfl (by rw[gq om]) (ou ?_);refine za rfl (qd (j:=0) (b:=u) u9 rfl rfl rfl hu (yN ?_));refine zw 13 rfl (by rw[gq om]<;>rfl) (zo ?_);refine zw 13 rfl (by rw[gq om]<;>rfl) (yv ?_);refine zw 16 rfl (by rw[gq om]<;>rfl) (zo ?_);refine zw 16 rfl (by rw[gq om]<;>rfl) (zv ?_);refine zw 19 rfl (by rw[gq om]<;>rfl) (zo ?_);refine zw 19 rfl (by rw[gq om]<;>rfl) (ye ?_);refine qh rfl (aK ?_);refine qh rfl (aK ?_);exact VW
end
end
def dY (neg:Bool):Nat:=if neg then 9223372036854775808 else 0
theorem xS (neg:Bool):dY neg<18446744073709551616:=by cases neg<;>decide
theorem vgk {x:Nat} (h:x≤9218868437227405312) (neg:Bool):nZ neg (dY neg ||| x):=by
 cases neg with
 | false=>
  rw[show dY false=0 from rfl,Nat.zero_or];refine ⟨?_,?_,om⟩
  · unfold aW rg;exact decide_eq_false om
  · unfold ng;exact beq_eq_false_iff_ne.2 om
 | true=>
  have e:dY true ||| x=9223372036854775808+x:=by
   have h1:x<2^63:=by show x<9223372036854775808;omega
   have h2:=Nat.two_pow_add_eq_or_of_lt h1 1;have h3:(2^63*1:Nat)=9223372036854775808:=de;rw[h3] at h2;exact h2.symm
  rw[e];refine ⟨?_,?_,om⟩
  · unfold aW rg;exact decide_eq_false om
  · unfold ng;exact beq_iff_eq.2 om
theorem V7 (m k:Nat) (neg:Bool):Zq (dY neg ||| m) k=dY neg ||| Zq m k:=by
 have e1:dY neg &&& 4503599627370496=0:=by cases neg<;>decide +kernel
 have e2:dY neg &&& 9223372036854775808=dY neg:=by cases neg<;>decide +kernel
 have e3:dY neg &&& 18442240474082181119=dY neg:=by cases neg<;>decide +kernel
 unfold Zq CY CZ lU Zp;rw[Nat.and_or_distrib_right,Nat.and_or_distrib_right,Nat.and_or_distrib_right,e1,e2,e3,Nat.zero_or];split
 · rfl
 · split
   · rw[Nat.or_assoc]
   · rw[Nat.or_assoc]
theorem V8 {d j:Nat} (neg:Bool) (hd:0<d∧d<18446744073709551616) (hj:3≤j∧j≤658):nZ neg (vbx d j (dY neg)):=by
 unfold vbx;split
 · exact vgk (Nat.zero_le _) neg
 · unfold mF;rw[V7];exact vgk (Iz (Oy (aAx (aQ6 hd hj)))) neg
theorem V9 (m e:Nat) (neg:Bool):sZ m e neg=dY neg ||| ((m &&& 4503599627370495) ||| e*4503599627370496):=by
 unfold sZ;cases neg with
 | false=>rw[if_neg de,show dY false=0 from rfl,Nat.zero_or]
 | true=>rw[if_pos rfl,Nat.or_comm];rfl
theorem Wd {m e:Nat} {neg:Bool} (h:e≤2046∨(m=0∧e=2047)):nZ neg (sZ m e neg):=by
 rw[V9];refine vgk ?_ neg;rcases h with h | ⟨rfl,rfl⟩
 · have h1:m &&& 4503599627370495<2^52:=by
    have:m &&& 4503599627370495≤4503599627370495:=Nat.and_le_right;show m &&& 4503599627370495<4503599627370496;omega
   have h2:=Nat.two_pow_add_eq_or_of_lt h1 e;have h3:(2^52:Nat)=4503599627370496:=de;rw[h3] at h1 h2;rw[Nat.or_comm,Nat.mul_comm e,←h2];omega
 · decide +kernel
def aB9 (r:Nat×Nat×Bool):Prop:=r.2.1≤2046∨(r.1=0∧r.2.1=2047)
theorem DI {t:Dec} {e:Int} (h:e≤1023):aB9 (vqq t e):=by
 unfold vqq;split
 · split
   · exact .inr ⟨rfl,rfl⟩
   · exact .inl (by show (e+1+1023).toNat≤2046;omega)
 · refine .inl ?_;show (if KU t &&& 4503599627370496=0 then 0 else (e+1023).toNat)≤2046
   split<;>omega
theorem Wh (t:Dec) (e:Int):aB9 (tu t e):=by
 unfold tu;split
 · exact DI de
 · split
   · exact .inr ⟨rfl,rfl⟩
   · exact DI om
theorem Wi (t:Dec):aB9 (xP t):=by
 unfold xP;split
 · exact .inl (Nat.zero_le _)
 · split
   · exact .inr ⟨rfl,rfl⟩
   · split
     · exact .inl (Nat.zero_le _)
     · exact Wh _ _
theorem OQ (t:Dec):nZ t.neg (KV t):=Wd (Wi t)
theorem aBq (s:ByteArray) (a:KW):(xu s a).t.neg=a.t.neg:=by
 unfold xu;exact xQ
theorem ahq {s:ByteArray} {f p E q:Nat} (neg:Bool) (hs:Nm s f p E q):(stA s f neg).t.neg=neg:=by
 have h:=jh (done:=OP s) (step:=xu s) (fun a=>StN s f p E q a∧a.t.neg=neg) (fun t=>E-t.i) (fun t h hd=>?_) ⟨vgz neg hs,rfl⟩
 · exact h.1.2
 · obtain ⟨h1,h2⟩:=vgq hs h.1 hd;refine ⟨⟨h1,by rw[aBq];exact h.2⟩,?_⟩;rw[aQz];omega
theorem Wj {s:ByteArray} {f p E q:Nat} (neg:Bool) (hs:Nm s f p E q):(fq s f neg).neg=neg:=ahq neg hs
def dL:Value:=.iface 183 (.int .i64 1)
noncomputable def iA (s:ByteArray) (f:Nat):Nat:=(OO s f).m
noncomputable def OT (s:ByteArray) (f:Nat):Bool:=(OO s f).tr
noncomputable def DJ (s:ByteArray) (f:Nat):Nat:=(DC s f+348).toNat
noncomputable def atF (s:ByteArray) (f:Nat) (neg:Bool):Nat:=vbx (iA s f) (DJ s f) (dY neg)
noncomputable def atG (s:ByteArray) (f:Nat) (neg:Bool):Nat:=vbx (iA s f+1) (DJ s f) (dY neg)
noncomputable def atL (s:ByteArray) (f:Nat) (neg:Bool):Bool:=gk (atF s f neg) (atG s f neg)==some .eq
noncomputable def iI (s:ByteArray) (f:Nat) (neg:Bool):Nat:=
 if iA s f=0 then dY neg ||| 0
 else if 310<DC s f then dY neg ||| 9218868437227405312
 else if DC s f< -345 then dY neg ||| 0
 else if OT s f=false∧(xO (iA s f) (DC s f) neg).2=true then (xO (iA s f) (DC s f) neg).1
 else if OT s f=false∨atL s f neg=true then atF s f neg
 else KV (fq s f neg)
noncomputable def mE (s:ByteArray) (f:Nat) (neg:Bool):Value:=
 if iA s f=0 then .nilIface
 else if 310<DC s f then dL
 else if DC s f< -345 then .nilIface
 else if OT s f=false∧(xO (iA s f) (DC s f) neg).2=true then .nilIface
 else if OT s f=false∨atL s f neg=true then vbz (iA s f) (DJ s f) (dY neg)
 else if (xP (fq s f neg)).2.2 then dL else .nilIface
theorem Wm (m k:Nat):vpz m k= .nilIface∨vpz m k=dL:=by
 unfold vpz;split
 · exact .inl rfl
 · split
   · exact .inr rfl
   · exact .inl rfl
theorem Wn (d j g:Nat):vbz d j g= .nilIface∨vbz d j g=dL:=by
 unfold vbz;split
 · exact .inl rfl
 · exact Wm _ _
theorem aBz (s:ByteArray) (f:Nat) (neg:Bool):mE s f neg= .nilIface∨mE s f neg=dL:=by
 unfold mE;split
 · exact .inl rfl
 · split
   · exact .inr rfl
   · split
     · exact .inl rfl
     · split
       · exact .inl rfl
       · split
         · exact Wn _ _ _
         · split
           · exact .inr rfl
           · exact .inl rfl
theorem Wo {s:ByteArray} {f p E q:Nat} (hs:Nm s f p E q):iA s f<10000000000000000000:=by
 obtain ⟨h,_⟩:=Dz hs;have h1:10^(OO s f).nm≤10^19:=Nat.pow_le_pow_right de h.hn;have h2:=h.hm;unfold iA;have h3:(10:Nat)^19=10000000000000000000:=de;rw[h3] at h1;omega
theorem ahz {s:ByteArray} {f p E q:Nat} (neg:Bool) (hs:Nm s f p E q):nZ neg (iI s f neg):=by
 have hm:=Wo hs;unfold iI;split
 · exact vgk (Nat.zero_le _) neg
 · rename_i h0
   split
   · exact vgk (Nat.le_refl _) neg
   · rename_i h1
     split
     · exact vgk (Nat.zero_le _) neg
     · rename_i h2
       split
       · rename_i h3;exact ah5 h3.2
       · split
         · exact V8 neg ⟨om,om⟩ (by unfold DJ;omega)
         · have:=OQ (fq s f neg);rwa [Wj neg hs] at this
section
attribute [local irreducible] OW RS CW EW
theorem DK {P Q:Prop} (k:Q) (h:(Unit→Q)→P:=by
 intro zK;refine zi ?_;refine bZ rfl (qd (j:=x.i) (b:=aL s x.i) u9 rfl rfl rfl (vr h7) ?_);exact zK ()):P:=h fun _=>k
theorem yik {P Q:Prop} (k:Q) (h:(Unit→Q)→P:=by
 intro zK;refine zn ?_;refine vm ?_;refine zi ?_;exact zK ()):P:=h fun _=>k
theorem zxv {P Q:Prop} (k:Q) (h:(Unit→Q)→P:=by
 intro zK;refine zo ?_;refine yw ?_;refine zi ?_;exact zK ()):P:=h fun _=>k
theorem qtk {P Q:Prop} (k:Q) (h:(Unit→Q)→P:=by
 intro zK;refine za rfl (qd (j:=0) (b:=aL s 0) u9 rfl rfl rfl (vr om) ?_);exact zK ()):P:=h fun _=>k
theorem zyz {P Q:Prop} (k:Q) (h:(Unit→Q)→P:=by
 intro zK;refine za rfl (JD u4 rfl rfl (zr ?_));exact zK ()):P:=h fun _=>k
theorem Wp {P:Prop} (h:P:=by
 exact yn () ⟨rfl,rfl,rfl,rfl,rfl,rfl,rfl,rfl,rfl,trivial⟩ ⟨M1.step E dn,trivial⟩):P:=h
theorem Wq {P:Prop} (h:P:=by
 exact yn t ⟨rfl,rfl,rfl,rfl,rfl,rfl,rfl,rfl,rfl,rfl,rfl,rfl,rfl,rfl,rfl,rfl,rfl,trivial⟩ ⟨M6.step E iw,hu⟩):P:=h
theorem Ws {P:Prop} (h:P:=by
 exact yn () ⟨rfl,rfl,rfl,rfl,rfl,rfl,rfl,rfl,rfl,rfl,rfl,rfl,rfl,trivial⟩ ⟨M3.step E dD,trivial⟩):P:=h
theorem ar7 {P:Prop} (h:P:=by
 rcases hx2 with ⟨h9,h10,h11⟩ | ⟨h9,h10⟩
 · rw[if_neg h11,if_neg h10,if_neg h11,←h9,Int.mul_one]
 · rcases h10 with h10 | h10
   · rw[if_neg om,if_pos h10,if_neg om,←h9,Int.mul_one]
   · rw[if_pos h10,if_pos h10,←h9,Int.mul_neg,Int.mul_one]):P:=h
theorem ar8 {P:Prop} (h:P:=by
 intro w;refine zd func180 rfl ntmps180 rfl ?_;have LW:=aC (No) w;have ak:=aN (No) w;have E:=aC (No) w;refine yk ?_;refine za rfl (oJ (z:=101) rfl rfl kr (ye ?_));refine ks (rs:=[.tmp 2]) (vs:=[.int .u8 101]) rfl ⟨rfl,trivial⟩ ?_;exact xq):P:=h
theorem ar9 {P:Prop} (h:P:=by
 by_cases hm0:t.m=0
 ·
  refine zw 241 rfl (by rw[hm0];rfl) (aoq ?_);refine zez ?_;have e2:DC s f=0:=by unfold DC;rw[←ht,if_neg (fun h=>h hm0)]
  refine ks (rs:=[.tmp 2,.tmp 3,.tmp 4,.tmp 5,.tmp 6,.tmp 7,.tmp 8]) (vs:=[_,_,_,_,_,_,_]) rfl ⟨rfl,rfl,rfl,rfl,rfl,rfl,rfl,trivial⟩ ?_;exact ⟨by rw[e1,e2,e3];rfl,aP LW E ak⟩
 ·
  refine qm 241 rfl (aQj om) (ye ?_);refine za rfl (jn rfl rfl (yt om) (aoq ?_));refine zez ?_;have e2:DC s f=rdP s f-(t.nm:Int):=by unfold DC;rw[←ht,if_pos hm0]
  refine ks (rs:=[.tmp 2,.tmp 3,.tmp 4,.tmp 5,.tmp 6,.tmp 7,.tmp 8]) (vs:=[_,_,_,_,_,_,_]) rfl ⟨rfl,rfl,rfl,rfl,rfl,rfl,rfl,trivial⟩ ?_;exact ⟨by rw[e1,e2,e3,←hP];rfl,aP LW E ak⟩):P:=h
theorem aR0 {P:Prop} (h:P:=by
 refine za rfl (je rfl rfl (yt om) (yv ?_));refine zf rfl (fun h5=>?_) (fun h5=>?_)
 ·
  have h5:t.nm<19:=by have h5:=of_decide_eq_true h5;omega
  have hm18:=aZ8 hm h5;have hstep:kq s t= { t with i:=t.i+1,bN:=true,nd:=t.nd+1,nm:=t.nm+1,m:=t.m*10+(aL s t.i-48) }:=by unfold kq;rw[if_neg gN,if_neg hnz,if_pos h5]
  rw[hstep] at hkeep hu2;refine ye ?_;refine za rfl (xw rfl rfl (wrap_u64 om) (zp ?_));refine za rfl (jn rfl rfl (qex om) (za rfl (gf u25 u5 rfl (wrap_u64 om) (za rfl (je rfl rfl (wrap_u64 om) (zn ?_))))));refine za rfl (je rfl rfl (yt om) (ye ?_));refine qh rfl (zn ?_);refine za rfl (je rfl rfl (yt om) (zi ?_));refine qf 2 (.int .u64 ((t.m*10+(aL s t.i-48):Nat):Int)) rfl ((by congr 1;omega:(.int .u64 (((t.m:Int)*10)+(((aL s t.i:Nat):Int)-48)):Value)=_)) ?_;exact zx ({ t with i:=t.i+1,bN:=true,nd:=t.nd+1,nm:=t.nm+1,m:=t.m*10+(aL s t.i-48) }) (by show Z-(t.i+1)<Z-t.i;omega) ⟨rfl,rfl,rfl,rfl,rfl,rfl,rfl,rfl,rfl,rfl,rfl,rfl,rfl,rfl,rfl,rfl,rfl,trivial⟩ ⟨M8.step E xU,hkeep,hu2⟩
 ·
  have h5:¬t.nm<19:=by have h5:=of_decide_eq_false h5;omega
  have hstep:kq s t= { t with i:=t.i+1,bN:=true,nd:=t.nd+1,tr:=t.tr || decide (aL s t.i≠48) }:=by unfold kq;rw[if_neg gN,if_neg hnz,if_neg h5]
  rw[hstep] at hkeep hu2;refine zo ?_;refine zf rfl (fun h6=>?_) (fun h6=>?_)
  ·
   have h6:aL s t.i≠48:=fun e=>absurd h6 (by rw[e];decide);refine zn ?_;refine qh rfl (zn ?_);refine za rfl (je rfl rfl (yt om) (zi ?_));refine qf 5 (.bool (t.tr || decide (aL s t.i≠48))) rfl ((by rw[decide_eq_true h6,Bool.or_true]:(.bool true:Value)=_)) ?_;exact zx ({ t with i:=t.i+1,bN:=true,nd:=t.nd+1,tr:=t.tr || decide (aL s t.i≠48) }) (by show Z-(t.i+1)<Z-t.i;omega) ⟨rfl,rfl,rfl,rfl,rfl,rfl,rfl,rfl,rfl,rfl,rfl,rfl,rfl,rfl,rfl,rfl,rfl,trivial⟩ ⟨M8.step E xU,hkeep,hu2⟩
  ·
   have h6:aL s t.i=48:=by
    rcases Nat.decEq (aL s t.i) 48 with h7 | h7
    · rw[bne_iff_ne.2 om] at h6;cases h6
    · exact h7
   refine zr ?_;refine qh rfl (zn ?_);refine za rfl (je rfl rfl (yt om) (zi ?_));refine qf 5 (.bool (t.tr || decide (aL s t.i≠48))) rfl ((by rw[decide_eq_false (fun h=>h h6),Bool.or_false]:(.bool t.tr:Value)=_)) ?_;exact zx ({ t with i:=t.i+1,bN:=true,nd:=t.nd+1,tr:=t.tr || decide (aL s t.i≠48) }) (by show Z-(t.i+1)<Z-t.i;omega) ⟨rfl,rfl,rfl,rfl,rfl,rfl,rfl,rfl,rfl,rfl,rfl,rfl,rfl,rfl,rfl,rfl,rfl,trivial⟩ ⟨M8.step E xU,hkeep,hu2⟩):P:=h
theorem aBx {u:Nat} (h:(48≤u∧u≤57)∨u=46∨u=101∨u=0):(u ||| 32)≠120:=by
 rcases h with h | rfl | rfl | rfl
 · have key:∀v:Fin 58,48≤v.val→(v.val ||| 32)≠120:=de;exact key ⟨u,om⟩ h.1
 · decide
 · decide
 · decide
theorem aZ8 {m n:Nat} (h:m<10^n) (hn:n<19):m<1000000000000000000:=by
 have h1:10^n≤10^18:=Nat.pow_le_pow_right de om;have h2:(10:Nat)^18=1000000000000000000:=de;omega
theorem Nm.next {s:ByteArray} {f p E q:Nat} (h:Nm s f p E q) (h1:f+1<s.size):(48≤aL s (f+1)∧aL s (f+1)≤57)∨aL s (f+1)=46∨aL s (f+1)=101∨aL s (f+1)=0:=by
 have hf:=h.fp;have hp:=h.pE;rcases Nat.lt_or_ge (f+1) E with h2 | h2
 · rcases h.at_ (i:=f+1) om h2 with h3 | h3
   · exact .inl h3.2
   · exact .inr (.inl h3.2)
 · have e:E=f+1:=om;rw[←e];exact .inr (.inr (.inl (h.exp om).1))
theorem Nm.first {s:ByteArray} {f p E q:Nat} (h:Nm s f p E q):48≤aL s f∧aL s f≤57:=h.aQq f (Nat.le_refl _) h.fp
theorem Nm.size {s:ByteArray} {f p E q:Nat} (h:Nm s f p E q):f<s.size:=by have:=h.fp;have:=h.pE;have:=h.hE;omega
theorem aQj {m:Nat} (h:m≠0):((.bool (((m:Nat):Int) !=0)):Value)= .bool true:=by rw[bne_iff_ne.2 om]
def dO (s:ByteArray) (f:Nat) (neg:Bool):Prop:=(neg=false∧f=0)∨(neg=true∧f=1∧aL s 0=45)
theorem dO.neg {s:ByteArray} {f:Nat} {neg:Bool} (h:dO s f neg) (hn:neg=true):f=1∧aL s 0=45:=by
 rcases h with h | h
 · rw[h.1] at hn;cases hn
 · exact h.2
theorem dO.pos {s:ByteArray} {f:Nat} {neg:Bool} (h:dO s f neg) (hn:¬neg=true):f=0:=by
 rcases h with h | h
 · exact h.2
 · exact absurd h.1 hn
theorem Wt:Gives 180 #[.int .u8 101] (.int .u8 101):=by
 exact ar8
section
variable (w:World)
theorem OU (s:ByteArray) (f:Nat) (neg:Bool) {p Z q:Nat} (hsg:dO s f neg) (hs:Nm s f p Z q) (hl:s.size<100000):Calls prog 216 #[.string s] w (aF w (.tuple #[.int .u64 ((iA s f:Nat):Int),.int .i64 (DC s f),.bool neg,.bool (OT s f),.bool false,.int .i64 (s.size:Int),.bool true])):=by
 have hfs:f<s.size:=hs.size;have hfd:=hs.first;refine zd func216 rfl ntmps216 rfl ?_;have LW:=aC (No) w;have ak:=aN (No) w;have E:=aC (No) w;refine yv ?_;refine zM 4 (zv ?_);refine vm ?_;refine zr ?_;refine zw 24 rfl (by rw[decide_eq_false om]<;>rfl) (yk ?_);refine qtk ?_;refine zi ?_;replace LW:=LW.step E ak;replace E:=aC (No) w;refine yy (ι:=Unit) (fun _=>[(0,.string s),(2,.int .u64 0),(3,.int .i64 0),(4,.bool neg),(5,.bool false),(6,.bool false),(7,.int .i64 ((f:Nat):Int)),(8,.bool false),(9,.bool false)]) (fun _ w'=>Ext (No) w w'∧(True)) ?_ ?_
 ·
  have M1:=aC (No) w;have dn:=aN (No) w;refine zp ?_;by_cases hneg:neg=true
  ·
   obtain ⟨hf1,h45⟩:=hsg.neg hneg;refine zw 28 rfl (by rw[h45];rfl) (zp ?_);refine qm 32 rfl (by rw[h45];rfl) (ye ?_);refine za rfl (je (z:=1) rfl rfl kr (zp ?_));refine qf 4 (.bool neg) rfl ((by rw[hneg]:(.bool true:Value)=_)) (qf 7 (.int .i64 ((f:Nat):Int)) rfl ((by rw[hf1];rfl:(.int .i64 1:Value)=_)) ?_);exact Wp
  ·
   have hf0:=hsg.pos hneg;rw[hf0] at hfd;refine zw 28 rfl (by rw[gq om]<;>rfl) (zp ?_);refine zw 32 rfl (by rw[gq om]<;>rfl) (zr ?_);refine qf 4 (.bool neg) rfl ((by rw[Bool.eq_false_iff.2 hneg]:(.bool false:Value)=_)) (qf 7 (.int .i64 ((f:Nat):Int)) rfl ((by rw[hf0];rfl:(.int .i64 0:Value)=_)) ?_);exact Wp
 ·
  rintro _ w2 ⟨M1,_⟩;replace E:=E.trans M1;replace LW:=LW.step E ak;replace E:=aC (No) w2;refine ou ?_;replace LW:=LW.step E ak;replace E:=aC (No) w2;refine yy (ι:=Unit) (fun _=>[(0,.string s),(2,.int .u64 0),(3,.int .i64 0),(4,.bool neg),(5,.bool false),(6,.bool false),(7,.int .i64 ((f:Nat):Int)),(8,.bool false),(9,.bool false),(10,.int .u64 10),(11,.int .i64 19),(12,.int .u8 101),(54,.bool false)]) (fun _ w'=>Ext (No) w2 w'∧(True)) ?_ ?_
  ·
   have M3:=aC (No) w2;have dD:=aN (No) w2;refine zi ?_;refine yw ?_;refine aK ?_;refine vm ?_;refine zi ?_;refine zy 41 rfl (fun hl=>?_) (fun hl=>?_)
   ·
    have hl:=of_decide_eq_true hl;refine zi ?_;refine bZ rfl (qd (j:=f) (b:=aL s f) u9 rfl rfl rfl (vr hfs) (zr ?_));refine zy 47 rfl (fun hz=>?_) (fun hz=>?_)
    ·
     refine zi ?_;refine bZ rfl (je rfl rfl (yt om) (bZ rfl (qd (j:=f+1) (b:=aL s (f+1)) u9 rfl rfl rfl (vr om) (zb Ru (OL _ (aL s (f+1)) (II _ _)) E fun w5 E=>?_))));have hx:=aBx (hs.next om);refine zr ?_;refine qf 54 (.bool false) rfl ((by rw[gq om]:(.bool (((aL s (f+1) ||| 32:Nat):Int)==120):Value)=_)) ?_;exact Ws
    ·
     refine yk ?_;exact Ws
   ·
    refine kh ?_;exact Ws
  ·
   rintro _ w4 ⟨M3,_⟩;replace E:=E.trans M3;replace LW:=LW.step E ak;replace E:=aC (No) w4;refine aKj ?_;refine zN (zi ?_);replace LW:=LW.step E ak;replace E:=aC (No) w4;refine yy (ι:=Qn) (fun t=>[(0,.string s),(2,.int .u64 (t.m:Int)),(3,.int .i64 0),(4,.bool neg),(5,.bool t.tr),(6,.bool false),(7,.int .i64 (t.i:Int)),(8,.bool false),(9,.bool false),(10,.int .u64 10),(11,.int .i64 19),(12,.int .u8 101),(13,.bool t.dot),(14,.bool t.bN),(15,.int .i64 (t.nd:Int)),(16,.int .i64 (t.nm:Int)),(17,.int .i64 t.dp)]) (fun t w'=>Ext (No) w4 w'∧(t=OO s f)) ?_ ?_
   ·
    have M6:=aC (No) w4;have iw:=aN (No) w4;refine aK ?_;replace M6:=M6.step E iw;replace E:=aC (No) w4;refine qw (ι:=Qn) (fun t=>[(0,.string s),(2,.int .u64 (t.m:Int)),(3,.int .i64 0),(4,.bool neg),(5,.bool t.tr),(6,.bool false),(7,.int .i64 (t.i:Int)),(8,.bool false),(9,.bool false),(10,.int .u64 10),(11,.int .i64 19),(12,.int .u8 101),(13,.bool t.dot),(14,.bool t.bN),(15,.int .i64 (t.nd:Int)),(16,.int .i64 (t.nm:Int)),(17,.int .i64 t.dp)]) (fun t w'=>Ext (No) w4 w'∧(RdN s f p Z q t∧va (KS s) (kq s) t=OO s f)) (fun t=>Z-t.i) (⟨f,0,0,0,0,false,false,false⟩) ⟨rfl,rfl,rfl,rfl,rfl,rfl,rfl,rfl,rfl,rfl,rfl,rfl,rfl,rfl,rfl,rfl,rfl,trivial⟩ ⟨Ext.refl _ _,tF hs,rfl⟩ ?_;rintro t w9 ⟨M8,⟨hI,hu⟩⟩;have xU:=aN (No) w4;replace E:=E.trans M8;replace M6:=M6.step E iw;replace E:=aC (No) w9;have hsE:=hs.hE;have hiE:=hI.iE;have hti:=hI.hi;have hnd:=hI.hd;have hdp:=hI.hp;have hm:=hI.hm;have hfi:=hI.fi;refine zn ?_;refine vm ?_;refine zr ?_;refine zf rfl (fun h1=>?_) (fun h1=>?_)
    ·
     have h1:t.i<s.size:=by have h1:=of_decide_eq_true h1;omega
     refine qc ?_;refine za rfl (qd (j:=t.i) (b:=aL s t.i) u9 rfl rfl rfl (vr h1) ?_);by_cases hE2:t.i<Z
     ·
      have hdone:=Dy hs hI hE2;have hkeep:=(tC hs hI hdone).1;have hu2:=hu;rw[vo hdone] at hu2;have hc:=hs.at_ hfi hE2;have hb:=II s t.i;refine yk ?_;refine zyz ?_;refine zw 66 rfl (by rw[gq om];rfl) ?_;by_cases gN:aL s t.i=46
      ·
       have hstep:kq s t= { t with i:=t.i+1,dot:=true,dp:=t.nd }:=by unfold kq;rw[if_pos gN]
       have IU:t.dot=false:=by
        rcases hc with ⟨_,h3⟩ | ⟨h3,_⟩
        · omega
        · cases h4:t.dot with
          | false=>rfl
          | true=>have:=hI.dt h4;omega
       rw[hstep] at hkeep hu2;refine zn ?_;refine zyz ?_;refine qm 70 rfl (by rw[gN];rfl) (zp ?_);refine zw 74 rfl (by rw[IU]<;>rfl) (xf ?_);refine qh rfl (jl ?_);exact zx ({ t with i:=t.i+1,dot:=true,dp:=t.nd }) (by show Z-(t.i+1)<Z-t.i;omega) ⟨rfl,rfl,rfl,rfl,rfl,rfl,rfl,rfl,rfl,rfl,rfl,rfl,rfl,rfl,rfl,rfl,rfl,trivial⟩ ⟨M8.step E xU,hkeep,hu2⟩
      ·
       have hc:48≤aL s t.i∧aL s t.i≤57:=om;refine zn ?_;refine zyz ?_;refine zw 70 rfl (by rw[gq om];rfl) (zo ?_);refine vf 79 rfl (by rw[decide_eq_true om]<;>rfl) (zr ?_);refine zyz ?_;refine qm 76 rfl (by rw[decide_eq_true om];rfl) (vp ?_);refine zy 86 rfl (fun h3=>?_) (fun h3=>?_)
       ·
        have h3:aL s t.i=48:=by have h3:=eq_of_beq h3;omega
        refine zn ?_;refine zf rfl (fun h4=>?_) (fun h4=>?_)
        ·
         have h4:t.nd=0:=by have h4:=eq_of_beq h4;omega
         have hstep:kq s t= { t with i:=t.i+1,bN:=true,dp:=t.dp-1 }:=by unfold kq;rw[if_neg gN,if_pos ⟨h3,h4⟩]
         rw[hstep] at hkeep hu2;refine zr ?_;refine yp ?_;refine zn ?_;refine qh rfl (jl ?_);exact zx ({ t with i:=t.i+1,bN:=true,dp:=t.dp-1 }) (by show Z-(t.i+1)<Z-t.i;omega) ⟨rfl,rfl,rfl,rfl,rfl,rfl,rfl,rfl,rfl,rfl,rfl,rfl,rfl,rfl,rfl,rfl,rfl,trivial⟩ ⟨M8.step E xU,hkeep,hu2⟩
        ·
         have hnz:¬(aL s t.i=48∧t.nd=0):=fun h=>absurd h4 (by rw[h.2];decide);refine zn ?_;exact aR0
       ·
        have hnz:¬(aL s t.i=48∧t.nd=0):=fun h=>absurd h3 (by rw[h.1];decide);refine yv ?_;exact aR0
     ·
      have hdone:KS s t=true:=by
       have e:t.i=Z:=om;unfold KS;rw[Bool.or_eq_true];right
       rw[e,(hs.exp om).1];rfl
      have hb:aL s t.i=101:=by
       have e:t.i=Z:=om;rw[e];exact (hs.exp om).1
      rw[qe hdone] at hu;refine yk ?_;refine zyz ?_;refine zw 66 rfl (by rw[hb];rfl) (zn ?_);refine zyz ?_;refine zw 70 rfl (by rw[hb];rfl) (zo ?_);refine vf 79 rfl (by rw[hb];rfl) (zr ?_);refine zyz ?_;refine zw 76 rfl (by rw[hb];rfl) (xf ?_);refine za rfl (JD u4 rfl rfl (yk ?_));refine qh rfl (zr ?_);exact Wq
    ·
     have h1:¬t.i<s.size:=by have h1:=of_decide_eq_false h1;omega
     have hdone:KS s t=true:=by
      unfold KS;rw[decide_eq_true om];rfl
     rw[qe hdone] at hu;refine ye ?_;exact Wq
   ·
    rintro t w7 ⟨M6,ht⟩;replace E:=E.trans M6;replace LW:=LW.step E ak;replace E:=aC (No) w7;obtain ⟨hR,Wu⟩:=Dz hs;rw[←ht] at hR Wu;have e1:iA s f=t.m:=by unfold iA;rw[ht]
    have e3:OT s f=t.tr:=by unfold OT;rw[ht]
    have hfp:=hs.fp;have hpE:=hs.pE;have hsE:=hs.hE;have hdig:t.bN=true:=hR.dg om;have hnd:=hR.hd;have hdp:=hR.hp;have hnm:=hR.hn;have hti:=hR.hi;refine zp ?_;refine zw 140 rfl (by rw[hdig];rfl) (zv ?_);replace LW:=LW.step E ak;replace E:=aC (No) w7;refine yy (ι:=Int) (fun d2=>[(0,.string s),(2,.int .u64 (t.m:Int)),(3,.int .i64 0),(4,.bool neg),(5,.bool t.tr),(6,.bool false),(7,.int .i64 (t.i:Int)),(8,.bool false),(9,.bool false),(10,.int .u64 10),(12,.int .u8 101),(16,.int .i64 (t.nm:Int)),(17,.int .i64 d2)]) (fun d2 w'=>Ext (No) w7 w'∧(d2=(if t.dot then t.dp else (t.nd:Int)))) ?_ ?_
    ·
     have M10:=aC (No) w7;have ahx:=aN (No) w7;by_cases hdd:t.dot=true
     ·
      refine zw 142 rfl (by rw[hdd];rfl) (zi ?_);exact yn t.dp ⟨rfl,rfl,rfl,rfl,rfl,rfl,rfl,rfl,rfl,rfl,rfl,rfl,rfl,trivial⟩ ⟨M10.step E ahx,by rw[hdd,if_pos rfl]⟩
     ·
      refine qm 142 rfl (by rw[Bool.eq_false_iff.2 hdd];rfl) (zn ?_);exact yn (t.nd:Int) ⟨rfl,rfl,rfl,rfl,rfl,rfl,rfl,rfl,rfl,rfl,rfl,rfl,rfl,trivial⟩ ⟨M10.step E ahx,by rw[if_neg hdd]⟩
    ·
     rintro d2 dV ⟨M10,hd2⟩;replace E:=E.trans M10;replace LW:=LW.step E ak;replace E:=aC (No) dV;have hb2:-100000≤d2∧d2≤100000:=by rw[hd2];split<;>omega
     have hP0:rdP s f=d2+oF s Z:=by unfold rdP;rw[←ht,Wu,hd2]
     by_cases he:Z<s.size
     ·
      obtain ⟨hx1,hx2,hx3,hx4⟩:=hs.exp he;have hb:aL s t.i=101:=by rw[Wu];exact hx1
      refine xf ?_;refine vm ?_;refine zi ?_;refine vf 154 rfl (by rw[decide_eq_true om]<;>rfl) (zi ?_);refine bZ rfl (qd (j:=t.i) (b:=aL s t.i) u9 rfl rfl rfl (vr om) (zk 157 (.int .u8 101) rfl (by rw[hb];rfl) (zb Ru (Wt _) E fun dB E=>(qc ?_))));refine yw ?_;refine yk ?_;refine vm ?_;refine zr ?_;refine zw 167 rfl (by rw[decide_eq_false om]<;>rfl) (ja ?_);refine za rfl (qd (j:=t.i+1) (b:=aL s (t.i+1)) u9 rfl rfl rfl (vr om) ?_);rw[←Wu] at hx2;refine zi ?_;replace LW:=LW.step E ak;replace E:=aC (No) dB;refine yy (ι:=Nat×Int) (fun (k,g)=>[(0,.string s),(2,.int .u64 (t.m:Int)),(3,.int .i64 0),(4,.bool neg),(5,.bool t.tr),(6,.bool false),(7,.int .i64 ((k:Nat):Int)),(8,.bool false),(9,.bool false),(16,.int .i64 (t.nm:Int)),(17,.int .i64 d2),(19,.int .i64 g)]) (fun (k,g) w'=>Ext (No) dB w'∧(k=q∧g=(if aL s (t.i+1)=45 then -1 else 1))) ?_ ?_
      ·
       have pG:=aC (No) dB;have pI:=aN (No) dB;refine zp ?_;by_cases c43:aL s (t.i+1)=43
       ·
        refine qm 171 rfl (by rw[c43];rfl) (zr ?_);refine yw ?_;refine zr ?_;exact yn (t.i+2,1) ⟨rfl,rfl,rfl,rfl,rfl,rfl,rfl,rfl,rfl,rfl,rfl,rfl,trivial⟩ ⟨pG.step E pI,om,by rw[if_neg om]⟩
       ·
        refine zw 171 rfl (by rw[gq om]<;>rfl) (zp ?_);by_cases c45:aL s (t.i+1)=45
        ·
         refine qm 175 rfl (by rw[c45];rfl) (ye ?_);refine yw ?_;refine zp ?_;exact yn (t.i+2,-1) ⟨rfl,rfl,rfl,rfl,rfl,rfl,rfl,rfl,rfl,rfl,rfl,rfl,trivial⟩ ⟨pG.step E pI,om,by rw[if_pos c45]⟩
        ·
         refine zw 175 rfl (by rw[gq om]<;>rfl) (zr ?_);exact yn (t.i+1,1) ⟨rfl,rfl,rfl,rfl,rfl,rfl,rfl,rfl,rfl,rfl,rfl,rfl,trivial⟩ ⟨pG.step E pI,om,by rw[if_neg c45]⟩
      ·
       rintro ⟨k,g⟩ cZ ⟨pG,⟨hk,hg⟩⟩;replace E:=E.trans pG;replace LW:=LW.step E ak;replace E:=aC (No) cZ;subst hk;have OV:=hx4 k (Nat.le_refl _) hx3;refine yik ?_;refine yu 183 rfl (by rw[decide_eq_false om]<;>rfl) (zi ?_);refine bZ rfl (qd (j:=k) (b:=aL s k) u9 rfl rfl rfl (vr hx3) (zr ?_));refine yu 189 rfl (by rw[decide_eq_false om]<;>rfl) (zi ?_);refine bZ rfl (qd (j:=k) (b:=aL s k) u9 rfl rfl rfl (vr hx3) (ye ?_));refine zw 194 rfl (by rw[decide_eq_false om]<;>rfl) (qc ?_);replace LW:=LW.step E ak;replace E:=aC (No) cZ;refine yy (ι:=V5) (fun x=>[(0,.string s),(2,.int .u64 (t.m:Int)),(3,.int .i64 0),(4,.bool neg),(5,.bool t.tr),(6,.bool false),(7,.int .i64 (x.i:Int)),(8,.bool false),(9,.bool false),(16,.int .i64 (t.nm:Int)),(17,.int .i64 d2),(19,.int .i64 g),(20,.int .i64 (x.e:Int))]) (fun x w'=>Ext (No) cZ w'∧(x=exA s k)) ?_ ?_
       ·
        have Qr:=aC (No) cZ;have IV:=aN (No) cZ;refine aK ?_;replace Qr:=Qr.step E IV;replace E:=aC (No) cZ;refine qw (ι:=V5) (fun x=>[(0,.string s),(2,.int .u64 (t.m:Int)),(3,.int .i64 0),(4,.bool neg),(5,.bool t.tr),(6,.bool false),(7,.int .i64 (x.i:Int)),(8,.bool false),(9,.bool false),(16,.int .i64 (t.nm:Int)),(17,.int .i64 d2),(19,.int .i64 g),(20,.int .i64 (x.e:Int))]) (fun x w'=>Ext (No) cZ w'∧(ExI s k x∧va (Fj s) (Qq s) x=exA s k)) (fun x=>s.size-x.i) (⟨k,0⟩) ⟨rfl,rfl,rfl,rfl,rfl,rfl,rfl,rfl,rfl,rfl,rfl,rfl,rfl,trivial⟩ ⟨Ext.refl _ _,⟨⟨Nat.le_refl _,Nat.le_of_lt hx3⟩,by show 0<100000;decide⟩,rfl⟩ ?_;rintro x rT ⟨M17,⟨hI,hu⟩⟩;have aR1:=aN (No) cZ;replace E:=E.trans M17;replace Qr:=Qr.step E IV;replace E:=aC (No) rT;have hhi:=hI.hi;have hhe:=hI.he;refine yik ?_;refine zy 199 rfl (fun h7=>?_) (fun h7=>?_)
        ·
         have h7:x.i<s.size:=by have h7:=of_decide_eq_true h7;omega
         have hc:=hx4 x.i hhi.1 h7;have hdone:Fj s x=false:=by unfold Fj;rw[decide_eq_false om,vvk hc];rfl
         have hkeep:=(mq hI hdone).1;rw[vo hdone] at hu;refine DK ?_;refine zi ?_;refine vf 204 rfl (by rw[decide_eq_true om]<;>rfl) (DK ?_);refine zr ?_;refine vf 210 rfl (by rw[decide_eq_true om]<;>rfl) (yN ?_);refine za rfl (qd (j:=x.i) (b:=aL s x.i) u9 rfl rfl rfl (vr h7) (zr ?_));refine zw 222 rfl (by rw[gq om]<;>rfl) (qc ?_);refine zf rfl (fun h8=>?_) (fun h8=>?_)
         ·
          have h8:x.e<10000:=by have h8:=of_decide_eq_true h8;omega
          have hstep:Qq s x= ⟨x.i+1,x.e*10+(aL s x.i-48)⟩:=by unfold Qq;rw[if_pos h8]
          rw[hstep] at hkeep hu;refine zi ?_;refine qsx ?_;refine zi ?_;refine za rfl (qd (j:=x.i) (b:=aL s x.i) u9 rfl rfl rfl (vr h7) (qtv ?_));refine yp ?_;refine zxv ?_;refine qf 20 (.int .i64 ((x.e*10+(aL s x.i-48):Nat):Int)) rfl ((by congr 1;omega:(.int .i64 ((((x.e:Int)*10)+((aL s x.i:Nat):Int))-48):Value)=_)) ?_;exact zx (⟨x.i+1,x.e*10+(aL s x.i-48)⟩) (by show s.size-(x.i+1)<s.size-x.i;omega) ⟨rfl,rfl,rfl,rfl,rfl,rfl,rfl,rfl,rfl,rfl,rfl,rfl,rfl,trivial⟩ ⟨M17.step E aR1,hkeep,hu⟩
         ·
          have h8:¬x.e<10000:=by have h8:=of_decide_eq_false h8;omega
          have hstep:Qq s x= ⟨x.i+1,x.e⟩:=by unfold Qq;rw[if_neg h8]
          rw[hstep] at hkeep hu;refine jl ?_;exact zx (⟨x.i+1,x.e⟩) (by show s.size-(x.i+1)<s.size-x.i;omega) ⟨rfl,rfl,rfl,rfl,rfl,rfl,rfl,rfl,rfl,rfl,rfl,rfl,rfl,trivial⟩ ⟨M17.step E aR1,hkeep,hu⟩
        ·
         have h7:¬x.i<s.size:=by have h7:=of_decide_eq_false h7;omega
         have hdone:Fj s x=true:=by unfold Fj;rw[decide_eq_true om];rfl
         rw[qe hdone] at hu;refine JN ?_;exact yn x ⟨rfl,rfl,rfl,rfl,rfl,rfl,rfl,rfl,rfl,rfl,rfl,rfl,rfl,trivial⟩ ⟨Qr.step E IV,hu⟩
       ·
        rintro x w16 ⟨Qr,hx⟩;replace E:=E.trans Qr;replace LW:=LW.step E ak;replace E:=aC (No) w16;obtain ⟨hI,hdx⟩:=qdx (s:=s) (q:=k) om;rw[←hx] at hI hdx;have hxi:=V6 hx4 hI hdx;have hxe:=hI.he;have hX:IntKind.i64.wrap ((x.e:Int)*g)=oF s Z:=by
         have e9:oF s Z=(x.e:Int)*g:=by
          unfold oF;rw[if_neg om,←Wu,hg,hx];exact ar7
         have h12:=vbq hs;rw[←e9];exact yt om
        have h12:=vbq hs;refine ye ?_;refine za rfl (xw rfl rfl hX (yw ?_));refine zv ?_;refine yr 7 (.int .i64 (s.size:Int)) rfl (by rw[hxi]<;>rfl) ?_;have hP:d2+oF s Z=rdP s f:=hP0.symm;exact ar9
     ·
      have hz:oF s Z=0:=by unfold oF;rw[if_pos om]
      refine xf ?_;refine vm ?_;refine zi ?_;refine yu 154 rfl (by rw[decide_eq_false om]<;>rfl) (JO ?_);refine yr 7 (.int .i64 (s.size:Int)) rfl (by congr 1;omega) ?_;have hP:d2=rdP s f:=by rw[hP0,hz,Int.add_zero]
      exact ar9
end
theorem Wv {P:Prop} (h:P:=by
 refine yx ?_;intro vs X wq K;exact oN (j:=i) u46 gF rfl rfl rfl h2 ⟨Below.refl _ _,Left.of rfl⟩):P:=h
theorem Ww {P:Prop} (h:P:=by
 have h1:2^k≤2^60:=Nat.pow_le_pow_right de hk;have h2:(2:Nat)^60=1152921504606846976:=de;omega):P:=h
theorem Wx {P:Prop} (h:P:=by
 intro vs X wq K;exact qd (j:=i) (b:=aL c i) u9 rfl rfl rfl (vr om) ⟨Below.refl _ _,Left.of rfl⟩):P:=h
theorem Wy {P:Prop} (h:P:=by
 refine yx ?_;intro vs X wq K;have LE:=K.1;exact yd underlying3 rfl rfl (Ba.drew.aG LE au.nil) (yU hl1 n rfl) ⟨Below.refl _ _,Left.of rfl⟩):P:=h
theorem Wz {P:Prop} (h:P:=by
 refine yx ?_;intro vs X wq K;have LE:=K.1;exact yd u5 rfl rfl (HF.on (E.drew.trans (LE.mono OY))).here.2 (VE hl om) ⟨Below.refl _ _,Left.of rfl⟩):P:=h
theorem vrz {P:Prop} (h:P:=by
 exact ⟨by rw[e];rfl,aP LW E ak⟩):P:=h
theorem WA {d:List Nat} {n:Nat} (h0:n≠0) (h:dg d (n-1)=48):xj d n=xj d (n-1):=by
 obtain ⟨m,rfl⟩:∃m,n=m+1:=⟨n-1,om⟩;rw[Nat.add_sub_cancel] at h ⊢;rw[xj,if_pos h]
theorem OX {d:List Nat} {n:Nat} (h0:n≠0) (h:dg d (n-1)≠48):xj d n=n:=by
 obtain ⟨m,rfl⟩:∃m,n=m+1:=⟨n-1,om⟩;rw[Nat.add_sub_cancel] at h;rw[xj,if_neg h]
theorem IW {b l:List Nat} {i x y:Nat} (hb:b[i]? =some x) (hl:l[i]? =some y):ju (b.drop i) (l.drop i)=if x=y then ju (b.drop (i+1)) (l.drop (i+1)) else decide (x<y):=by
 obtain ⟨h1,h2⟩:=List.getElem?_eq_some_iff.1 hb;obtain ⟨h3,h4⟩:=List.getElem?_eq_some_iff.1 hl;rw[List.drop_eq_getElem_cons h1,List.drop_eq_getElem_cons h3,h2,h4];rfl
theorem DL (b:List Nat) {l:List Nat} {i:Nat} (h:l.length≤i):ju b (l.drop i)=false:=by
 rw[List.drop_eq_nil_of_le h];cases b<;>rfl
theorem pU {b l:List Nat} {i:Nat} (h:b.length≤i) (h2:i<l.length):ju (b.drop i) (l.drop i)=true:=by
 rw[List.drop_eq_nil_of_le h,List.drop_eq_getElem_cons h2];rfl
theorem take_at {d:List Nat} {n i:Nat} (hi:i<n) (hn:n≤d.length):(d.take n)[i]? =some (dg d i):=by
 rw[List.getElem?_take,if_pos hi,KI om]
theorem tH {n k:Nat} (h:n<2^k) (hk:k≤60):n<1152921504606846976:=by
 exact Ww
theorem tJ {n k:Nat} (h:n<10*2^k) (hk:k≤60):n<11529215046068469760:=by
 exact Ww
theorem aR2 {m:Nat} (h:m≠0):((.bool (((m:Nat):Int)==0)):Value)= .bool false:=by rw[beq_eq_false_iff_ne.2 om]
theorem yU {t:Dec} (h:t.d.length=800) (n:Nat) (e:t.nd=n):(yo t)[800]? =some (.int .i64 ((n:Nat):Int)):=e▸aB0 h
theorem xV {t:Dec} (h:t.d.length=800) (p:Int) (e:t.dp=p):(yo t)[801]? =some (.int .i64 p):=e▸aB1 h
theorem aR3 {t:Dec} (h:t.d.length=800) (b:Bool) (e:t.neg=b):(yo t)[802]? =some (.bool b):=e▸ah0 h
theorem aZ9 {t:Dec} (h:t.d.length=800) (b:Bool) (e:t.tr=b):(yo t)[803]? =some (.bool b):=e▸aB2 h
theorem dAt {t:Dec} (h:t.d.length=800) (b j:Nat) (e:dg t.d j=b) (hj:j<800):(yo t)[j]? =some (.int .u8 ((b:Nat):Int)):=e▸VE h hj
theorem yV {t:Dec} (h:t.d.length=800) {j:Nat} (hj:j<804):j<(yo t).size:=by rw[VD h];exact hj
section
variable (w:World)
theorem DN (ga:Nat) (t:Dec) (hl:t.d.length=800) (hn:t.nd≤800) (hB:aB w ga 229 (yo t)) :
 Calls prog 269 #[.pointer (some ⟨ga,0,none⟩)] w fun e w'=>e= .returned (.tuple #[])∧aB w' ga 229 (yo (qrx t))∧Ext (aj [some ga]) w w':=by
 refine zd func269 rfl ntmps269 rfl ?_;have Ba:=hB;have LW:=aC (aj [(some ga)]) w;have ak:=aN (aj [(some ga)]) w;have E:=aC (aj [(some ga)]) w;refine aK ?_;replace LW:=LW.step E ak;replace E:=aC (aj [(some ga)]) w;refine yy (ι:=Unit) (fun _=>[(0,.pointer (some ⟨ga,0,none⟩))]) (fun _ w'=>Ext (aj [(some ga)]) w w'∧aB w' ga 229 (yo { t with nd:=xj t.d t.nd })∧(True)) ?_ ?_
 ·
  have M1:=aC (aj [(some ga)]) w;have dn:=aN (aj [(some ga)]) w;refine aK ?_;replace M1:=M1.step E dn;replace E:=aC (aj [(some ga)]) w;refine qw (ι:=Nat) (fun n=>[(0,.pointer (some ⟨ga,0,none⟩))]) (fun n w'=>Ext (aj [(some ga)]) w w'∧aB w' ga 229 (yo { t with nd:=n })∧(n≤800∧xj t.d n=xj t.d t.nd)) (fun n=>n) t.nd ⟨rfl,trivial⟩ ⟨Ext.refl _ _,(by exact Ba),hn,rfl⟩ ?_;have dP:=(zc Ba.lt);clear Ba;rintro n w4 ⟨M3,Ba,⟨hn8,he⟩⟩;have dD:oK (aj [(some ga)]) (aj [(some ga)]) w:=(aj.grow aj.none_ (fun k e=>Or.inl (aj.head k e)));replace E:=E.trans M3;replace M1:=M1.step E dn;replace E:=aC (aj [(some ga)]) w4;have hl1:({ t with nd:=n }:Dec).d.length=800:=hl;by_cases h0:n=0
  ·
   have e:xj t.d t.nd=n:=by rw[←he,h0];rfl
   refine zi ?_;have OY:∀q9,(aj (kf [])) q9→q9<(World.drew w4).heap.size→(aj [(some ga)]) q9:=fun k h _=>(aj.none_) k h;refine yq (aj [(some ga)]) (aj.grow aj.none_ (zc Ba.lt)) [] [] (xc [Fx.of (.pointer (some ⟨ga,0,none⟩)),
    Fx.of (.pointer (some ⟨ga,0,none⟩)),
    Fx.of (.pointer (some ⟨ga,800,none⟩)),
    Fx.of (.int .i64 ((n:Nat):Int)),
    Fx.of (.bool false),
    Fx.of (.bool false),
    Fx.of undef,
    Fx.of undef,
    Fx.of undef,
    Fx.of undef,
    Fx.of undef,
    Fx.of undef,
    Fx.of undef,
    Fx.of undef,
    Fx.of undef,
    Fx.of undef,
    Fx.of undef,
    Fx.of (.bool false)]) mixed rfl trivial (fun _ h=>by cases h) ?_ ?_
   · refine ⟨arm,arm,arm,?_,?_,arm,arm,arm,arm,arm,arm,arm,arm,arm,arm,arm,arm,arm,trivial⟩
     · exact Wy
     · refine yx ?_;intro vs X wq K;exact uE rfl rfl ⟨Below.refl _ _,Left.of ((by rw[decide_eq_false om]:(.bool (decide (0<((n:Nat):Int))):Value)=_))⟩
   intro vs w5 LE AO AL AF AA;have fu:=Ba;replace Ba:=Ba.drew.aG LE au.nil;replace E:=E.drew.trans (LE.mono OY);obtain ⟨_,e17,k17⟩:=AL.2.2.2.2.2.2.2.2.2.2.2.2.2.2.2.2.2.1;refine vi (τ:=[(0,_),(19,.bool false)]) ⟨rfl,congrArg some e17,trivial⟩ ?_;clear AL AF AA LE AO OY e17 k17 fu;refine zo ?_;replace Ba:aB w5 ga 229 (yo { t with nd:=xj t.d t.nd }):=by rw[e];exact Ba
   exact yn () ⟨rfl,trivial⟩ ⟨M1.step E dn,(by exact Ba),trivial⟩
  ·
   refine zi ?_;have OY:∀q9,(aj (kf [])) q9→q9<(World.drew w4).heap.size→(aj [(some ga)]) q9:=fun k h _=>(aj.none_) k h;refine yq (aj [(some ga)]) (aj.grow aj.none_ (zc Ba.lt)) [] [] (xc [Fx.of (.pointer (some ⟨ga,0,none⟩)),
    Fx.of (.pointer (some ⟨ga,0,none⟩)),
    Fx.of (.pointer (some ⟨ga,800,none⟩)),
    Fx.of (.int .i64 ((n:Nat):Int)),
    Fx.of (.bool true),
    Fx.of (.bool true),
    Fx.of (.pointer (some ⟨ga,0,none⟩)),
    Fx.of (.pointer (some ⟨ga,0,none⟩)),
    Fx.of (.pointer (some ⟨ga,0,none⟩)),
    Fx.of (.pointer (some ⟨ga,800,none⟩)),
    Fx.of (.int .i64 ((n:Nat):Int)),
    Fx.of (.int .i64 (((n:Nat):Int)-1)),
    Fx.of (.pointer (some ⟨ga,0,none⟩)),
    Fx.of (.pointer (some ⟨ga,0,none⟩)),
    Fx.of (.pointer (some ⟨ga,n-1,none⟩)),
    Fx.of (.int .u8 ((dg t.d (n-1):Nat):Int)),
    Fx.of (.bool (((dg t.d (n-1):Nat):Int)==48)),
    Fx.of (.bool (((dg t.d (n-1):Nat):Int)==48))]) mixed rfl trivial (fun _ h=>by cases h) ?_ ?_
   · refine ⟨arm,arm,arm,?_,?_,arm,arm,arm,arm,arm,?_,?_,arm,arm,?_,?_,arm,arm,trivial⟩
     · exact Wy
     · refine yx ?_;intro vs X wq K;exact uE rfl rfl ⟨Below.refl _ _,Left.of ((by rw[decide_eq_true om]:(.bool (decide (0<((n:Nat):Int))):Value)=_))⟩
     · refine yx ?_;intro vs X wq K;have LE:=K.1;exact xt rfl (yd underlying3 rfl rfl (Ba.drew.aG LE au.nil) (yU hl1 n rfl) ⟨Below.refl _ _,Left.of rfl⟩)
     · refine yx ?_;intro vs X wq K;exact xt rfl (jn rfl rfl (yt om) ⟨Below.refl _ _,Left.of rfl⟩)
     · refine yx ?_;intro vs X wq K;exact xt rfl (vt (j:=n-1) fH gF rfl rfl om om ⟨Below.refl _ _,Left.of rfl⟩)
     · refine yx ?_;intro vs X wq K;have LE:=K.1;exact xt rfl (yd u5 rfl rfl (Ba.drew.aG LE au.nil) (dAt hl1 (dg t.d (n-1)) (n-1) rfl om) ⟨Below.refl _ _,Left.of rfl⟩)
   intro vs w6 LE AO AL AF AA;have fu:=Ba;replace Ba:=Ba.drew.aG LE au.nil;replace E:=E.drew.trans (LE.mono OY);obtain ⟨_,e17,k17⟩:=AL.2.2.2.2.2.2.2.2.2.2.2.2.2.2.2.2.2.1;refine vi (τ:=[(0,_),(19,.bool (((dg t.d (n-1):Nat):Int)==48))]) ⟨rfl,congrArg some e17,trivial⟩ ?_;clear AL AF AA LE AO OY e17 k17 fu;refine aK ?_;refine zf rfl (fun hd=>?_) (fun hd=>?_)
   ·
    have hd:dg t.d (n-1)=48:=by have hd:=eq_of_beq hd;omega
    refine zp ?_;refine za rfl (yd underlying3 rfl rfl Ba (yU hl1 (n) rfl) (yp ?_));refine zi ?_;refine zk 24 (.int .i64 ((n-1:Nat):Int)) rfl (by congr 1;omega) (yj (ve JI rfl rfl Ba rfl rfl (yV hl1 (by decide:800<804)) (lV hl1 (n-1)) ?_));intro w7 Bx Ea;replace Ba:aB w7 ga 229 (yo { t with nd:=n-1 }):=Bx;replace E:=E.step1 Ea aj.head;refine zi ?_;exact zx (n-1) om ⟨rfl,trivial⟩ ⟨M3.step E dD,(by exact Ba),om,by rw[←he,WA h0 hd]⟩
   ·
    have hd:dg t.d (n-1)≠48:=fun e=>absurd hd (by rw[e];decide);have e:xj t.d t.nd=n:=by rw[←he,OX h0 hd]
    refine ye ?_;replace Ba:aB w6 ga 229 (yo { t with nd:=xj t.d t.nd }):=by rw[e];exact Ba
    exact yn () ⟨rfl,trivial⟩ ⟨M1.step E dn,(by exact Ba),trivial⟩
 ·
  have dP:=(zc Ba.lt);clear Ba;rintro _ w2 ⟨M1,Ba,_⟩;replace E:=E.trans M1;replace LW:=LW.step E ak;replace E:=aC (aj [(some ga)]) w2;have hl':({ t with nd:=xj t.d t.nd }:Dec).d.length=800:=hl;refine zn ?_;refine za rfl (yd underlying3 rfl rfl Ba (yU hl' (xj t.d t.nd) rfl) (zr ?_));refine zf rfl (fun h1=>?_) (fun h1=>?_)
  ·
   have h1:xj t.d t.nd=0:=by have h1:=eq_of_beq h1;omega
   refine ye ?_;refine yj (ve JI rfl rfl Ba rfl rfl (yV hl' (by decide:801<804)) (vgv hl' 0) ?_);intro w8 Bx Ea;replace Ba:aB w8 ga 229 (yo { t with nd:=xj t.d t.nd,dp:=0 }):=Bx;replace E:=E.step1 Ea aj.head;refine aK ?_;refine ZJ rfl ?_;exact ⟨rfl,by unfold qrx;rw[if_pos h1];exact Ba,(LW.step E ak)⟩
  ·
   have h1:xj t.d t.nd≠0:=fun e=>absurd h1 (by rw[e];decide);refine aK ?_;refine ZJ rfl ?_;exact ⟨rfl,by unfold qrx;rw[if_neg h1];exact Ba,(LW.step E ak)⟩
theorem IX (ga:Nat) (t:Dec) (n:Nat) (c:ByteArray) (l:List Nat) (hl:t.d.length=800) (hn:n≤800) (hc:c.size=l.length) (hcl:∀i,i<l.length→l[i]? =some (aL c i)) (hB:aB w ga 229 (yo t)) :
 Calls prog 277 #[.slice (some ⟨ga,0,none⟩) n 800,.string c] w (aF w (.bool (ju (t.d.take n) l))):=by
 refine zj func277 ntmps277 fun HF LW ak E=>?_;replace HF:=HF.and (Per.blk hB (fun h=>h.elim));refine vp ?_;replace HF:=HF.on E;replace LW:=LW.step E ak;replace E:=aC (No) w;refine qw (ι:=Nat) (fun i=>[(0,.slice (some ⟨ga,0,none⟩) n 800),(1,.string c),(4,.bool false),(5,.int .i64 ((i:Nat):Int))]) (fun i w'=>Ext (No) w w'∧(i≤l.length∧i≤n∧ju ((t.d.take n).drop i) (l.drop i)=ju (t.d.take n) l)) (fun i=>l.length-i) 0 ⟨rfl,rfl,rfl,rfl,trivial⟩ ⟨Ext.refl _ _,Nat.zero_le _,Nat.zero_le _,rfl⟩ ?_;rintro i w2 ⟨M1,⟨hi,hin,he⟩⟩;have dn:=aN (No) w;replace E:=E.trans M1;replace HF:=HF.on E;replace LW:=LW.step E ak;replace E:=aC (No) w2;refine zn ?_;refine vm ?_;refine zr ?_;refine zf rfl (fun h1=>?_) (fun h1=>?_)
 ·
  have h1:i<l.length:=by have h1:=of_decide_eq_true h1;omega
  refine ja ?_;refine zf rfl (fun h2=>?_) (fun h2=>?_)
  ·
   have h2:n≤i:=by have h2:=of_decide_eq_true h2;omega
   have e:ju (t.d.take n) l=true:=by rw[←he,pU (by rw[List.length_take];omega) h1]
   refine ja ?_;exact vrz
  ·
   have h2:i<n:=by have h2:=of_decide_eq_false h2;omega
   have hs:=IW (take_at (d:=t.d) h2 om) (hcl i h1);rw[he] at hs;refine zr ?_;have OY:∀q9,(aj (kf [])) q9→q9<(World.drew w2).heap.size→(No) q9:=fun k h _=>(aj.none_) k h;refine yq (No) aj.none_ [] [] (xc [Fx.of (.slice (some ⟨ga,0,none⟩) n 800),
    Fx.of (.int .i64 ((i:Nat):Int)),
    Fx.of (.pointer (some ⟨ga,i,none⟩)),
    Fx.of (.int .u8 ((dg t.d i:Nat):Int)),
    Fx.of (.string c),
    Fx.of (.int .i64 ((i:Nat):Int)),
    Fx.of (.int .u8 ((aL c i:Nat):Int)),
    Fx.of (.bool (((dg t.d i:Nat):Int) !=((aL c i:Nat):Int)))]) mixed rfl trivial (fun _ h=>by cases h) ?_ ?_
   · refine ⟨arm,arm,?_,?_,arm,arm,?_,arm,trivial⟩
     · exact Wv
     · exact Wz
     · refine yx ?_;exact Wx
   intro vs w3 LE AO AL AF AA;replace E:=E.drew.trans (LE.mono OY);obtain ⟨_,e7,k7⟩:=AL.2.2.2.2.2.2.2.1;refine vi (τ:=[(0,_),(1,_),(4,_),(5,_),(23,.bool (((dg t.d i:Nat):Int) !=((aL c i:Nat):Int)))]) ⟨rfl,rfl,rfl,rfl,congrArg some e7,trivial⟩ ?_;clear AL AF AA LE AO OY e7 k7;refine aK ?_;refine zf rfl (fun h3=>?_) (fun h3=>?_)
   ·
    have h3:dg t.d i≠aL c i:=fun e=>absurd h3 (by rw[e];simp);rw[if_neg h3] at hs;refine aK ?_;have OY:∀q9,(aj (kf [])) q9→q9<(World.drew w3).heap.size→(No) q9:=fun k h _=>(aj.none_) k h;refine yq (No) aj.none_ [] [] (xc [Fx.of (.slice (some ⟨ga,0,none⟩) n 800),
     Fx.of (.int .i64 ((i:Nat):Int)),
     Fx.of (.pointer (some ⟨ga,i,none⟩)),
     Fx.of (.int .u8 ((dg t.d i:Nat):Int)),
     Fx.of (.string c),
     Fx.of (.int .i64 ((i:Nat):Int)),
     Fx.of (.int .u8 ((aL c i:Nat):Int)),
     Fx.of (.bool (decide (dg t.d i<aL c i))),
     Fx.of (.bool (decide (dg t.d i<aL c i)))]) mixed rfl trivial (fun _ h=>by cases h) ?_ ?_
    · refine ⟨arm,arm,?_,?_,arm,arm,?_,?_,arm,trivial⟩
      · exact Wv
      · exact Wz
      · refine yx ?_;exact Wx
      · refine yx ?_;intro vs X wq K;exact QL rfl rfl ⟨Below.refl _ _,Left.of (gr om)⟩
    intro vs w4 LE AO AL AF AA;replace E:=E.drew.trans (LE.mono OY);obtain ⟨_,e8,k8⟩:=AL.2.2.2.2.2.2.2.2.1;refine vi (τ:=[(0,_),(1,_),(4,.bool (decide (dg t.d i<aL c i))),(5,_)]) ⟨rfl,rfl,congrArg some e8,rfl,trivial⟩ ?_;clear AL AF AA LE AO OY e8 k8;refine yk ?_;exact ⟨by rw[hs];rfl,aP LW E ak⟩
   ·
    have h3:dg t.d i=aL c i:=by
     rcases Nat.decEq (dg t.d i) (aL c i) with h | h
     · rw[bne_iff_ne.2 om] at h3;cases h3
     · exact h
    rw[if_pos h3] at hs;refine jl ?_;refine qf 5 (.int .i64 ((i+1:Nat):Int)) rfl (rfl) ?_;exact zx (i+1) om ⟨rfl,rfl,rfl,rfl,trivial⟩ ⟨M1.step E dn,om,om,hs.symm⟩
 ·
  have h1:l.length≤i:=by have h1:=of_decide_eq_false h1;omega
  have e:ju (t.d.take n) l=false:=by rw[←he,DL _ h1]
  refine vp ?_;exact vrz
end
theorem mG {P Q:Prop} (k:Q) (h:(Unit→Q)→P:=by
 intro zK;refine za rfl (yd underlying3 rfl rfl Ba (xV hl t.dp rfl) ?_);exact zK ()):P:=h fun _=>k
theorem mH {P Q:Prop} (k:Q) (h:(Unit→Q)→P:=by
 intro zK;refine za rfl (yd underlying3 rfl rfl Ba (yU hl (t.nd) rfl) ?_);exact zK ()):P:=h fun _=>k
theorem mI {P Q:Prop} (k:Q) (h:(Unit→Q)→P:=by
 intro zK;refine za rfl (gf Rk u5 rfl (wrap_u64 om) ?_);exact zK ()):P:=h fun _=>k
theorem mJ {P Q:Prop} (k:Q) (h:(Unit→Q)→P:=by
 intro zK;refine zkv ?_;refine zr ?_;refine qf 6 (.int .u64 ((M*10:Nat):Int)) rfl (rfl) ?_;exact zK ()):P:=h fun _=>k
theorem yxv {P Q:Prop} (k:Q) (h:(Unit→Q)→P:=by
 intro zK;refine yj (ve gF rfl rfl Ba rfl rfl (yV hlx om) (ar4 hlx om) ?_);exact zK ()):P:=h fun _=>k
theorem mK {P Q:Prop} (k:Q) (h:(Unit→Q)→P:=by
 intro zK;refine TW ?_;refine za rfl (gf u5 Rk rfl (qex om) (zi ?_));exact zK ()):P:=h fun _=>k
theorem aBj (k:Nat) (hk:k≤60):IntKind.u64.wrap (((1:Nat):Int)*2^(min ((k:Nat):Int).toNat IntKind.u64.bits))=((2^k:Nat):Int):=by
 rw[Zl 1 k om,Nat.one_mul];have h1:2^k≤2^60:=Nat.pow_le_pow_right de hk;have h2:(2:Nat)^60=1152921504606846976:=de;rw[Nat.mod_eq_of_lt om]
theorem WB (n k:Nat) (hn:n<18446744073709551616) (hk:k≤60):IntKind.u64.wrap (BitVec.ofInt IntKind.u64.bits (n:Int) &&& BitVec.ofInt IntKind.u64.bits ((2^k-1:Nat):Int)).toNat=((n%2^k:Nat):Int):=by
 have h1:2^k≤2^60:=Nat.pow_le_pow_right de hk;have h2:(2:Nat)^60=1152921504606846976:=de;rw[xp hn om,Nat.and_two_pow_sub_one_eq_mod]
theorem KY (n k Q:Nat) (hk:k≤60) (h:Q=n/2^k):((n:Nat):Int).fdiv (2^(min ((k:Nat):Int).toNat IntKind.u64.bits))=((Q:Nat):Int):=by
 rw[h];exact xv n k om
theorem WC (n k M:Nat) (hn:n<18446744073709551616) (hk:k≤60) (h:M=n%2^k):IntKind.u64.wrap (BitVec.ofInt IntKind.u64.bits (n:Int) &&& BitVec.ofInt IntKind.u64.bits ((2^k-1:Nat):Int)).toNat=((M:Nat):Int):=by
 rw[h];exact WB n k hn hk
theorem IY (m:Nat):(((m:Nat):Int)==0)=decide (m=0):=by
 exact Vv
theorem ahj {t:Dec} {k:Nat} {s:eu} (h1:s.n/2^k=0) (h2:s.r<t.nd):yov t k s=false:=decide_eq_false (fun h=>h.elim (fun h=>h h1) (fun h=>absurd h (Nat.not_le.2 h2)))
theorem aC0 {t:Dec} {k:Nat} {s:eu} (h:VI t k s):s.r≤t.nd+k+1:=by
 rcases h.far with h1 | h1
 · omega
 · have h2:10^(s.r-t.nd)<10^(k+1):=by
    exact VB
   have:=(Nat.pow_lt_pow_iff_right (a:=10) de).1 h2;omega
section
variable (w:World)
theorem tK (ga k:Nat) (t:Dec) (hk:1≤k∧k≤60) (ht:aY t) (h0:0<t.nd) (hdp:-20000000≤t.dp∧t.dp≤20000000) (hB:aB w ga 229 (yo t)) :
 Calls prog 271 #[.pointer (some ⟨ga,0,none⟩),.int .u64 ((k:Nat):Int)] w fun e w'=>e= .returned (.tuple #[])∧aB w' ga 229 (yo (go t k))∧Ext (aj [some ga]) w w':=by
 have hl:=ht.len;have hnd:=ht.hn;have hp2:0<2^k:=Nat.two_pow_pos k;refine zd func271 rfl ntmps271 rfl ?_;have Ba:=hB;have LW:=aC (aj [(some ga)]) w;have ak:=aN (aj [(some ga)]) w;have E:=aC (aj [(some ga)]) w;refine nW ?_;replace LW:=LW.step E ak;replace E:=aC (aj [(some ga)]) w;refine yy (ι:=eu) (fun s=>[(0,.pointer (some ⟨ga,0,none⟩)),(1,.int .u64 ((k:Nat):Int)),(4,.int .i64 (s.r:Int)),(5,.int .i64 0),(6,.int .u64 (s.n:Int))]) (fun s w'=>Ext (aj [(some ga)]) w w'∧aB w' ga 229 (yo t)∧(s=iy t k)) ?_ ?_
 ·
  have M1:=aC (aj [(some ga)]) w;have dn:=aN (aj [(some ga)]) w;refine aK ?_;replace M1:=M1.step E dn;replace E:=aC (aj [(some ga)]) w;refine qw (ι:=eu) (fun s=>[(0,.pointer (some ⟨ga,0,none⟩)),(1,.int .u64 ((k:Nat):Int)),(4,.int .i64 (s.r:Int)),(5,.int .i64 0),(6,.int .u64 (s.n:Int))]) (fun s w'=>Ext (aj [(some ga)]) w w'∧aB w' ga 229 (yo t)∧(Oz t k s∧va (yov t k) (vsv t) s=rsA t k)) (fun s=>t.nd-s.r) (⟨0,0⟩) ⟨rfl,rfl,rfl,rfl,rfl,trivial⟩ ⟨Ext.refl _ _,(by exact Ba),sG t k,rfl⟩ ?_;have dP:=(zc Ba.lt);clear Ba;rintro s w4 ⟨M3,Ba,⟨hI,hu⟩⟩;have dD:oK (aj [(some ga)]) (aj [(some ga)]) w:=(aj.grow aj.none_ (fun k e=>Or.inl (aj.head k e)));replace E:=E.trans M3;replace M1:=M1.step E dn;replace E:=aC (aj [(some ga)]) w4;have aC1:=tJ hI.hn hk.2;obtain ⟨Q,hQ⟩:∃Q,Q=s.n/2^k:=⟨_,rfl⟩;have hr:=hI.hr;refine zn ?_;refine za rfl (js rfl rfl om (KY s.n k Q om hQ) (zr ?_));refine yr 15 (.bool (decide (Q=0))) rfl (by rw[IY]<;>rfl) (zf rfl (fun h1=>?_) (fun h1=>?_))
  ·
   have h1:Q=0:=of_decide_eq_true h1;rw[hQ] at h1;refine yv ?_;refine mH ?_;refine zr ?_;refine zf rfl (fun h2=>?_) (fun h2=>?_)
   ·
    have h2:t.nd≤s.r:=by have h2:=of_decide_eq_true h2;omega
    have hn0:=hI.pos om;have hdone:yov t k s=true:=decide_eq_true (.inr h2);rw[qe hdone] at hu;have hJ:=lY (k:=k) ht h0;rw[←hu] at hJ;refine zp ?_;refine zw 25 rfl (aR2 om) (zn ?_);replace M1:=M1.step E dn;replace E:=aC (aj [(some ga)]) w4;refine qw (ι:=eu) (fun s=>[(0,.pointer (some ⟨ga,0,none⟩)),(1,.int .u64 ((k:Nat):Int)),(4,.int .i64 (s.r:Int)),(5,.int .i64 0),(6,.int .u64 (s.n:Int))]) (fun s w'=>Ext (aj [(some ga)]) w4 w'∧aB w' ga 229 (yo t)∧(OC t k s∧va (ydv k) qvv s=iy t k)) (fun s=>2^k-s.n) s ⟨rfl,rfl,rfl,rfl,rfl,trivial⟩ ⟨Ext.refl _ _,(by exact Ba),hJ,by rw[hu];rfl⟩ ?_;have dP:=(zc Ba.lt);clear Ba;rintro s w6 ⟨M5,Ba,⟨hJ,hu⟩⟩;have Kh:oK (aj [(some ga)]) (aj [(some ga)]) w4:=(aj.grow aj.none_ (fun k e=>Or.inl (aj.head k e)));replace E:=E.trans M5;replace M1:=M1.step E dn;replace E:=aC (aj [(some ga)]) w6;have aC1:=tJ hJ.1.hn hk.2;have hnp:=hJ.1.pos;have hrr:=hJ.1.far;obtain ⟨Q,hQ⟩:∃Q,Q=s.n/2^k:=⟨_,rfl⟩;refine zn ?_;refine za rfl (js rfl rfl om (KY s.n k Q om hQ) (zr ?_));refine yr 32 (.bool (decide (Q=0))) rfl (by rw[IY]<;>rfl) (zf rfl (fun h3=>?_) (fun h3=>?_))
    ·
     have h3:Q=0:=of_decide_eq_true h3;rw[hQ] at h3;have hdone:ydv k s=false:=decide_eq_false (fun h=>h h3);obtain ⟨hk1,hk2⟩:=lX hJ hdone;have hk3:=tH hk2 hk.2;have hr3:=aC0 hk1.1;have hs:qvv s= ⟨s.r+1,s.n*10⟩:=rfl;rw[vo hdone] at hu;rw[hs] at hk1 hu hr3;have hr3:s.r+1≤900:=by have hr3:s.r+1≤t.nd+k+1:=hr3;omega
     refine zo ?_;refine zkv ?_;refine zn ?_;refine yw ?_;refine zr ?_;refine qf 6 (.int .u64 ((s.n*10:Nat):Int)) rfl (rfl) (qf 4 (.int .i64 ((s.r+1:Nat):Int)) rfl (rfl) ?_);exact zx (⟨s.r+1,s.n*10⟩) (by show 2^k-s.n*10<2^k-s.n;omega) ⟨rfl,rfl,rfl,rfl,rfl,trivial⟩ ⟨M5.step E Kh,(by exact Ba),hk1,hu⟩
    ·
     have h3:¬Q=0:=of_decide_eq_false h3;rw[hQ] at h3;have hdone:ydv k s=true:=decide_eq_true h3;rw[qe hdone] at hu;refine zp ?_;refine qh rfl (zr ?_);exact yn s ⟨rfl,rfl,rfl,rfl,rfl,trivial⟩ ⟨M1.step E dn,(by exact Ba),hu⟩
   ·
    have h2:s.r<t.nd:=by have h2:=of_decide_eq_false h2;omega
    have hdone:=ahj h1 h2;obtain ⟨hk1,hk2,_⟩:=sD ht hI hdone;have hk3:=tH hk2 hk.2;have hg:=ht.bN s.r h2;have hs:vsv t s= ⟨s.r+1,s.n*10+(dg t.d s.r-48)⟩:=rfl;rw[vo hdone] at hu;rw[hs] at hk1 hu;refine yk ?_;refine za rfl (vt (j:=s.r) fH gF rfl rfl om om (za rfl (yd u5 rfl rfl Ba (dAt hl (dg t.d (s.r)) (s.r) rfl om) (mI ?_))));refine zn ?_;refine zkv ?_;refine aK ?_;refine TW ?_;refine zsq ?_;refine zxv ?_;refine qf 6 (.int .u64 ((s.n*10+(dg t.d s.r-48):Nat):Int)) rfl ((by congr 1;omega:(.int .u64 ((((s.n:Int)*10)+((dg t.d (s.r):Nat):Int))-48):Value)=_)) (qf 4 (.int .i64 ((s.r+1:Nat):Int)) rfl (rfl) ?_);exact zx (⟨s.r+1,s.n*10+(dg t.d s.r-48)⟩) (by show t.nd-(s.r+1)<t.nd-s.r;omega) ⟨rfl,rfl,rfl,rfl,rfl,trivial⟩ ⟨M3.step E dD,(by exact Ba),hk1,hu⟩
  ·
   have h1:¬Q=0:=of_decide_eq_false h1;rw[hQ] at h1;have hdone:yov t k s=true:=decide_eq_true (.inl h1);rw[qe hdone] at hu;have hdB:ydv k (rsA t k)=true:=by rw[←hu];exact decide_eq_true h1
   have e:s=iy t k:=by unfold iy;rw[qe hdB];exact hu
   refine ye ?_;exact yn s ⟨rfl,rfl,rfl,rfl,rfl,trivial⟩ ⟨M1.step E dn,(by exact Ba),e⟩
 ·
  have dP:=(zc Ba.lt);clear Ba;rintro s w2 ⟨M1,Ba,hs⟩;replace E:=E.trans M1;replace LW:=LW.step E ak;replace E:=aC (aj [(some ga)]) w2;obtain ⟨hJ,hdB⟩:=yjk k ht h0;have hBr:=ar5 k ht h0;have hBn:=tJ hJ.1.hn hk.2;have hBp:=hJ.1.hr;rw[←hs] at hBr hBn hBp;refine zn ?_;refine mG ?_;refine aK ?_;refine yp ?_;refine yp ?_;refine zi ?_;refine yj (ve JI rfl rfl Ba rfl rfl (yV hl (by decide:801<804)) (vgv hl (t.dp-((s.r:Int)-1))) ?_);intro w7 Bx Ea;replace Ba:aB w7 ga 229 (yo { t with dp:=t.dp-((s.r:Int)-1) }):=Bx;replace E:=E.step1 Ea aj.head;refine zn ?_;refine za rfl (ki rfl rfl om (aBj k om) ?_);have bg5:=tH (n:=2^k-1) (k:=k) om om;refine zsq ?_;refine ye ?_;refine yr 8 (.int .u64 ((2^k-1:Nat):Int)) rfl (by congr 1;omega) ?_;replace LW:=LW.step E ak;replace E:=aC (aj [(some ga)]) w7;refine yy (ι:=RsC) (fun x=>[(0,.pointer (some ⟨ga,0,none⟩)),(1,.int .u64 ((k:Nat):Int)),(5,.int .i64 (x.w:Int)),(6,.int .u64 (x.n:Int)),(8,.int .u64 ((2^k-1:Nat):Int))]) (fun x w'=>Ext (aj [(some ga)]) w7 w'∧aB w' ga 229 (yo { t with d:=x.d,dp:=t.dp-((s.r:Int)-1) })∧(x=VF t k)) ?_ ?_
  ·
   have M8:=aC (aj [(some ga)]) w7;have xU:=aN (aj [(some ga)]) w7;refine aK ?_;replace M8:=M8.step E xU;replace E:=aC (aj [(some ga)]) w7;refine qw (ι:=RsC) (fun x=>[(0,.pointer (some ⟨ga,0,none⟩)),(1,.int .u64 ((k:Nat):Int)),(4,.int .i64 (x.r:Int)),(5,.int .i64 (x.w:Int)),(6,.int .u64 (x.n:Int)),(8,.int .u64 ((2^k-1:Nat):Int))]) (fun x w'=>Ext (aj [(some ga)]) w7 w'∧aB w' ga 229 (yo { t with d:=x.d,dp:=t.dp-((s.r:Int)-1) })∧(OD t k s.r x∧va (qfz t) (vsk k) x=VF t k)) (fun x=>t.nd-x.r) (⟨t.d,s.r,0,s.n⟩) ⟨rfl,rfl,rfl,rfl,rfl,rfl,trivial⟩ ⟨Ext.refl _ _,(by exact Ba),by rw[hs];exact sI ht h0,by rw[hs];rfl⟩ ?_;have dP:=(zc Ba.lt);clear Ba;rintro x dV ⟨M10,Ba,⟨hI,hu⟩⟩;have ahx:oK (aj [(some ga)]) (aj [(some ga)]) w7:=(aj.grow aj.none_ (fun k e=>Or.inl (aj.head k e)));replace E:=E.trans M10;replace M8:=M8.step E xU;replace E:=aC (aj [(some ga)]) dV;have hlx:({ t with d:=x.d,dp:=t.dp-((s.r:Int)-1) }:Dec).d.length=800:=hI.len;have hxw:=hI.hw;have Qf:=hI.hr;have aC1:=tJ hI.hn hk.2;refine zp ?_;refine za rfl (yd underlying3 rfl rfl Ba (yU hlx (t.nd) rfl) (zr ?_));refine zf rfl (fun h1=>?_) (fun h1=>?_)
   ·
    have h1:x.r<t.nd:=by have h1:=of_decide_eq_true h1;omega
    have hdone:qfz t x=false:=decide_eq_false om;have hkeep:=sH ht hk.1 hBp hI hdone;have hg:=ht.bN x.r om;rw[←hI.old x.r om] at hg;obtain ⟨Q,hQ⟩:∃Q,Q=x.n/2^k:=⟨_,rfl⟩;obtain ⟨M,hM⟩:∃M,M=x.n%2^k:=⟨_,rfl⟩;have hq9:=vwv hI.hn;rw[←hQ] at hq9;have aZq:=tH (n:=M) (by rw[hM];exact Nat.mod_lt _ hp2) hk.2;have hst:vsk k x= ⟨x.d.set x.w (Q+48),x.r+1,x.w+1,M*10+(dg x.d x.r-48)⟩:=by rw[hQ,hM];rfl
    rw[vo hdone] at hu;rw[hst] at hkeep hu;refine zv ?_;refine za rfl (vt (j:=x.r) fH gF rfl rfl om om (za rfl (yd u5 rfl rfl Ba (dAt hlx (dg x.d (x.r)) (x.r) rfl om) (mI ?_))));refine zp ?_;refine za rfl (js rfl rfl om (KY x.n k Q om hQ) (zp ?_));refine za rfl (gh rfl rfl (WC x.n k M om hk.2 hM) (yk ?_));refine mK ?_;refine za rfl (vt (j:=x.w) fH gF rfl rfl rfl om (zk 86 (.int .u8 ((Q+48:Nat):Int)) rfl (rfl) (yxv ?_)));intro dB Bx Ea;replace Ba:aB dB ga 229 (yo { t with d:=x.d.set x.w (Q+48),dp:=t.dp-((s.r:Int)-1) }):=Bx;replace E:=E.step1 Ea aj.head;refine zn ?_;refine yw ?_;refine zn ?_;refine zkv ?_;refine aK ?_;refine TW ?_;refine zsq ?_;refine zxv ?_;refine qf 6 (.int .u64 ((M*10+(dg x.d x.r-48):Nat):Int)) rfl ((by congr 1;omega:(.int .u64 (((((M:Nat):Int)*10)+((dg x.d (x.r):Nat):Int))-48):Value)=_)) (qf 4 (.int .i64 ((x.r+1:Nat):Int)) rfl (rfl) (qf 5 (.int .i64 ((x.w+1:Nat):Int)) rfl (rfl) ?_));exact zx (⟨x.d.set x.w (Q+48),x.r+1,x.w+1,M*10+(dg x.d x.r-48)⟩) (by show t.nd-(x.r+1)<t.nd-x.r;omega) ⟨rfl,rfl,rfl,rfl,rfl,rfl,trivial⟩ ⟨M10.step E ahx,(by exact Ba),hkeep,hu⟩
   ·
    have h1:t.nd≤x.r:=by have h1:=of_decide_eq_false h1;omega
    have hdone:qfz t x=true:=decide_eq_true h1;rw[qe hdone] at hu;refine ye ?_;exact yn x ⟨rfl,rfl,rfl,rfl,rfl,trivial⟩ ⟨M8.step E xU,(by exact Ba),hu⟩
  ·
   have dP:=(zc Ba.lt);clear Ba;rintro x w9 ⟨M8,Ba,hx⟩;replace E:=E.trans M8;replace LW:=LW.step E ak;replace E:=aC (aj [(some ga)]) w9;obtain ⟨hC,_⟩:=Dc ht hk.1 h0;refine aK ?_;replace LW:=LW.step E ak;replace E:=aC (aj [(some ga)]) w9;refine yy (ι:=Zr) (fun y=>[(0,.pointer (some ⟨ga,0,none⟩)),(5,.int .i64 (y.w:Int))]) (fun y w'=>Ext (aj [(some ga)]) w9 w'∧aB w' ga 229 (yo { t with d:=y.d,dp:=t.dp-((s.r:Int)-1),tr:=y.tr })∧(y=rsE t k)) ?_ ?_
   ·
    have pG:=aC (aj [(some ga)]) w9;have pI:=aN (aj [(some ga)]) w9;have hl9:({ t with d:=x.d,dp:=t.dp-((s.r:Int)-1) }:Dec).d.length=800:=by show x.d.length=800;rw[hx];exact hC.len
    refine aK ?_;replace pG:=pG.step E pI;replace E:=aC (aj [(some ga)]) w9;refine qw (ι:=Zr×Nat) (fun (y,j)=>[(0,.pointer (some ⟨ga,0,none⟩)),(1,.int .u64 ((k:Nat):Int)),(5,.int .i64 (y.w:Int)),(6,.int .u64 (y.n:Int)),(8,.int .u64 ((2^k-1:Nat):Int))]) (fun (y,j) w'=>Ext (aj [(some ga)]) w9 w'∧aB w' ga 229 (yo { t with d:=y.d,dp:=t.dp-((s.r:Int)-1),tr:=y.tr })∧(IC t k s.r y∧va VG (xg k) y=rsE t k∧(2^j∣y.n∧j≤k+1∧(j=k+1→y.n=0)))) (fun (y,j)=>k+1-j) (⟨x.d,x.w,x.n,t.tr⟩,0) ⟨rfl,rfl,rfl,rfl,rfl,trivial⟩ ⟨Ext.refl _ _,(by exact Ba),by rw[hx,hs];exact sK ht hk.1 h0,by rw[hx];rfl,⟨Nat.one_dvd _,om,fun e=>absurd e om⟩⟩ ?_;have dP:=(zc Ba.lt);clear Ba;rintro ⟨y,j⟩ w16 ⟨Qr,Ba,⟨hI,hu,hj⟩⟩;have IV:oK (aj [(some ga)]) (aj [(some ga)]) w9:=(aj.grow aj.none_ (fun k e=>Or.inl (aj.head k e)));replace E:=E.trans Qr;replace pG:=pG.step E pI;replace E:=aC (aj [(some ga)]) w16;have pq:({ t with d:=y.d,dp:=t.dp-((s.r:Int)-1),tr:=y.tr }:Dec).d.length=800:=hI.len;have hyw:=hI.hw;have aC1:=tJ hI.hn hk.2;refine zp ?_;refine zf rfl (fun h1=>?_) (fun h1=>?_)
    ·
     have h1:0<y.n:=by have h1:=of_decide_eq_true h1;omega
     have hdone:VG y=false:=decide_eq_false om;have hkeep:=sJ hk.1 hI;obtain ⟨hj1,hj2⟩:=Df hj hdone;obtain ⟨Q,hQ⟩:∃Q,Q=y.n/2^k:=⟨_,rfl⟩;obtain ⟨M,hM⟩:∃M,M=y.n%2^k:=⟨_,rfl⟩;have hq9:=vwv hI.hn;rw[←hQ] at hq9;have aZq:=tH (n:=M) (by rw[hM];exact Nat.mod_lt _ hp2) hk.2;rw[vo hdone] at hu;refine zp ?_;refine za rfl (js rfl rfl om (KY y.n k Q om hQ) (zp ?_));refine za rfl (gh rfl rfl (WC y.n k M om hk.2 hM) (zv ?_));refine zf rfl (fun h2=>?_) (fun h2=>?_)
     ·
      have h2:y.w<800:=by have h2:=of_decide_eq_true h2;omega
      have hst:xg k y= ⟨y.d.set y.w (Q+48),y.w+1,M*10,y.tr⟩:=by rw[hQ,hM];unfold xg;rw[if_pos h2]
      rw[hst] at hkeep hu hj2;refine zn ?_;refine mK ?_;refine za rfl (vt (j:=y.w) fH gF rfl rfl rfl om (zk 111 (.int .u8 ((Q+48:Nat):Int)) rfl (rfl) (yj (ve gF rfl rfl Ba rfl rfl (yV pq om) (ar4 pq om) ?_))));intro fI Bx Ea;replace Ba:aB fI ga 229 (yo { t with d:=y.d.set y.w (Q+48),dp:=t.dp-((s.r:Int)-1),tr:=y.tr }):=Bx;replace E:=E.step1 Ea aj.head;refine ye ?_;refine yw ?_;refine zn ?_;refine mJ ?_;refine qf 5 (.int .i64 ((y.w+1:Nat):Int)) rfl (rfl) ?_;exact zx (⟨y.d.set y.w (Q+48),y.w+1,M*10,y.tr⟩,j+1) (by show k+1-(j+1)<k+1-j;omega) ⟨rfl,rfl,rfl,rfl,rfl,trivial⟩ ⟨Qr.step E IV,(by exact Ba),hkeep,hu,hj2⟩
     ·
      have h2:¬y.w<800:=by have h2:=of_decide_eq_false h2;omega
      refine zo ?_;refine zf rfl (fun h3=>?_) (fun h3=>?_)
      ·
       have h3:0<Q:=by have h3:=of_decide_eq_true h3;omega
       have hst:xg k y= ⟨y.d,y.w,M*10,true⟩:=by rw[hQ] at h3;rw[hM];unfold xg;rw[if_neg h2,if_pos h3]
       rw[hst] at hkeep hu hj2;refine ye ?_;refine yj (ve sz4 rfl rfl Ba rfl rfl (yV pq (by decide:803<804)) (IB pq true) ?_);intro rT Bx Ea;replace Ba:aB rT ga 229 (yo { t with d:=y.d,dp:=t.dp-((s.r:Int)-1),tr:=true }):=Bx;replace E:=E.step1 Ea aj.head;refine ye ?_;refine mJ ?_;exact zx (⟨y.d,y.w,M*10,true⟩,j+1) (by show k+1-(j+1)<k+1-j;omega) ⟨rfl,rfl,rfl,rfl,rfl,trivial⟩ ⟨Qr.step E IV,(by exact Ba),hkeep,hu,hj2⟩
      ·
       have h3:¬0<Q:=by have h3:=of_decide_eq_false h3;omega
       have hst:xg k y= ⟨y.d,y.w,M*10,y.tr⟩:=by rw[hQ] at h3;rw[hM];unfold xg;rw[if_neg h2,if_neg h3]
       rw[hst] at hkeep hu hj2;refine ye ?_;refine mJ ?_;exact zx (⟨y.d,y.w,M*10,y.tr⟩,j+1) (by show k+1-(j+1)<k+1-j;omega) ⟨rfl,rfl,rfl,rfl,rfl,trivial⟩ ⟨Qr.step E IV,(by exact Ba),hkeep,hu,hj2⟩
    ·
     have h1:y.n=0:=by have h1:=of_decide_eq_false h1;omega
     have hdone:VG y=true:=decide_eq_true h1;rw[qe hdone] at hu;refine ye ?_;exact yn y ⟨rfl,rfl,trivial⟩ ⟨pG.step E pI,(by exact Ba),hu⟩
   ·
    have dP:=(zc Ba.lt);clear Ba;rintro y cZ ⟨pG,Ba,hy⟩;replace E:=E.trans pG;replace LW:=LW.step E ak;replace E:=aC (aj [(some ga)]) cZ;obtain ⟨hE,_⟩:=Dg ht hk.1 h0;rw[←hy] at hE;have pq:({ t with d:=y.d,dp:=t.dp-((s.r:Int)-1),tr:=y.tr }:Dec).d.length=800:=hE.len;have aZz:({ t with d:=y.d,nd:=y.w,dp:=t.dp-((s.r:Int)-1),tr:=y.tr }:Dec).d.length=800:=hE.len;refine zo ?_;refine yj (ve JI rfl rfl Ba rfl rfl (yV pq (by decide:800<804)) (lV pq y.w) ?_);intro fC Bx Ea;replace Ba:aB fC ga 229 (yo { t with d:=y.d,nd:=y.w,dp:=t.dp-((s.r:Int)-1),tr:=y.tr }):=Bx;replace E:=E.step1 Ea aj.head;refine ye ?_;refine za rfl (ze ao5 rfl ((DN _ ga _ aZz hE.hw Ba).mono ?_));rintro e wL ⟨rfl,hB,hE⟩;refine ⟨_,rfl,?_⟩;replace Ba:=hB;clear hB;replace E:=E.step1 hE aj.head;clear hE;refine aK ?_;refine ZJ rfl ?_;exact ⟨rfl,by unfold go;rw[←hy,←hs];exact Ba,(LW.step E ak)⟩
end
end
end Go.Proofs.YtmnmebdmpigddaaGreatDoor

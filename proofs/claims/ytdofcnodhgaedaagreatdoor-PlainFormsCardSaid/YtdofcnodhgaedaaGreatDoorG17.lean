/- Texts of this claim. -/
import Derived.Test.YtdofcnodhgaedaaGreatDoorG16
import Derived.WalkKit
import Derived.Lib.Mul64
import Derived.Laws.Bits64b
import Derived.BigQuiet
import Derived.Deep.QuietTactic
import Derived.Lib.Hide
import Derived.Laws.Externs
import Derived.Deep.DeepCutAuto
import Derived.Deep.CutBlock
import Derived.Test.YtdofcnodhgaedaaGreatDoorRows
set_option maxRecDepth 100000
set_option maxHeartbeats 20000000
namespace Go.Proofs.YtdofcnodhgaedaaGreatDoor
open Go.RowKit Go.Lib
theorem Vm {P:Prop} (h:P:=by
 have hqp:1≤q:=by omega
 have HDN:=Lib.hid hdn;have HQ2:Hid ((q-1)*3725290298+(r+3725290298)=T):=by have:=Q0.out;show _=_;omega
 clear hdn;by_cases hB:4294967296≤r+3725290298
 · have hend:=ycx bT0 bT1 b00 b01 HQ2.out (by omega) HDN.out (by omega);have BS:=Lib.hid hend;clear hend;go_wp2
   go_meet
   exact ⟨by rw[BS.out],rfl⟩
 · go_wp2
   go_round
   case rel=>exact ⟨q-1,r+3725290298,rfl,rfl,by omega,by omega,by omega,by omega,HQ2,HDN⟩
   case measure=>simp[RowKit.intOf];omega):P:=h
theorem Vn {P:Prop} (h:P:=by
 have hqp:1≤q:=by omega
 have HDN:=Lib.hid hdn;have HQ2:Hid ((q-1)*3725290298+(r+3725290298)=U):=by have:=Q0.out;show _=_;omega
 clear hdn;by_cases hB:4294967296≤r+3725290298
 · have hend:=ycx bU0 bU1 b10 b11 HQ2.out (by omega) HDN.out (by omega);have BS:=Lib.hid hend;clear hend;go_wp2
   go_meet
   exact ⟨by rw[BS.out],rfl⟩
 · go_wp2
   go_round
   case rel=>exact ⟨q-1,r+3725290298,rfl,rfl,by omega,by omega,by omega,by omega,HQ2,HDN⟩
   case measure=>simp[RowKit.intOf];omega):P:=h
namespace vD
theorem maskN (a:Nat) (ha:a<18446744073709551616):bits .and .u64 (a:Int) 4294967295=((a%4294967296:Nat):Int):=by
 have h:=bits_and_u64_nat a 4294967295 ha (by omega);have e:a &&& 4294967295=a%4294967296:=Nat.and_two_pow_sub_one_eq_mod a 32;rw[e] at h;exact h
theorem divN (a:Nat):(a:Int)/4294967296=((a/4294967296:Nat):Int):=by omega
theorem mulN (a b:Nat):(a:Int)*(b:Int)=((a*b:Nat):Int):=(Int.natCast_mul a b).symm
theorem addN (a b:Nat):(a:Int)+(b:Int)=((a+b:Nat):Int):=(Int.natCast_add a b).symm
theorem wrapN (a:Nat) (ha:a<18446744073709551616):IntKind.u64.wrap (a:Int)=(a:Int):=by rw[IntKind.wrap_u64];omega
theorem wrapM (a:Nat):IntKind.u64.wrap (a:Int)=((a%18446744073709551616:Nat):Int):=by rw[IntKind.wrap_u64];omega
end vD
set_option maxHeartbeats 1000000 in
theorem nY (x y:Nat) (hx:x<18446744073709551616) (hy:y<18446744073709551616) (w:World) :
 Calls Tryz.prog 65 #[.int .u64 x,.int .u64 y] w fun e w'=>e= .returned (.tuple #[.int .u64 ((x*y/18446744073709551616:Nat):Int),.int .u64 ((x*y%18446744073709551616:Nat):Int)])∧w=w':=by
 obtain ⟨bd,bt,bw,hhi⟩:=Lib.mul64_hi x y hx hy;have ba:=Lib.half_mul_le (a:=x/4294967296) (b:=y/4294967296) (by omega) (by omega);have bb:=Lib.half_mul_le (a:=x/4294967296) (b:=y%4294967296) (by omega) (by omega);have bc:=Lib.half_mul_le (a:=x%4294967296) (b:=y/4294967296) (by omega) (by omega);have ba':x/4294967296*(y/4294967296)<18446744073709551616:=by omega
 have bb':x/4294967296*(y%4294967296)<18446744073709551616:=by omega
 have bc':x%4294967296*(y/4294967296)<18446744073709551616:=by omega
 have bh1:x/4294967296*(y/4294967296)+(x/4294967296*(y%4294967296)+x%4294967296*(y%4294967296)/4294967296)/4294967296<18446744073709551616:=by omega
 have bh:x/4294967296*(y/4294967296)+(x/4294967296*(y%4294967296)+x%4294967296*(y%4294967296)/4294967296)/4294967296+((x/4294967296*(y%4294967296)+x%4294967296*(y%4294967296)/4294967296)%4294967296+x%4294967296*(y/4294967296))/4294967296<18446744073709551616:=by omega
 go_enter Tryz.func65,Tryz.ntmps65
 go_wp2
 simp only[vD.maskN x hx,vD.maskN y hy,vD.divN,vD.mulN,vD.addN,vD.wrapN _ bd,vD.wrapN _ bb',vD.wrapN _ bt,vD.maskN _ bt,vD.wrapN _ bc',vD.wrapN _ bw,vD.wrapN _ ba',vD.wrapN _ bh1,vD.wrapN _ bh,vD.wrapM (x*y)]
 rw[hhi];go_ret2
 exact ⟨rfl,rfl⟩
theorem G5 (w:World):Calls Tryz.prog 139 #[.int .u64 1000000000000000000] w fun e w'=>e= .returned (.int .i64 4)∧w=w':=by
 go_enter Tryz.func139,Tryz.ntmps139
 go_wp2
 go_ret
 exact ⟨by kernel_rfl,rfl⟩
theorem        nZ (x y : Int) (hx : 0 ≤ x) (hy : 0 ≤ y) (w : World) :
 (callFunc 67 #[.int .u64 x, .int .u64 y, .int .u64 0]).run Tryz.prog w =
  .ok (.value (.tuple #[.int .u64 ((x + y) % 18446744073709551616), .int .u64 ((x + y) / 18446744073709551616)])) w := by
 rw [run_callFunc_extern Tryz.func67 (by kernel_rfl) (by kernel_rfl) (by kernel_rfl) (e := add64Entry) (by kernel_rfl), run_add64 x y 0 hx hy (by omega) (by omega)];simp only [Result.andThen, Int.add_zero]
theorem Yf (hi lo:Int) (h0:0≤hi) (h1:hi<1000000000000000000) (l0:0≤lo) (l1:lo<18446744073709551616) :
 bits .or .u64 (hi*16) (lo/1152921504606846976)=hi*16+lo/1152921504606846976:=by
 obtain ⟨a,rfl⟩:=Int.eq_ofNat_of_zero_le h0;obtain ⟨b,hb⟩:=Int.eq_ofNat_of_zero_le (show 0≤lo/1152921504606846976 by omega);rw[hb];have h:=bits_or_u64_nat (a*16) b (by omega) (by omega);have e:a*16 ||| b=a*16+b:=by
  have:=Nat.shiftLeft_add_eq_or_of_lt (show b<2^4 by omega) a;rw[Nat.shiftLeft_eq] at this;exact this.symm
 rw[e] at h;rw[show ((a:Int)*16)=((a*16:Nat):Int) by omega,h];omega
theorem vE (V:Int) (h0:0≤V) (h1:V<18446744073709551616):bits .and .u64 V 4294967295=V%4294967296:=by
 obtain ⟨a,rfl⟩:=Int.eq_ofNat_of_zero_le h0;rw[vD.maskN a (by omega)];omega
theorem ycx {U V q r:Int} (h0:0≤U) (h1:U<16000000000000000000) (v0:0≤V) (v1:V<4294967296) (hq:q*3725290298+r=U) (hr:0≤r)
 (hQ:(U*4294967296+V)/16000000000000000000≤q) (ht:q*1983905792≤4294967296*r+V):q=(U*4294967296+V)/16000000000000000000:=by omega
theorem zqk {U V q r:Int} (h0:0≤U) (h1:U<16000000000000000000) (v0:0≤V) (v1:V<4294967296) (hq:q*3725290298+r=U)
 (ht:4294967296≤q∨4294967296*r+V<q*1983905792):(U*4294967296+V)/16000000000000000000≤q-1:=by omega
set_option maxHeartbeats 2000000 in
theorem BU (hi lo:Int) (h0:0≤hi) (h1:hi<1000000000000000000) (l0:0≤lo) (l1:lo<18446744073709551616) (w:World) :
 Calls Tryz.prog 103 #[.int .u64 hi,.int .u64 lo,.int .u64 1000000000000000000] w fun e w'=>e= .returned (.tuple #[.int .u64 ((hi*18446744073709551616+lo)/1000000000000000000),.int .u64 ((hi*18446744073709551616+lo)%1000000000000000000)])∧ ∃n,w'=w.drewN n:=by
 by_cases hz:hi=0
 · subst hz;have e1:(0:Int)*18446744073709551616+lo=lo:=by omega
   rw[e1];have hq0:0≤lo/1000000000000000000:=by omega
   have hr0:0≤lo%1000000000000000000:=by omega
   go_enter Tryz.func103,Tryz.ntmps103
   go_wp2
   go_quiet (fail)
   go_wp2
   go_ret2
   exact ⟨by simp,_,rfl⟩
 · have hz2:(hi==0)=false:=by simpa using hz
   have hle:¬1000000000000000000≤hi:=by omega
   clear hz;obtain ⟨U,hU⟩:∃U,U=hi*16+lo/1152921504606846976:=⟨_,rfl⟩;obtain ⟨V,hV⟩:∃V,V=lo*16%18446744073709551616:=⟨_,rfl⟩;obtain ⟨V1,hV1⟩:∃V1,V1=V/4294967296:=⟨_,rfl⟩;obtain ⟨V0,Vk⟩:∃V0,V0=V%4294967296:=⟨_,rfl⟩;obtain ⟨Q,hQ⟩:∃Q,Q=U/3725290298:=⟨_,rfl⟩;have eor:bits .or .u64 (hi*16) (lo/1152921504606846976)=U:=by rw[Yf hi lo h0 h1 l0 l1,hU]
   have ew:IntKind.u64.wrap (lo*16)=V:=by rw[IntKind.wrap_u64,hV]
   have bU0:0≤U:=by omega
   have bU1:U<16000000000000000000:=by omega
   have bV0:0≤V:=by omega
   have bV1:V<18446744073709551616:=by omega
   have b10:0≤V1:=by omega
   have b11:V1<4294967296:=by omega
   have b00:0≤V0:=by omega
   have b01:V0<4294967296:=by omega
   have bQ0:0≤Q:=by omega
   have bQ1:Q≤4294967297:=by omega
   have em:bits .and .u64 V 4294967295=V0:=by rw[vE V bV0 bV1,Vk]
   have ed:V/4294967296=V1:=hV1.symm;have ec:bits .and .u64 16000000000000000000 4294967295=1983905792:=by rw[vE _ (by omega) (by omega)];rfl
   have eq:U/3725290298=Q:=hQ.symm;have HU:=Lib.hid hU;have HV:=Lib.hid hV;have HV1:=Lib.hid hV1;have HV0:=Lib.hid Vk;have HQ:=Lib.hid hQ;have bR0:0≤U-Q*3725290298:=by omega
   have bR1:U-Q*3725290298<3725290298:=by omega
   clear hU hV hV1 Vk hQ;go_enter Tryz.func103,Tryz.ntmps103
   go_upto_block 0 with (go_at_call 139;refine (G5 _).mono ?_;rintro e w' ⟨rfl,rfl⟩)
   clear eq eor ew em ed ec;go_cut [15] (fun v wx=>v= .int .u64 ((U*4294967296+V1)/16000000000000000000)∧w=wx)
   case first=>
    go_wp2_with fail
    go_loop [15,16] (fun qv rv=>∃q r:Int,qv= .int .u64 q∧rv= .int .u64 r∧0≤q∧q≤4294967297∧0≤r∧r<4294967296∧Hid (q*3725290298+r=U)∧Hid ((U*4294967296+V1)/16000000000000000000≤q)) (fun qv _=>(RowKit.intOf qv).toNat)
    case atStart=>exact ⟨Q,U-Q*3725290298,by rw[HQ.out],rfl,bQ0,bQ1,bR0,by omega,by show _=_;omega,by have:=HQ.out;show _≤_;omega⟩
    case round=>
     obtain ⟨q,r,rfl,rfl,hq0,hq1,hr0,hr1,Q0,K6⟩:=hrel;by_cases hA:4294967296≤q
     · have hdn:=zqk bU0 bU1 b10 b11 Q0.out (Or.inl hA);exact Vn
     · by_cases hT:4294967296*r+V1<q*1983905792
       · have hdn:=zqk bU0 bU1 b10 b11 Q0.out (Or.inr hT);exact Vn
       · have hend:=ycx bU0 bU1 b10 b11 Q0.out hr0 K6.out (by omega);have BS:=Lib.hid hend;clear hend;go_wp2
         go_meet
         exact ⟨by rw[BS.out],rfl⟩
   case rest=>
    obtain ⟨rfl,rfl⟩:=hcut;obtain ⟨P,hP⟩:∃P,P=(U*4294967296+V1)/16000000000000000000:=⟨_,rfl⟩;obtain ⟨T,hT⟩:∃T,T=(U*4294967296+V1)%16000000000000000000:=⟨_,rfl⟩;rw[←hP];have bP0:0≤P:=by omega
    have bP1:P<4294967296:=by omega
    have bT0:0≤T:=by omega
    have bT1:T<16000000000000000000:=by omega
    obtain ⟨Q2,hQ2⟩:∃Q2,Q2=T/3725290298:=⟨_,rfl⟩;have cQ0:0≤Q2:=by omega
    have cQ1:Q2≤4294967297:=by omega
    have cR0:0≤T-Q2*3725290298:=by omega
    have cR1:T-Q2*3725290298<3725290298:=by omega
    obtain ⟨X1,hX1⟩:∃X,X=IntKind.u64.wrap (U*4294967296):=⟨_,rfl⟩;obtain ⟨X2,hX2⟩:∃X,X=IntKind.u64.wrap (X1+V1):=⟨_,rfl⟩;obtain ⟨X3,Q5⟩:∃X,X=IntKind.u64.wrap (P*16000000000000000000):=⟨_,rfl⟩;have e4:IntKind.u64.wrap (X2-X3)=T:=by rw[hX2,Q5,hX1];simp only[IntKind.wrap_u64];omega
    have e1:=hX1.symm;have e2:=hX2.symm;have e3:=Q5.symm;have af3:0≤X1∧X1<18446744073709551616:=by rw[hX1];simp only[IntKind.wrap_u64];omega
    have af4:0≤X2∧X2<18446744073709551616:=by rw[hX2];simp only[IntKind.wrap_u64];omega
    have af5:0≤X3∧X3<18446744073709551616:=by rw[Q5];simp only[IntKind.wrap_u64];omega
    have HP:=Lib.hid hP;have HT:=Lib.hid hT;have Yg:=Lib.hid hQ2;clear hP hT hQ2 hX1 hX2 Q5;go_upto_block 2 with fail
    clear e1 e2 e3 e4 af3 af4 af5;go_cut [18] (fun v wx=>v= .int .u64 ((T*4294967296+V0)/16000000000000000000)∧w=wx)
    case first=>
     go_wp2_with fail
     go_loop [18,16] (fun qv rv=>∃q r:Int,qv= .int .u64 q∧rv= .int .u64 r∧0≤q∧q≤4294967297∧0≤r∧r<4294967296∧Hid (q*3725290298+r=T)∧Hid ((T*4294967296+V0)/16000000000000000000≤q)) (fun qv _=>(RowKit.intOf qv).toNat)
     case atStart=>exact ⟨Q2,T-Q2*3725290298,by rw[Yg.out],by rw[Yg.out],cQ0,cQ1,cR0,by omega,by show _=_;omega,by have:=Yg.out;show _≤_;omega⟩
     case round=>
      obtain ⟨q,r,rfl,rfl,hq0,hq1,hr0,hr1,Q0,K6⟩:=hrel;by_cases hA:4294967296≤q
      · have hdn:=zqk bT0 bT1 b00 b01 Q0.out (Or.inl hA);exact Vm
      · by_cases hT:4294967296*r+V0<q*1983905792
        · have hdn:=zqk bT0 bT1 b00 b01 Q0.out (Or.inr hT);exact Vm
        · have hend:=ycx bT0 bT1 b00 b01 Q0.out hr0 K6.out (by omega);have BS:=Lib.hid hend;clear hend;go_wp2
          go_meet
          exact ⟨by rw[BS.out],rfl⟩
    case rest=>
     obtain ⟨rfl,rfl⟩:=hcut;obtain ⟨P2,hP2⟩:∃P,P=(T*4294967296+V0)/16000000000000000000:=⟨_,rfl⟩;obtain ⟨T2,hT2⟩:∃T2,T2=(T*4294967296+V0)%16000000000000000000:=⟨_,rfl⟩;rw[←hP2];have cP0:0≤P2:=by omega
     have cP1:P2<4294967296:=by omega
     have cT0:0≤T2:=by omega
     have cT1:T2<16000000000000000000:=by omega
     obtain ⟨X1,hX1⟩:∃X,X=IntKind.u64.wrap (T*4294967296):=⟨_,rfl⟩;obtain ⟨X2,hX2⟩:∃X,X=IntKind.u64.wrap (X1+V0):=⟨_,rfl⟩;obtain ⟨X3,Q5⟩:∃X,X=IntKind.u64.wrap (P2*16000000000000000000):=⟨_,rfl⟩;have e4:IntKind.u64.wrap (X2-X3)=T2:=by rw[hX2,Q5,hX1];simp only[IntKind.wrap_u64];omega
     have e1:=hX1.symm;have e2:=hX2.symm;have e3:=Q5.symm;have af3:0≤X1∧X1<18446744073709551616:=by rw[hX1];simp only[IntKind.wrap_u64];omega
     have af4:0≤X2∧X2<18446744073709551616:=by rw[hX2];simp only[IntKind.wrap_u64];omega
     have af5:0≤X3∧X3<18446744073709551616:=by rw[Q5];simp only[IntKind.wrap_u64];omega
     have hfin:P*4294967296+P2=(hi*18446744073709551616+lo)/1000000000000000000∧T2/16=(hi*18446744073709551616+lo)%1000000000000000000:=by
      have a1:=HU.out;have a2:=HV.out;have a3:=HV1.out;have a4:=HV0.out;have a5:=HP.out;have a6:=HT.out;omega
     obtain ⟨f1,f2⟩:=hfin;have F1:=Lib.hid f1;have F2:=Lib.hid f2;have bF:P*4294967296+P2<18446744073709551616:=by omega
     clear hP2 hT2 hX1 hX2 Q5 f1 f2;go_wp2
     go_ret2
     exact ⟨by rw[F1.out,F2.out];rfl,0,rfl⟩
end Go.Proofs.YtdofcnodhgaedaaGreatDoor
namespace Go.Proofs.YtdofcnodhgaedaaGreatDoor
open Go.RowKit Proofs.Tryz
section
attribute [local irreducible] OW RS CW EW
theorem jS {P Q:Prop} (k:Q) (h:(Unit→Q)→P:=by
 intro zK;refine gy 20 rfl (by rw[decide_eq_false om]<;>rfl) (yd ?_);exact zK ()):P:=h fun _=>k
theorem yhk {P Q:Prop} (k:Q) (h:(Unit→Q)→P:=by
 intro zK;refine za rfl (vu (z:=0) rfl rfl kr ?_);exact zK ()):P:=h fun _=>k
theorem vG {P Q:Prop} (k:Q) (h:(Unit→Q)→P:=by
 intro zK;refine za rfl (jA (z:=((mg (nr (rg a)):Nat):Int)) u25 (by rw[UJ];rfl) rfl fz (zq ?_));refine zx ?_;refine K7 ?_;exact zK ()):P:=h fun _=>k
theorem jT {P Q:Prop} (k:Q) (h:(Unit→Q)→P:=by
 intro zK;refine kz ?_;refine yl ?_;refine yn 14 rfl (by rw[jy,xb hf]<;>rfl) (yf ?_);exact zK ()):P:=h fun _=>k
theorem zkk {P Q:Prop} (k:Q) (h:(Unit→Q)→P:=by
 intro zK;refine za rfl (jw (z:=0) rfl rfl kr ?_);exact zK ()):P:=h fun _=>k
theorem zuq {P Q:Prop} (k:Q) (h:(Unit→Q)→P:=by
 intro zK;refine za rfl (va (z:=0) rfl rfl de kr ?_);exact zK ()):P:=h fun _=>k
theorem yiz {P Q:Prop} (k:Q) (h:(Unit→Q)→P:=by
 intro zK;refine yu ?_;refine zkv ?_;refine vc ?_;refine za rfl (qbx rfl rfl (zo ?_));exact zK ()):P:=h fun _=>k
theorem K7 {P Q:Prop} (k:Q) (h:(Unit→Q)→P:=by
 intro zK;refine za rfl (ju (z:=(mU (rg a)-53).tmod 31) rfl rfl de rfl (yc ?_));refine za rfl (ju (z:=((k:Nat):Int)) rfl rfl de (by rw[t1,hk]) (zq ?_));refine za rfl (ju (z:=((mg (nr (rg a))%2147483647:Nat):Int)) rfl rfl de (zkx _ 2147483647) (aN ?_));refine za rfl (gl rfl rfl om (Ye 1 k om) (ze 41 (.int .u64 ((2^k:Nat):Int)) rfl (by rw[Nat.one_mul,Nat.mod_eq_of_lt om]<;>rfl) ?_));exact zK ()):P:=h fun _=>k
theorem EO {P:Prop} (h:P:=by
 exact ⟨by rw[og,if_neg (by rw[hn];decide),h,if_pos hi];rfl,aT LW E ak⟩):P:=h
theorem Vo {P:Prop} (h:P:=by
 refine ze 48 (.int .u64 ((JU (rg a):Nat):Int)) rfl (by rw[kl rfl rfl,←hpr]<;>rfl) (za rfl (jd underlying3 u25 rfl (yj om) (za rfl (jw rfl rfl (yj om) (ya ?_)))));exact ⟨by rw[og,if_neg (by rw[xb hf];decide),h,if_neg hni];rfl,aT LW E ak⟩):P:=h
theorem Ca {w w':World} (h:w=w'):Below w.heap.size w w':=by subst h;exact Below.refl _ _
theorem ymx (x y:Nat) (hx:x<18446744073709551616) (hy:y<18446744073709551616) (w:World) :
 Calls prog 65 #[.int .u64 x,.int .u64 y] w fun e w'=>e= .returned (.tuple #[.int .u64 ((x*y/18446744073709551616:Nat):Int),.int .u64 ((x*y%18446744073709551616:Nat):Int)])∧Below w.heap.size w w':=
 (nY x y hx hy w).mono fun _ _ ⟨h1,h2⟩=>⟨h1,Ca h2⟩
theorem Yh (x:Int):(x.tmod 31+31).tmod 31=x%31∧ -31<x.tmod 31∧x.tmod 31<31:=by
 rcases Int.lt_or_le x 0 with h | h
 · obtain ⟨y,rfl⟩:∃y:Int,x= -y:=⟨-x,om⟩;have e:(-y).tmod 31= -(y%31):=by rw[Int.neg_tmod,Int.tmod_eq_emod_of_nonneg om]
   rw[e,Int.tmod_eq_emod_of_nonneg om];omega
 · rw[Int.tmod_eq_emod_of_nonneg h,Int.tmod_eq_emod_of_nonneg om];omega
def og (a:Nat):Int:=if aY a then 0 else (if ng a then -1 else 1)*(if rg a=9218868437227405312 then 314159 else ((JU (rg a):Nat):Int))
theorem Cb:JU 0=0:=de
theorem K8 (r:Nat):JU r<2147483647:=Nat.mod_lt _ de
theorem G6 {r:Nat} (hr:r<9223372036854775808) (h0:r≠0):mg (nr r)%2147483647*2^((mU r-53)%31).toNat%2147483647=JU r:=by
 obtain ⟨h1,_⟩:=zzz hr;have:=GI (a:=r) (by rw[h1];exact h0);rw[h1] at this;rw[←this,fm,h1,Nat.mul_mod,Nat.mod_mod,←Nat.mul_mod]
theorem oC (m j:Nat):m*2^j%2147483647*2%2147483647=m*2^(j+1)%2147483647:=by rw[Nat.mul_comm,rest_step]
theorem Yi:Gives 65 #[.int .u64 0,.int .u64 512] (.tuple #[.int .u64 0,.int .u64 0]):=by
 intro w;refine zd func65 rfl ntmps65 rfl ?_;have LW:=aB (No) w;have ak:=aP (No) w;have E:=aB (No) w;refine qu ?_;refine za rfl (gm (z:=0) rfl rfl kr (zq ?_));refine zuq ?_;refine zq ?_;refine za rfl (gm (z:=512) rfl rfl kr (zq ?_));refine zuq ?_;refine zn ?_;refine zkk ?_;refine zn ?_;refine zkk ?_;refine aN ?_;refine zuq ?_;refine yhk ?_;refine zq ?_;refine za rfl (gm (z:=0) rfl rfl kr (zq ?_));refine zuq ?_;refine yu ?_;refine zkk ?_;refine yhk ?_;refine zn ?_;refine zkk ?_;refine aN ?_;refine yhk ?_;refine aN ?_;refine zuq ?_;refine yhk ?_;refine zn ?_;refine zkk ?_;refine yf ?_;refine oq (rs:=[.tmp 4,.tmp 5]) (vs:=[.int .u64 0,.int .u64 0]) rfl ⟨rfl,rfl,trivial⟩ ?_;exact gi
theorem Q6:Gives 103 #[.int .u64 0,.int .u64 0,.int .u64 2147483647] (.tuple #[.int .u64 0,.int .u64 0]):=by
 intro w;refine zd func103 rfl ntmps103 rfl ?_;have LW:=aB (No) w;have ak:=aP (No) w;have E:=aB (No) w;refine Ve ?_;have OY:∀q9,(ah (oj [])) q9→q9<(World.drew w).heap.size→(No) q9:=fun k h _=>(ah.none_) k h;refine qr (No) ah.none_ [] [] (gH [Fx.of (.int .u64 0),
  Fx.of (.int .u64 2147483647),
  Fx.of (.int .u64 0),
  Fx.of (.int .u64 0),
  Fx.of (.int .u64 2147483647),
  Fx.of (.int .u64 0),
  Fx.of (.int .u64 0),
  Fx.of (.int .u64 0)]) mixed rfl trivial (fun _ h=>by cases h) ?_ ?_
 · refine ⟨arm,arm,?_,arm,arm,?_,arm,arm,trivial⟩
   · refine yt ?_;intro vs X wq K;exact Qg (z:=0) rfl rfl de kr ⟨Below.refl _ _,Left.of rfl⟩
   · refine yt ?_;intro vs X wq K;exact ju (z:=0) rfl rfl de kr ⟨Below.refl _ _,Left.of rfl⟩
 intro vs w1 LE AO AL AF AA;replace E:=E.drew.trans (LE.mono OY);obtain ⟨_,e6,k6⟩:=AL.2.2.2.2.2.2.1;obtain ⟨_,e7,k7⟩:=AL.2.2.2.2.2.2.2.1;refine jz (τ:=[(0,_),(1,_),(2,_),(6,.int .u64 0),(7,.int .u64 0)]) ⟨rfl,rfl,rfl,congrArg some e6,congrArg some e7,trivial⟩ ?_;clear AL AF AA LE AO OY e6 e7 k6 k7;refine yl ?_;refine oq (rs:=[.tmp 6,.tmp 7]) (vs:=[.int .u64 0,.int .u64 0]) rfl ⟨rfl,rfl,trivial⟩ ?_;exact gi
theorem Yj:Gives 66 #[.int .u64 0,.int .u64 0,.int .u64 2147483647] (.int .u64 0):=by
 intro w;refine zd func66 rfl ntmps66 rfl ?_;have LW:=aB (No) w;have ak:=aP (No) w;have E:=aB (No) w;refine qu ?_;refine za rfl (ju (z:=0) rfl rfl de kr (zo ?_));refine zb UW (Q6 _) E fun w1 E=>(uP ?_);refine oq (rs:=[.tmp 6]) (vs:=[.int .u64 0]) rfl ⟨rfl,trivial⟩ ?_;exact gi
theorem G7 (w:World) (a:Nat) (ha:a<18446744073709551616) (hf:rg a<9218868437227405312) (h0:rg a=0):Calls prog 31 #[.int .u64 ((a:Nat):Int)] w (aD w (.int .i64 (og a))):=by
 have hp:pc a=0:=by unfold pc;split<;>omega
 have hlt:(kd a 0==some .lt)=false:=by rw[zmq (xb hf) de,hp];decide
 have hF:og a=0:=by
  have e:(if rg a=9218868437227405312 then 314159 else ((JU (rg a):Nat):Int))=0:=by rw[if_neg om,h0,Cb];rfl
  rw[og,if_neg (by rw[xb hf];decide),e,Int.mul_zero]
 have hr:rg a<18446744073709551616:=om;refine zd func31 rfl ntmps31 rfl ?_;have LW:=aB (No) w;have ak:=aP (No) w;have E:=aB (No) w;refine yiz ?_;refine yn 13 rfl (by rw[hlt]<;>rfl) (qu ?_);refine jT ?_;refine zb fD (vb _ a ha) E fun w1 E=>(jS ?_);refine zb KA (ypz _ a ha) E fun w2 E=>(zb Kz (jO _ (rg a) hr (by rw[jI];exact h0)) E fun w3 E=>(yd ?_));refine zb KC (jP _ (rg a) hr (by rw[jI];exact h0) 53) E fun w4 E=>(za rfl (jA (z:=0) u25 (by rw[UJ];rfl) rfl (by rw[h0];decide +kernel) (zq ?_)));refine za rfl (vq (z:=(-53)) rfl rfl kr (za rfl (ju (z:=(-22)) rfl rfl de kr (za rfl (vu (z:=9) rfl rfl kr (za rfl (ju (z:=9) rfl rfl de kr (zq ?_))))))));refine za rfl (ju (z:=0) rfl rfl de kr (aN ?_));refine za rfl (gl (z:=512) rfl rfl de kr (zb Gw (Yi _) E fun w5 E=>(vc ?_)));refine zb Qs (Yj _) E fun w6 E=>(za rfl (jd (z:=0) underlying3 u25 rfl kr (zkk ?_)));refine ya ?_;exact ⟨by rw[hF];rfl,aT LW E ak⟩
section
variable (w:World) (a:Nat) (ha:a<18446744073709551616)
include ha
theorem La (hn:aY a=true):Calls prog 31 #[.int .u64 ((a:Nat):Int)] w (aD w (.int .i64 (og a))):=by
 have _:=ha;refine zd func31 rfl ntmps31 rfl ?_;have LW:=aB (No) w;have ak:=aP (No) w;have E:=aB (No) w;refine yiz ?_;refine yn 13 rfl (by rw[u6 hn]<;>rfl) (qu ?_);refine kz ?_;refine yl ?_;refine qk 14 rfl (by rw[jy,hn]<;>rfl) (yd ?_);exact ⟨by rw[og,if_pos hn];rfl,aT LW E ak⟩
theorem Lb (hi:rg a=9218868437227405312):Calls prog 31 #[.int .u64 ((a:Nat):Int)] w (aD w (.int .i64 (og a))):=by
 have hn:aY a=false:=decide_eq_false om;refine zd func31 rfl ntmps31 rfl ?_;have LW:=aB (No) w;have ak:=aP (No) w;have E:=aB (No) w;refine yiz ?_;refine zy 13 (.bool (ng a)) rfl (by rw[jN hn om]<;>rfl) (zg rfl (fun h=>?_) (fun h=>?_))
 ·
  refine yd ?_;refine kz ?_;refine yl ?_;refine yn 14 rfl (by rw[jy,hn]<;>rfl) (yf ?_);refine zb fD (vb _ a ha) E fun w1 E=>(xv 20 rfl (by rw[decide_eq_true hi]<;>rfl) (zn ?_));refine za rfl (jw (z:=(-314159)) rfl rfl kr (zn ?_));exact EO
 ·
  refine yu ?_;refine kz ?_;refine yl ?_;refine yn 14 rfl (by rw[jy,hn]<;>rfl) (yf ?_);refine zb fD (vb _ a ha) E fun w2 E=>(xv 20 rfl (by rw[decide_eq_true hi]<;>rfl) (zn ?_));refine za rfl (jw (z:=314159) rfl rfl kr (zn ?_));exact EO
section
variable (hf:rg a<9218868437227405312)
include hf
section
variable (h0:rg a≠0)
include h0
theorem Lc:Calls prog 31 #[.int .u64 ((a:Nat):Int)] w (aD w (.int .i64 (og a))):=by
 have hr:rg a<18446744073709551616:=om;obtain ⟨f1,f2,f3⟩:=nX hf h0;have f0:=(zzz (r:=gW (rg a)) om).1;have f00:=(zzz (r:=gW (rg a)) om).2;obtain ⟨fq1,Vp⟩:=Vl (r:=rg a) h0;have fq3:vl (1074*4503599627370496+mg (nr (rg a)))=vl (gW (rg a))*2^53:=by rewrite [fq1,f3];exact ysz (p:=1074) (q:=1021) (s:=53) de _
 have hmg:=(jM h0).2;have fw:=ji (ng (gW (rg a))) (1074*4503599627370496+mg (nr (rg a))) om;have fz:floatToIntVal .f64 (Ieee.double.word (ng (gW (rg a))) (1074*4503599627370496+mg (nr (rg a)))) .u64=some ((mg (nr (rg a)):Nat):Int):=by
  have h1:=ztz (ng (gW (rg a))) Vp fq1;have h2:=QT (a:=Ieee.double.word (ng (gW (rg a))) (1074*4503599627370496+mg (nr (rg a)))) (by rw[fw.1];exact Vp) (by rw[fw.2.1];exact f00) (by rw[h1];omega);rw[h1] at h2;exact h2
 obtain ⟨b1,b2⟩:=GY hf;obtain ⟨t1,t2,t3⟩:=Yh (mU (rg a)-53);obtain ⟨k,hk⟩:∃k:Nat,(mU (rg a)-53)%31=(k:Int):=⟨((mU (rg a)-53)%31).toNat,om⟩;have hk31:k<31:=om;have hpr:=G6 (r:=rg a) (U6 a) h0;have hkt:((mU (rg a)-53)%31).toNat=k:=om;rw[hkt] at hpr;have hp2:2^k≤1073741824:=(Nat.pow_le_pow_right de (show k≤30 from om):2^k≤2^30);have hprod:mg (nr (rg a))%2147483647*2^k≤2147483647*1073741824:=Nat.mul_le_mul (Nat.le_of_lt (Nat.mod_lt _ de)) hp2;have hml:=K8 (rg a);have hni:¬rg a=9218868437227405312:=om;refine zd func31 rfl ntmps31 rfl ?_;have LW:=aB (No) w;have ak:=aP (No) w;have E:=aB (No) w;refine yiz ?_;refine zy 13 (.bool (ng a)) rfl (by rw[jN (xb hf) h0]<;>rfl) (zg rfl (fun h=>?_) (fun h=>?_))
 ·
  refine yd ?_;refine jT ?_;refine zb fD (vb _ a ha) E fun w1 E=>(jS ?_);refine zb KA (ypz _ a ha) E fun w2 E=>(zb Kz (yvk _ (rg a) hr (by rw[jI];exact h0) (by rw[jI];exact hf)) E fun w3 E=>(yd ?_));refine zb KC (yvq _ (gW (rg a)) om (by rw[f0];exact f2) (by rw[f0];exact f1) 53 (1074*4503599627370496+mg (nr (rg a))) de Vp (by rw[f0];exact fq3)) E fun w4 E=>(vG ?_);refine zb Gw (ymx (mg (nr (rg a))%2147483647) (2^k) om om _) E fun w5 E=>(vc ?_);refine zb Qs (ysx _ (mg (nr (rg a))%2147483647*2^k/18446744073709551616) (mg (nr (rg a))%2147483647*2^k%18446744073709551616) om (Nat.mod_lt _ de)) E fun w6 E=>?_;exact Vo
 ·
  refine yu ?_;refine jT ?_;refine zb fD (vb _ a ha) E fun w7 E=>(jS ?_);refine zb KA (ypz _ a ha) E fun w8 E=>(zb Kz (yvk _ (rg a) hr (by rw[jI];exact h0) (by rw[jI];exact hf)) E fun w9 E=>(yd ?_));refine zb KC (yvq _ (gW (rg a)) om (by rw[f0];exact f2) (by rw[f0];exact f1) 53 (1074*4503599627370496+mg (nr (rg a))) de Vp (by rw[f0];exact fq3)) E fun oD E=>(vG ?_);refine zb Gw (ymx (mg (nr (rg a))%2147483647) (2^k) om om _) E fun gX E=>(vc ?_);refine zb Qs (ysx _ (mg (nr (rg a))%2147483647*2^k/18446744073709551616) (mg (nr (rg a))%2147483647*2^k%18446744073709551616) om (Nat.mod_lt _ de)) E fun dW E=>?_;exact Vo
end
end
theorem Ld:Calls prog 31 #[.int .u64 ((a:Nat):Int)] w (aD w (.int .i64 (og a))):=by
 cases hn:aY a with
 | true=>exact La w a ha hn
 | false=>
  have h1:=of_decide_eq_false hn;by_cases hi:rg a=9218868437227405312
  · exact Lb w a ha hi
  · by_cases h0:rg a=0
    · exact G7 w a ha om h0
    · exact Lc w a ha om h0
end
theorem js {P Q:Prop} (k:Q) (h:(Unit→Q)→P:=by
 intro zK;refine za rfl (pY rfl (yj om) ?_);exact zK ()):P:=h fun _=>k
theorem fV {P:Prop} (h:P:=by
 rintro e w2 ⟨rfl,hb⟩;exact ⟨_,rfl,hb,Left.of rfl⟩):P:=h
def Cc (j:Nat):Nat:=(Go.Pinned.pow10Rows.getD j (0,0)).1
def AY (j:Nat):Nat:=(Go.Pinned.pow10Rows.getD j (0,0)).2
theorem Q7:Go.Pinned.pow10Rows.all (fun x=>Nat.blt x.1 18446744073709551616&&Nat.blt x.2 18446744073709551616)=true:=kr
theorem jU:Go.Pinned.pow10Rows.length=696:=kr
theorem rz {j:Nat} (hj:j<696):Go.Pinned.pow10Rows[j]? =some (Cc j,AY j)∧Cc j<18446744073709551616∧AY j<18446744073709551616:=by
 have hl:j<Go.Pinned.pow10Rows.length:=by rw[jU];exact hj
 have h:=List.all_eq_true.1 Q7 _ (List.getElem_mem hl);rw[Bool.and_eq_true] at h;have e:Go.Pinned.pow10Rows[j]? =some Go.Pinned.pow10Rows[j]:=List.getElem?_eq_getElem hl;have e1:Go.Pinned.pow10Rows.getD j (0,0)=Go.Pinned.pow10Rows[j]:=by rw[List.getD_eq_getElem?_getD,e];rfl
 unfold Cc AY;rw[e1,e];exact ⟨rfl,Nat.le_of_ble_eq_true h.1,Nat.le_of_ble_eq_true h.2⟩
def bY (w:World):Prop:=∀j,j<696→w.cell? ⟨10,j*2,none⟩=some (.int .u64 ((Cc j:Nat):Int))∧w.cell? ⟨10,j*2+1,none⟩=some (.int .u64 ((AY j:Nat):Int))
theorem bY.lt {w:World} (h:bY w):10<w.heap.size:=World.block_lt_of_cell? w _ (h 0 de).1
theorem Per.Yk {X:Nat→Prop} {w:World} (h:bY w) (hx:¬X 10):Per X w bY:=fun b hb j hj=>
 ⟨(hb.cell (p:=⟨10,j*2,none⟩) h.lt hx).trans (h j hj).1,(hb.cell (p:=⟨10,j*2+1,none⟩) h.lt hx).trans (h j hj).2⟩
section
variable (w:World)
theorem rA (dO:Nat) (c0 c1 c2:Value) (e lp:Int) (j:Nat) (hj:j<696) (hB:aA w dO 198 #[c0,c1,c2]) (hT:bY w) (hne:dO≠10) (he:-10000≤e∧e≤10000) (hlp:-10000≤lp∧lp≤10000) :
 Calls prog 198 #[.pointer (some ⟨dO,0,none⟩),.int .i64 e,.int .i64 (((j:Nat):Int)-348),.int .i64 lp] w fun en w'=>en= .returned (.tuple #[])∧aA w' dO 198 #[.int .u64 ((Cc j:Nat):Int),.int .u64 ((AY j:Nat):Int),.int .i64 (0-(e+lp+3))]∧Ext (ah [some dO]) w w':=by
 refine zd func198 rfl ntmps198 rfl ?_;have rC:=hB;have HF:Per (ah [(some dO)]) w (fun _=>True):=Per.dS;have LW:=aB (ah [(some dO)]) w;have ak:=aP (ah [(some dO)]) w;have E:=aB (ah [(some dO)]) w;obtain ⟨HF,LW,E⟩:=qU HF LW E ak (Per.Yk hT (fun h=>h.elim (fun e=>hne (Option.some.inj e).symm) (fun e=>e.elim)));refine yf ?_;refine zx ?_;refine za rfl (ydq (j:=j) underlying218 UL rfl rfl om hj (aN ?_));refine za rfl (jm u25 rfl rfl (by rw[Nat.zero_add];exact ((HF.on E).here.2 j hj).1) (zo ?_));refine yx (qd uy rfl rfl rC rfl rfl (Nat.le_of_ble_eq_true rfl) ?_);intro w1 Bx vH;replace rC:=Bx;replace E:=E.step1 vH ah.head;clear vH;refine zq ?_;refine zx ?_;refine za rfl (ydq (j:=j) underlying218 UL rfl rfl om hj (aN ?_));refine za rfl (jm u25 rfl rfl (by rw[Nat.zero_add];exact ((HF.on E).here.2 j hj).2) (zo ?_));refine yx (qd uy rfl rfl rC rfl rfl (Nat.le_of_ble_eq_true rfl) ?_);intro w2 Bx vH;replace rC:=Bx;replace E:=E.step1 vH ah.head;clear vH;refine zq ?_;refine yc ?_;refine yc ?_;refine js ?_;refine zo ?_;refine yx (qd sz3 rfl rfl rC rfl rfl (Nat.le_of_ble_eq_true rfl) ?_);intro w3 Bx vH;replace rC:=Bx;replace E:=E.step1 vH ah.head;clear vH;obtain ⟨HF,LW,ak,E⟩:=dL HF LW E ak (Y:=No) (ah.skip ah.aR) (Per.aQ rC aj.nil);clear rC;refine aN ?_;refine Bz rfl ?_;exact ⟨rfl,by first | exact (HF.on E).here.2 | exact rC,(LW.step E ak)⟩
end
theorem Le {M x y:Nat} (hM:0<M) (hy:y≤M):((x:Int)-(y:Int))%(M:Int)=(((x+M-y)%M:Nat):Int):=by
 refine ywv (Nat.mod_lt _ hM) ?_;rw[Nat.mod_add_mod,Nat.sub_add_cancel om,Nat.add_mod_right]
theorem vI {x y:Nat} (hy:y≤18446744073709551616):IntKind.u64.wrap (((x:Nat):Int)-((y:Nat):Int))=(((x+18446744073709551616-y)%18446744073709551616:Nat):Int):=by
 rw[IntKind.wrap_u64];exact Le de hy
theorem Yl {s:Nat} (h:s<64):IntKind.i64.wrap (BitVec.ofInt IntKind.i64.bits ((s:Nat):Int) &&& BitVec.ofInt IntKind.i64.bits 63).toNat=((s:Nat):Int):=by
 have key:∀s:Fin 64,IntKind.i64.wrap (BitVec.ofInt IntKind.i64.bits (s.val:Int) &&& BitVec.ofInt IntKind.i64.bits 63).toNat=(s.val:Int):=by decide +kernel
 exact key ⟨s,h⟩
theorem EP (m n:Nat):(((m:Nat):Int) !=((n:Nat):Int))=decide (m≠n):=by
 by_cases h:m=n
 · subst h;simp
 · rw[decide_eq_true h];exact bne_iff_ne.2 om
def Q8 (b:Bool):Nat:=if b then 1 else 0
theorem rD (b:Bool):Q8 b≤1:=by cases b<;>decide
section
variable (w:World)
theorem Lf (b:Bool):Calls prog 219 #[.bool b] w (aD w (.int .u64 ((Q8 b:Nat):Int))):=by
 refine zd func219 rfl ntmps219 rfl ?_;have LW:=aB (No) w;have ak:=aP (No) w;have E:=aB (No) w;refine qa ?_;refine zg rfl (fun h=>?_) (fun h=>?_)
 ·
  refine yu ?_;exact ⟨by rw[h];rfl,aT LW E ak⟩
 ·
  refine qu ?_;exact ⟨by rw[h];rfl,aT LW E ak⟩
def mK (x hi:Nat):Nat:=x*hi/18446744073709551616
def rE (x hi:Nat):Nat:=x*hi%18446744073709551616
def jV (x hi lo:Nat):Nat:=(mK x hi+18446744073709551616-Q8 (decide (rE x hi<mK x lo)))%18446744073709551616
def vJ (x hi lo:Nat):Nat:=(rE x hi+18446744073709551616-mK x lo)%18446744073709551616
def rF (x hi lo s:Nat):Nat:=
 if mK x hi/2^s*2^s%18446744073709551616≠mK x hi then mK x hi/2^s ||| 1
 else jV x hi lo/2^s ||| Q8 (decide (1<vJ x hi lo))
theorem rG {x hi:Nat} (hx:x<18446744073709551616) (hh:hi<18446744073709551616):mK x hi<18446744073709551616:=
 Nat.div_lt_of_lt_mul (Nat.lt_of_le_of_lt (Nat.mul_le_mul_left x (Nat.le_of_lt hh)) (Nat.mul_lt_mul_of_pos_right hx de))
theorem yek (gp x hi lo s:Nat) (hx:x<18446744073709551616) (hh:hi<18446744073709551616) (hl:lo<18446744073709551616) (hs:s<64) (hB:aA w gp 198 #[.int .u64 ((hi:Nat):Int),.int .u64 ((lo:Nat):Int),.int .i64 ((s:Nat):Int)]) :
 Calls prog 200 #[.int .u64 ((x:Nat):Int),.pointer (some ⟨gp,0,none⟩)] w (aD w (.int .u64 ((rF x hi lo s:Nat):Int))):=by
 have h1:=rG hx hh;have h2:=rG hx hl;have h3:rE x hi<18446744073709551616:=Nat.mod_lt _ de;have h4:jV x hi lo<18446744073709551616:=Nat.mod_lt _ de;have hd:∀m,m/2^s≤m:=fun m=>Nat.div_le_self _ _;refine zh func200 ntmps200 fun HF LW ak E=>?_;replace HF:=HF.and (Per.blk hB (fun h=>h.elim));refine vc ?_;refine zb Gw (ymx x hi hx hh _) E fun w1 E=>(ze 16 (.tuple #[.int .u64 ((mK x hi:Nat):Int),.int .u64 ((rE x hi:Nat):Int)]) rfl (by rw[mK,rE]<;>rfl) (kb ?_));refine za rfl (gm rfl rfl (Yl hs) (yu ?_));refine za rfl (va rfl rfl om (jp _ s hs) (aN ?_));refine za rfl (gl rfl rfl om (Ye _ s hs) (yf ?_));refine zy 30 (.bool (decide (mK x hi/2^s*2^s%18446744073709551616≠mK x hi))) rfl (by rw[EP]<;>rfl) (zg rfl (fun hc=>?_) (fun hc=>?_))
 ·
  have hc:=of_decide_eq_true hc;refine yf ?_;refine za rfl (va rfl rfl om (jp _ s hs) (za rfl (Uz rfl rfl (Vh (n:=1) (Nat.lt_of_le_of_lt (hd _) h1) de) (zq ?_))));exact ⟨by rw[rF,if_pos hc];rfl,aT LW E ak⟩
 ·
  have hc:=of_decide_eq_false hc;refine qu ?_;refine zb Gw (ymx x lo hx hl _) E fun w2 E=>(ze 41 (.tuple #[.int .u64 ((mK x lo:Nat):Int),.int .u64 ((x*lo%18446744073709551616:Nat):Int)]) rfl (by rw[mK]<;>rfl) (kb ?_));refine ze 47 (.bool (decide (rE x hi<mK x lo))) rfl (gq om) (zb U5 (Lf _ (decide (rE x hi<mK x lo))) E fun w3 E=>(za rfl (vq rfl rfl (vI (Nat.le_trans (rD _) de)) (ze 49 (.int .u64 ((jV x hi lo:Nat):Int)) rfl (by rw[jV]<;>rfl) (yf ?_)))));have OY:∀q9,(ah (oj [])) q9→q9<(World.drew w3).heap.size→(No) q9:=fun k h _=>(ah.none_) k h;refine qr (No) ah.none_ [] [] (gH [Fx.of (.int .u64 ((jV x hi lo:Nat):Int)),
   Fx.of (.int .i64 ((s:Nat):Int)),
   Fx.of (.int .u64 ((jV x hi lo/2^s:Nat):Int)),
   Fx.of (.int .u64 ((rE x hi:Nat):Int)),
   Fx.of (.int .u64 ((mK x lo:Nat):Int)),
   Fx.of (.int .u64 ((vJ x hi lo:Nat):Int)),
   Fx.of (.bool (decide (1<vJ x hi lo))),
   Fx.of (.int .u64 ((Q8 (decide (1<vJ x hi lo)):Nat):Int)),
   Fx.of (.int .u64 ((jV x hi lo/2^s ||| Q8 (decide (1<vJ x hi lo)):Nat):Int)),
   Fx.of (.int .u64 ((jV x hi lo/2^s ||| Q8 (decide (1<vJ x hi lo)):Nat):Int))]) mixed rfl trivial (fun _ h=>by cases h) ?_ ?_
  · refine ⟨arm,arm,?_,arm,arm,?_,?_,?_,?_,arm,trivial⟩
    · refine yt ?_;intro vs X wq K;exact va rfl rfl om (jp _ s hs) ⟨Below.refl _ _,Left.of rfl⟩
    · refine yt ?_;intro vs X wq K;exact vq rfl rfl (vI (Nat.le_of_lt h2)) ⟨Below.refl _ _,Left.of rfl⟩
    · refine yt ?_;intro vs X wq K;exact Ki rfl rfl ⟨Below.refl _ _,Left.of (gq om)⟩
    · refine yt ?_;intro vs X wq K;refine zc U5 rfl ((Lf _ (decide (1<vJ x hi lo))).mono ?_);exact fV
    · refine yt ?_;intro vs X wq K;exact Uz rfl rfl (Vh (Nat.lt_of_le_of_lt (hd _) h4) (Nat.lt_of_le_of_lt (rD _) de)) ⟨Below.refl _ _,Left.of rfl⟩
  intro vs w4 LE AO AL AF AA;replace E:=E.drew.trans (LE.mono OY);obtain ⟨_,e9,k9⟩:=AL.2.2.2.2.2.2.2.2.2.1;refine jz (τ:=[(4,.int .u64 ((jV x hi lo/2^s ||| Q8 (decide (1<vJ x hi lo)):Nat):Int))]) ⟨congrArg some e9,trivial⟩ ?_;clear AL AF AA LE AO OY e9 k9;refine yl ?_;exact ⟨by rw[rF,if_neg hc];rfl,aT LW E ak⟩
end
theorem yiq {P Q:Prop} (k:Q) (h:(Unit→Q)→P:=by
 intro zK;refine za rfl (jd underlying3 underlying5 rfl (yj om) (yc ?_));exact zK ()):P:=h fun _=>k
theorem jl {P Q:Prop} (k:Q) (h:(Unit→Q)→P:=by
 intro zK;refine ya ?_;refine yc ?_;refine zo ?_;exact zK ()):P:=h fun _=>k
def gz (x:Nat):Nat:=if x=0 then 0 else x.log2+1
theorem ER {x k:Nat} (h:x<2^k):gz x≤k:=by
 unfold gz;split
 · omega
 · rename_i h0
   have:=(Nat.log2_lt h0).2 h;omega
theorem jW {x k:Nat} (h:2^k≤x):gz x=gz (x/2^k)+k:=by
 have hp:=qy k;have h1:x≠0:=om;have h2:x/2^k≠0:=by have:=Nat.div_pos h hp;omega
 unfold gz;rw[if_neg h1,if_neg h2];have e:x.log2=(x/2^k).log2+k:=by
  refine (Nat.log2_eq_iff h1).2 ⟨?_,?_⟩
  · have:=Nat.log2_self_le h2;rw[Nat.pow_add];exact Nat.le_trans (Nat.mul_le_mul_right _ this) (Nat.div_mul_le_self _ _)
  · have:=@Nat.lt_log2_self (x/2^k);have h3:x<(x/2^k+1)*2^k:=by
     have:=Nat.div_add_mod x (2^k);have h4:=Nat.mod_lt x hp;rw[Nat.add_mul,Nat.one_mul,Nat.mul_comm];omega
    rw[show (x/2^k).log2+k+1=(x/2^k).log2+1+k from om,Nat.pow_add];exact Nat.lt_of_lt_of_le h3 (Nat.mul_le_mul_right _ this)
 omega
def Lg:ByteArray:=⟨#[0,1,2,2,3,3,3,3,4,4,4,4,4,4,4,4,5,5,5,5,5,5,5,5,5,5,5,5,5,5,5,5,6,6,6,6,6,6,6,6,6,6,6,6,6,6,6,6,6,6,6,6,6,6,6,6,6,6,6,6,6,6,6,6,7,7,7,7,7,7,7,7,7,7,7,7,7,7,7,7,7,7,7,7,7,7,7,7,7,7,7,7,7,7,7,7,7,7,7,7,7,7,7,7,7,7,7,7,7,7,7,7,7,7,7,7,7,7,7,7,7,7,7,7,7,7,7,7,8,8,8,8,8,8,8,8,8,8,8,8,8,8,8,8,8,8,8,8,8,8,8,8,8,8,8,8,8,8,8,8,8,8,8,8,8,8,8,8,8,8,8,8,8,8,8,8,8,8,8,8,8,8,8,8,8,8,8,8,8,8,8,8,8,8,8,8,8,8,8,8,8,8,8,8,8,8,8,8,8,8,8,8,8,8,8,8,8,8,8,8,8,8,8,8,8,8,8,8,8,8,8,8,8,8,8,8,8,8,8,8,8,8,8,8,8,8,8,8,8,8,8,8,8,8,8,8]⟩
theorem G9 {u:Nat} (h:u<256):(Lg.data[u]?).map (·.toNat)=some (gz u):=by
 have key:∀v:Fin 256,(Lg.data[v.val]?).map (·.toNat)=some (gz v.val):=by decide +kernel
 exact key ⟨u,h⟩
section
variable (w:World)
theorem oF (x:Nat) (hx:x<18446744073709551616):Calls prog 166 #[.int .u64 ((x:Nat):Int)] w (aD w (.int .i64 ((gz x:Nat):Int))):=by
 refine zd func166 rfl ntmps166 rfl ?_;have LW:=aB (No) w;have ak:=aP (No) w;have E:=aB (No) w;refine vc ?_;replace LW:=LW.step E ak;replace E:=aB (No) w;refine vk (ι:=Nat×Nat) (fun (y,n)=>[(0,.int .u64 ((y:Nat):Int)),(2,.int .i64 ((n:Nat):Int))]) (fun (y,n) w'=>Ext (No) w w'∧(gz x=gz y+n∧y<4294967296∧n≤32)) ?_ ?_
 ·
  have M1:=aB (No) w;have fF:=aP (No) w;refine zg rfl (fun h=>?_) (fun h=>?_)
  ·
   have h:=of_decide_eq_true h;refine yl ?_;refine za rfl (va rfl rfl de (jp x 32 de) (zq ?_));exact yy (x/2^32,32) ⟨rfl,rfl,trivial⟩ ⟨M1.step E fF,jW (by show 4294967296≤x;omega),(Nat.div_lt_iff_lt_mul (qy 32)).2 (by show x<18446744073709551616;omega),Nat.le_refl _⟩
  ·
   have h:=of_decide_eq_false h;refine aN ?_;exact yy (x,0) ⟨rfl,rfl,trivial⟩ ⟨M1.step E fF,rfl,by show x<4294967296;omega,de⟩
 ·
  rintro ⟨y,n⟩ w2 ⟨M1,⟨hy1,hy2,hy3⟩⟩;replace E:=E.trans M1;replace LW:=LW.step E ak;replace E:=aB (No) w2;refine zn ?_;replace LW:=LW.step E ak;replace E:=aB (No) w2;refine vk (ι:=Nat×Nat) (fun (z,m)=>[(0,.int .u64 ((z:Nat):Int)),(2,.int .i64 ((m:Nat):Int))]) (fun (z,m) w'=>Ext (No) w2 w'∧(gz x=gz z+m∧z<65536∧m≤48)) ?_ ?_
  ·
   have M3:=aB (No) w2;have dA:=aP (No) w2;refine zg rfl (fun h=>?_) (fun h=>?_)
   ·
    have h:=of_decide_eq_true h;have hs:=jW (x:=y) (k:=16) (by show 65536≤y;omega);refine yl ?_;refine za rfl (va rfl rfl de (jp y 16 de) (jl ?_));exact yy (y/2^16,n+16) ⟨rfl,congrArg (fun z:Int=>some (Value.int .i64 z)) om,trivial⟩ ⟨M3.step E dA,by show gz x=gz (y/2^16)+(n+16);omega,(Nat.div_lt_iff_lt_mul (qy 16)).2 hy2,by show n+16≤48;omega⟩
   ·
    have h:=of_decide_eq_false h;refine aN ?_;exact yy (y,n) ⟨rfl,rfl,trivial⟩ ⟨M3.step E dA,hy1,by show y<65536;omega,by show n≤48;omega⟩
  ·
   rintro ⟨z,m⟩ w4 ⟨M3,⟨hz1,hz2,hz3⟩⟩;replace E:=E.trans M3;replace LW:=LW.step E ak;replace E:=aB (No) w4;refine zn ?_;replace LW:=LW.step E ak;replace E:=aB (No) w4;refine vk (ι:=Nat×Nat) (fun (u,k)=>[(0,.int .u64 ((u:Nat):Int)),(2,.int .i64 ((k:Nat):Int))]) (fun (u,k) w'=>Ext (No) w4 w'∧(gz x=gz u+k∧u<256∧k≤56)) ?_ ?_
   ·
    have M5:=aB (No) w4;have Ym:=aP (No) w4;refine zg rfl (fun h=>?_) (fun h=>?_)
    ·
     have h:=of_decide_eq_true h;have hs:=jW (x:=z) (k:=8) (by show 256≤z;omega);refine yl ?_;refine za rfl (va rfl rfl de (jp z 8 de) (jl ?_));exact yy (z/2^8,m+8) ⟨rfl,congrArg (fun z:Int=>some (Value.int .i64 z)) om,trivial⟩ ⟨M5.step E Ym,by show gz x=gz (z/2^8)+(m+8);omega,(Nat.div_lt_iff_lt_mul (qy 8)).2 hz2,by show m+8≤56;omega⟩
    ·
     have h:=of_decide_eq_false h;refine aN ?_;exact yy (z,m) ⟨rfl,rfl,trivial⟩ ⟨M5.step E Ym,hz1,by show z<256;omega,by show m≤56;omega⟩
   ·
    rintro ⟨u,k⟩ w6 ⟨M5,⟨hu1,hu2,hu3⟩⟩;replace E:=E.trans M5;replace LW:=LW.step E ak;replace E:=aB (No) w6;have hul:=ER (x:=u) (k:=8) hu2;refine yf ?_;refine za rfl (jd underlying5 u25 rfl (UC om) (za rfl (qm (j:=u) (b:=gz u) u9 rfl rfl rfl (G9 hu2) (yiq ?_))));refine ya ?_;exact ⟨by rw[hu1,Int.natCast_add,Int.add_comm];rfl,aT LW E ak⟩
end
end
end Go.Proofs.YtdofcnodhgaedaaGreatDoor
namespace Go.Proofs.YtdofcnodhgaedaaGreatDoor
open Go.RowKit Proofs.Tryz
theorem zkq {P Q:Prop} (k:Q) (h:(Unit→Q)→P:=by
 intro zK;refine za rfl (jw rfl rfl (yj om) ?_);exact zK ()):P:=h fun _=>k
theorem rH (m:Int) (k:Nat) (hk:k<64):m.fdiv (2^(min ((k:Nat):Int).toNat IntKind.i64.bits))=m/((2^k:Nat):Int):=by
 rw[Int.toNat_natCast,show min k IntKind.i64.bits=k from Nat.min_eq_left (by show k≤64;omega),Int.fdiv_eq_ediv_of_nonneg _ (Int.le_of_lt (Int.pow_pos de))];rw[show (2:Int)^k=((2^k:Nat):Int) by simp]
def Ce (p:Int):Int:=p*108853/32768
def jX (u:Nat):Nat:=(u+1+(u/2^2 &&& 1))/2^2
theorem zrv (u:Nat):u &&& 1≤1:=Nat.and_le_right
def af6 (m:Nat):Nat:=m &&& 9223372036854775808
def af7 (m:Nat):Nat:=m &&& 18442240474082181119
def af8 (m:Nat):Nat:=af6 m ||| 9218868437227405312
def af9 (m k:Nat):Nat:=af7 m ||| (k*2^52%18446744073709551616)
def afq (m k:Nat):Nat:=
 if m &&& 4503599627370496=0 then m
 else if 2047≤k then af8 m
 else af9 m k
def afz (m k:Nat):Value:=
 if m &&& 4503599627370496=0 then .nilIface
 else if 2047≤k then .iface 149 (.int .i64 1)
 else .nilIface
theorem Q9 (m:Nat):(((m:Nat):Int)==0)=decide (m=0):=by
 by_cases h:m=0
 · subst h;rfl
 · rw[decide_eq_false h];exact beq_eq_false_iff_ne.2 om
attribute [local irreducible] OW RS CW EW
section
variable (w:World)
theorem Ra (p:Int) (hp:-10000≤p∧p≤10000):Calls prog 199 #[.int .i64 p] w (aD w (.int .i64 (Ce p))):=by
 refine zd func199 rfl ntmps199 rfl ?_;have LW:=aB (No) w;have ak:=aP (No) w;have E:=aB (No) w;refine yu ?_;refine zkq ?_;refine za rfl (va rfl rfl de (rH _ 15 de) ?_);exact GD
end
def eF (d j:Nat):Int:=min 1074 (53-((gz d:Nat):Int)-Ce (((j:Nat):Int)-348))
def sF (d j:Nat):Nat:=(61-((gz d:Nat):Int)-Ce (((j:Nat):Int)-348)-eF d j).toNat
def xF (d:Nat):Nat:=d*2^(64-gz d)%18446744073709551616
def uF (d j:Nat):Nat:=rF (xF d) (Cc j) (AY j) (sF d j)
def kF (d j:Nat):Nat:=Q8 (decide (36028797018963966≤uF d j))
def vF (d j:Nat):Nat:=uF d j/2^kF d j ||| (uF d j &&& 1)
def mF (d j sign:Nat):Nat:=sign ||| jX (vF d j)
def Vq (d j sign:Nat):Nat:=if 64≤sF d j then sign ||| 0 else afq (mF d j sign) ((1075-eF d j).toNat+kF d j)
def afx (d j sign:Nat):Value:=if 64≤sF d j then .nilIface else afz (mF d j sign) ((1075-eF d j).toNat+kF d j)
theorem Vr {a b k:Nat} (ha:a<2^k) (hb:b<2^k):a ||| b<2^k:=Nat.or_lt_two_pow ha hb
section
variable (w:World)
theorem rJ (dO:Nat) (c0 c1 c2:Value) (e lp:Int) (j S:Nat) (hj:j<696) (hB:aA w dO 198 #[c0,c1,c2]) (hT:bY w) (hne:dO≠10) (he:-10000≤e∧e≤10000) (hlp:-10000≤lp∧lp≤10000) (hS:((S:Nat):Int)=0-(e+lp+3)) :
 Calls prog 198 #[.pointer (some ⟨dO,0,none⟩),.int .i64 e,.int .i64 (((j:Nat):Int)-348),.int .i64 lp] w fun en w'=>en= .returned (.tuple #[])∧aA w' dO 198 #[.int .u64 ((Cc j:Nat):Int),.int .u64 ((AY j:Nat):Int),.int .i64 ((S:Nat):Int)]∧Ext (ah [some dO]) w w':=by
 rw[hS];exact rA w dO c0 c1 c2 e lp j hj hB hT hne he hlp
end
end Go.Proofs.YtdofcnodhgaedaaGreatDoor
namespace Go.Proofs.YtdofcnodhgaedaaGreatDoor
open Go.RowKit Proofs.Tryz
theorem V9 {P:Prop} (h:P:=by
 refine bodyPost_ret (v:=.tuple #[.agg #[.bool false,.slice none 0 0],.int .i64 3]) (by simp[results,Tryz.results92,go_sem,r0,r1]) rfl ?_;exact kV (LW.trans (L.mono LW.size)) om _ _):P:=h
theorem Nt (neg:Bool) (A:Option Addr) (c:Nat) (xs:List Nat) (w:World) (hx:ay w A xs) (hs:zi au xs) (hl:xs.length≤1048576) :
 Calls prog 129 #[.bool neg,.slice A xs.length c] w (yb w (dz true (bg neg (val au xs))) (cK true (bg neg (val au xs)))):=by
 rcases Nat.lt_or_ge (val au xs) (au^30) with h | h
 · rw[xy (by rw[vo];exact h),xz (by rw[vo];exact h)];exact ymk neg A c xs w hx hs hl h
 · rw[ylq (by rw[vo];exact h),zwq (by rw[vo];exact h)];exact Fu neg A c xs w hx hs hl h
theorem Nu {ys zs:List Nat} {k j u t C X:Nat} (hz:k+j<zs.length) (h:val au zs+au^(k+j)*u=C+au^k*(X*val au (ys.take j))) (ht:t=X*ys.getD j 0+zs.getD (k+j) 0+u) :
 val au (zs.set (k+j) (t%au))+au^(k+(j+1))*(t/au)=C+au^k*(X*val au (ys.take (j+1))):=by
 have h1:=YV (b:=au) zs (k+j) (t%au) hz;have h2:au^(k+(j+1))*(t/au)=au^(k+j)*(au*(t/au)):=by rw[←Nat.add_assoc,Nat.pow_succ,Nat.mul_assoc]
 have h3:au^(k+j)*(t%au)+au^(k+j)*(au*(t/au))=au^(k+j)*t:=by rw[←Nat.mul_add,Nat.mod_add_div]
 have h4:au^(k+j)*t=au^(k+j)*(X*ys.getD j 0)+au^(k+j)*zs.getD (k+j) 0+au^(k+j)*u:=by rw[ht,Nat.mul_add,Nat.mul_add]
 have h5:au^k*(X*val au (ys.take (j+1)))=au^k*(X*val au (ys.take j))+au^(k+j)*(X*ys.getD j 0):=by
  rw[zu,Nat.mul_add,Nat.mul_add,Nat.pow_add,Nat.mul_left_comm X,Nat.mul_assoc (au^k)]
 omega
theorem IV {xs ys zs:List Nat} {k u:Nat} (hz:k+ys.length<zs.length) (h0:zs.getD (k+ys.length) 0=0)
 (h:val au zs+au^(k+ys.length)*u=val au (xs.take k)*val au ys+au^k*(xs.getD k 0*val au (ys.take ys.length))) :
 val au (zs.set (k+ys.length) u)=val au (xs.take (k+1))*val au ys:=by
 have h1:=YV (b:=au) zs (k+ys.length) u hz;rw[h0,Nat.mul_zero,Nat.add_zero] at h1;rw[h1,h,List.take_length,zu,Nat.add_mul,Nat.mul_assoc]
def Dg (w:World) (n1 n2:Bool) (A B:Option Addr) (c d:Nat) (xs ys:List Nat) (b:World):Prop:=
 Two w n1 n2 A B c d xs ys b∧(b.cell? ⟨w.heap.size+1+1,0,none⟩=some (.bool false)∧b.cell? ⟨w.heap.size+1+1,1,none⟩=some (.slice none 0 0)∧b.frozen? ⟨w.heap.size+1+1,0,none⟩=false∧b.frozen? ⟨w.heap.size+1+1,1,none⟩=false)
def Nv (w:World) (n1 n2:Bool) (A B:Option Addr) (c d:Nat) (xs ys:List Nat):World:=(two w n1 n2 A B c d xs ys).alloc (.cells #[.bool false,.slice none 0 0] 24)
theorem yhz (w:World) (n1 n2:Bool) (A B:Option Addr) (c d:Nat) (xs ys:List Nat):Below w.heap.size w (Nv w n1 n2 A B c d xs ys):=
 (zyv w n1 n2 A B c d xs ys).alloc (zyv w n1 n2 A B c d xs ys).size _
theorem ywq (w:World) (n1 n2:Bool) (A B:Option Addr) (c d:Nat) (xs ys:List Nat):(Nv w n1 n2 A B c d xs ys).heap.size=w.heap.size+3:=by simp[Nv,two]
theorem yhx {w b:World} {n1 n2:Bool} {A B:Option Addr} {c d:Nat} {xs ys:List Nat} (hx:ay w A xs) (hy:ay w B ys) (hb:Below (Nv w n1 n2 A B c d xs ys).heap.size (Nv w n1 n2 A B c d xs ys) b):Dg w n1 n2 A B c d xs ys b:=by
 have k:Below (two w n1 n2 A B c d xs ys).heap.size (two w n1 n2 A B c d xs ys) (Nv w n1 n2 A B c d xs ys):=(Below.refl _ _).alloc (Nat.le_refl _) _;have Z:aA (Nv w n1 n2 A B c d xs ys) (w.heap.size+1+1) 24 #[.bool false,.slice none 0 0]:=aA.newAt (by simp[two]);exact ⟨IU hx hy (V8 k hb),(Z.below hb Z.lt).two⟩
section
variable (n1 n2:Bool) (A B:Option Addr) (c d:Nat) (xs ys:List Nat) (w:World)
set_option maxHeartbeats 1000000 in
theorem RV (hx:ay w A xs) (hy:ay w B ys) (hl:xs.length≤9223372036854775807) (hl':ys.length≤9223372036854775807) (hok:(zm n1 xs&&zm n2 ys)=false) :
 Calls prog 92 #[.agg #[.bool n1,.slice A xs.length c],.agg #[.bool n2,.slice B ys.length d]] w (yb w 0 3):=by
 obtain ⟨W0,hW0⟩:∃W0,W0=Nv w n1 n2 A B c d xs ys:=⟨_,rfl⟩;have LW:Below w.heap.size w W0:=by rw[hW0];exact yhz ..
 have HWs:Hid (W0.heap.size=w.heap.size+3):=by rw[hW0];exact ywq ..
 have HF:Hid (∀b1,Below W0.heap.size W0 b1→Dg w n1 n2 A B c d xs ys b1):=fun b1 hb=>by rw[hW0] at hb;exact yhx hx hy hb
 have hg1:=fun w hx=>ye n1 c w A xs hl hx;have hg2:=fun w hy=>ye n2 d w B ys hl' hy;clear hx hy;unfold Nv two at hW0;have L:Below W0.heap.size W0 W0:=Below.refl _ _;obtain ⟨⟨⟨x0,x1,y0,y1⟩,hx,hy⟩,r0,r1,r2,r3⟩:=HF.out _ L;go_enter func92,ntmps92
 cases h1:zm n1 xs
 · rw[h1] at hg1;clear hok h1;go_upto_region 1 with fail
   rw[←hW0];clear hW0;go_wp2_with (go_at_call 29;refine (hg1 _ hx).mono ?_;rintro e w1 ⟨rfl,hb⟩;have L:=V8 L hb;clear x0 x1 y0 y1 hx hy r0 r1 r2 r3 hb;obtain ⟨⟨⟨x0,x1,y0,y1⟩,hx,hy⟩,r0,r1,r2,r3⟩:=HF.out _ L)
   exact V9
 · rw[h1,Bool.true_and] at hok;rw[h1] at hg1;rw[hok] at hg2;clear hok h1;go_upto_region 1 with fail
   rw[←hW0];clear hW0;go_wp2_with (go_at_call 29;refine (hg1 _ hx).mono ?_;rintro e w1 ⟨rfl,hb⟩;have L:=V8 L hb;clear x0 x1 y0 y1 hx hy r0 r1 r2 r3 hb;obtain ⟨⟨⟨x0,x1,y0,y1⟩,hx,hy⟩,r0,r1,r2,r3⟩:=HF.out _ L;refine Hid.out ?_)
   refine Lib.hid ?_;go_wp2_with (go_at_call 29;refine (hg2 _ hy).mono ?_;rintro e w1 ⟨rfl,hb⟩;have L:=V8 L hb;clear x0 x1 y0 y1 hx hy r0 r1 r2 r3 hb;obtain ⟨⟨⟨x0,x1,y0,y1⟩,hx,hy⟩,r0,r1,r2,r3⟩:=HF.out _ L)
   exact V9
theorem IW {p z u:Int} (p0:0≤p) (p1:p≤999999999999999999*999999999999999999) (z0:0≤z) (z1:z<1000000000000000000) (u0:0≤u) (u1:u<1000000000000000000) :
 0≤p/18446744073709551616∧p/18446744073709551616<1000000000000000000∧
 (p/18446744073709551616+(p%18446744073709551616+z)/18446744073709551616+((p%18446744073709551616+z)%18446744073709551616+u)/18446744073709551616)*18446744073709551616+((p%18446744073709551616+z)%18446744073709551616+u)%18446744073709551616=p+z+u∧
 (p+z+u)/1000000000000000000<1000000000000000000∧
 p/18446744073709551616+(p%18446744073709551616+z)/18446744073709551616+((p%18446744073709551616+z)%18446744073709551616+u)/18446744073709551616<1000000000000000000:=by
 refine ⟨om,om,om,om,om⟩
theorem RY (b n:Nat):val b (List.replicate n 0)=0:=by
 induction n with
 | zero=>rfl
 | succ n ih=>rw[List.replicate_succ,val,ih];simp
theorem IX (x y:Int) (h0:0≤x) (h1:x<18446744073709551616) (k0:0≤y) (k1:y<18446744073709551616) (w:World) :
 Calls prog 65 #[.int .u64 x,.int .u64 y] w fun e w'=>e= .returned (.tuple #[.int .u64 (x*y/18446744073709551616),.int .u64 (x*y%18446744073709551616)])∧w'=w:=by
 obtain ⟨a,rfl⟩:=Int.eq_ofNat_of_zero_le h0;obtain ⟨b,rfl⟩:=Int.eq_ofNat_of_zero_le k0;refine (nY a b om om w).mono fun e w' h=>?_;obtain ⟨rfl,rfl⟩:=h;rw[←Int.natCast_mul];exact ⟨by congr 1,rfl⟩
theorem Dh {xs ys:List Nat} (hs:zi au xs) (ht:zi au ys) (k j:Nat):0≤nth xs k*nth ys j∧nth xs k*nth ys j≤999999999999999999*999999999999999999:=by
 have a0:=zw xs k;have b0:=zw ys j;have a1:=qj (by unfold au;omega) hs k;have b1:=qj (by unfold au;omega) ht j;rw[Cw] at a1 b1;refine ⟨Int.mul_nonneg a0 b0,Int.mul_le_mul om om b0 om⟩
set_option maxHeartbeats 2000000 in
theorem Nw (hx:ay w A xs) (hy:ay w B ys) (hg:zm n1 xs=true) (hk:zm n2 ys=true) :
 Calls prog 92 #[.agg #[.bool n1,.slice A xs.length c],.agg #[.bool n2,.slice B ys.length d]] w (yb w (dz true (num n1 xs*num n2 ys)) (cK true (num n1 xs*num n2 ys))):=by
 obtain ⟨hs,_,hl,_⟩:=yh hg;obtain ⟨ht,_,hl',_⟩:=yh hk;have hprod:∀v,v=val au xs*val au ys→bg (n1 !=n2) v=num n1 xs*num n2 ys:=fun v hv=>by
  rw[hv,jx,jx];unfold bg;cases n1<;>cases n2<;>simp[Int.natCast_mul,Int.neg_mul,Int.mul_neg]
 have HP:=Lib.hid hprod;have HS:=Lib.hid hs;have HT:=Lib.hid ht;obtain ⟨q,hq⟩:∃q,q=num n1 xs*num n2 ys:=⟨_,rfl⟩;rw[←hq] at HP ⊢;obtain ⟨W0,hW0⟩:∃W0,W0=Nv w n1 n2 A B c d xs ys:=⟨_,rfl⟩;have LW:Below w.heap.size w W0:=by rw[hW0];exact yhz ..
 have HWs:Hid (W0.heap.size=w.heap.size+3):=by rw[hW0];exact ywq ..
 have HF:Hid (∀b1,Below W0.heap.size W0 b1→Dg w n1 n2 A B c d xs ys b1):=fun b1 hb=>by rw[hW0] at hb;exact yhx hx hy hb
 have hg1:=fun w hx=>ye n1 c w A xs om hx;have hg2:=fun w hy=>ye n2 d w B ys om hy;rw[hg] at hg1;rw[hk] at hg2;clear hx hy hq hprod hs ht hg hk;unfold Nv two at hW0;have L:Below W0.heap.size W0 W0:=Below.refl _ _;obtain ⟨⟨⟨x0,x1,y0,y1⟩,hx,hy⟩,r0,r1,r2,r3⟩:=HF.out _ L;go_enter func92,ntmps92
 go_upto_region 1 with fail
 rw[←hW0];clear hW0;go_wp2_with (go_at_call 29;refine (hg1 _ hx).mono ?_;rintro e w1 ⟨rfl,hb⟩;have L:=V8 L hb;clear x0 x1 y0 y1 hx hy r0 r1 r2 r3 hb;obtain ⟨⟨⟨x0,x1,y0,y1⟩,hx,hy⟩,r0,r1,r2,r3⟩:=HF.out _ L;refine Hid.out ?_)
 refine Lib.hid ?_;go_wp2_with (go_at_call 29;refine (hg2 _ hy).mono ?_;rintro e w1 ⟨rfl,hb⟩;have L:=V8 L hb;clear x0 x1 y0 y1 hx hy r0 r1 r2 r3 hb;obtain ⟨⟨⟨x0,x1,y0,y1⟩,hx,hy⟩,r0,r1,r2,r3⟩:=HF.out _ L;refine Hid.out ?_)
 refine Lib.hid ?_;clear hg1 hg2;obtain ⟨N,hN⟩:∃N:Nat,N=xs.length+ys.length+1:=⟨_,rfl⟩;have hmk:=VO N om;have hNi:((xs.length:Int)+(ys.length:Int)+1)=(N:Int):=om;have HN:=Lib.hid hN;have hNb:N≤61:=om;clear hN;go_upto_region 4 with fail
 obtain ⟨g,hg⟩:∃g,g=w1.heap.size:=⟨_,rfl⟩;obtain ⟨W1,hW1⟩:∃W1,W1=w1.alloc (.cells (madeCells #[.int .u64 0] N) 25):=⟨_,rfl⟩;have k1:Below w1.heap.size w1 W1:=by rw[hW1];exact (Below.refl _ _).alloc (Nat.le_refl _) _
 have hrow:Row W1 g N (List.replicate N 0):=by
  have h:=(Row.made w1 N).fill;rw[←hW1,←hg] at h;simpa using h
 have hWg:W1.heap.size=g+1:=by rw[hW1,hg];simp
 have hgW:W0.heap.size≤g:=by rw[hg];exact L.size
 have L:=V8 L k1;rw[←hg,←hW1];clear x0 x1 y0 y1 hx hy r0 r1 r2 r3 hmk hNi hg hW1 k1;obtain ⟨⟨⟨x0,x1,y0,y1⟩,hx,hy⟩,r0,r1,r2,r3⟩:=HF.out _ L;go_wp2_with fail
 clear x0 x1 y0 y1 hx hy r0 r1 r2 r3;go_loopw [34] (fun iv wr=>∃(k:Nat) (zs:List Nat),k≤xs.length∧iv= .int .i64 k∧Row wr g N zs∧zs.length=N∧zi au zs∧Hid (val au zs=val au (xs.take k)*val au ys)∧Hid (∀p,k+ys.length≤p→nth zs p=0)∧Below W0.heap.size W0 wr) (fun iv _=>xs.length-(intOf iv).toNat)
 case atStart=>exact ⟨0,List.replicate N 0,om,rfl,hrow,by simp,by intro x hx;rw[List.eq_of_mem_replicate hx];unfold au;omega,by show _=_;rw[RY,List.take_zero];simp[val],fun p _=>nk _ _,L⟩
 case round=>
  obtain ⟨k,zs,hk,rfl,hrw,hzl,hzs,HV,HZ,hbel⟩:=hrel;obtain ⟨⟨⟨x0,x1,y0,y1⟩,hx,hy⟩,r0,r1,r2,r3⟩:=HF.out _ hbel;by_cases hkn:k<xs.length
  · obtain ⟨wo,rfl⟩:∃wo:World,wo=wr:=⟨_,rfl⟩;have hm1:(k:Int)<(xs.length:Int):=om;have HX0:Hid (val au zs+au^(k+0)*(0:Int).toNat=val au (xs.take k)*val au ys+au^k*(xs.getD k 0*val au (ys.take 0))):=by
     show _=_;rw[HV.out];simp[val]
    go_wp2_with fail
    clear x0 x1 y0 y1 hx hy r0 r1 r2 r3;go_loopw [8,40] (fun cv jv wi=>∃(j:Nat) (u:Int) (qs:List Nat),j≤ys.length∧jv= .int .i64 j∧cv= .int .u64 u∧0≤u∧u<1000000000000000000∧Row wi g N qs∧qs.length=N∧zi au qs∧
     Hid (val au qs+au^(k+j)*u.toNat=val au (xs.take k)*val au ys+au^k*(xs.getD k 0*val au (ys.take j)))∧Hid (∀p,k+ys.length≤p→nth qs p=0)∧Below W0.heap.size W0 wi) (fun _ jv _=>ys.length-(intOf jv).toNat)
    case atStart=>exact ⟨0,0,zs,om,rfl,rfl,om,om,hrw,hzl,hzs,HX0,HZ,hbel⟩
    case round=>
     obtain ⟨j,u,qs,hj,rfl,rfl,hu0,hu1,hrq,RG,YX,HQ,HZ2,gF⟩:=hrel;obtain ⟨⟨⟨x0,x1,y0,y1⟩,hx,hy⟩,r0,r1,r2,r3⟩:=HF.out _ gF;by_cases hjn:j<ys.length
     · have hN1:=HN.out;obtain ⟨b,o,rfl,hb,hc⟩:=hx.2 om;obtain ⟨b',o',rfl,hb',hc'⟩:=hy.2 om;have hcx:=hc k hkn;have hcy:=hc' j hjn;have hcz:=hrq.cell (j:=k+j) om;have hm2:(j:Int)<(ys.length:Int):=om;have hk0:(0:Int)≤(k:Int):=om;have hj0:(0:Int)≤(j:Int):=om;have hnx:=zw xs k;have hny:=zw ys j;have hnz:=zw qs (k+j);have hlx:=qj (by unfold au;omega) HS.out k;have hly:=qj (by unfold au;omega) HT.out j;have hlz:=qj (by unfold au;omega) YX (k+j);rw[Cw] at hlx hly hlz;obtain ⟨p0,p1⟩:=Dh HS.out HT.out k j;obtain ⟨P,hP⟩:∃P,P=nth xs k*nth ys j:=⟨_,rfl⟩;rw[←hP] at p0 p1;obtain ⟨m1,m2,m3,m4,m5⟩:=IW p0 p1 hnz hlz hu0 hu1;have hmul:=fun w=>IX (nth xs k) (nth ys j) hnx om hny om w;rw[←hP] at hmul;obtain ⟨h0,hh0⟩:∃h0,h0=P/18446744073709551616:=⟨_,rfl⟩;obtain ⟨l0,hl0⟩:∃l0,l0=P%18446744073709551616:=⟨_,rfl⟩;rw[←hh0,←hl0] at hmul;obtain ⟨l1,hl1⟩:∃l1,l1=(l0+nth qs (k+j))%18446744073709551616:=⟨_,rfl⟩;obtain ⟨c1,hc1⟩:∃c1,c1=(l0+nth qs (k+j))/18446744073709551616:=⟨_,rfl⟩;obtain ⟨l2,hl2⟩:∃l2,l2=(l1+u)%18446744073709551616:=⟨_,rfl⟩;obtain ⟨c2,hc2⟩:∃c2,c2=(l1+u)/18446744073709551616:=⟨_,rfl⟩;have b1:0≤l0:=om;have b2:0≤l1:=om;have b3:0≤l2∧l2<18446744073709551616:=om;have b4:0≤c1:=om;have b5:0≤c2:=om;have ha1:∀w,(callFunc 67 #[.int .u64 l0,.int .u64 (nth qs (k+j)),.int .u64 0]).run prog w= .ok (.value (.tuple #[.int .u64 l1,.int .u64 c1])) w:=fun w=>by rw[nZ l0 _ b1 hnz,hl1,hc1]
       have ha2:∀w,(callFunc 67 #[.int .u64 l1,.int .u64 u,.int .u64 0]).run prog w= .ok (.value (.tuple #[.int .u64 l2,.int .u64 c2])) w:=fun w=>by rw[nZ l1 _ b2 hu0,hl2,hc2]
       rw[←hh0,←hl0,←hl1,←hc1,←hl2,←hc2] at m3;rw[←hh0,←hl0,←hl1,←hc1,←hc2] at m5;rw[←hh0] at m1 m2;have hdv:=fun w=>BU (h0+c1+c2) l2 om m5 b3.1 b3.2 w;rw[m3] at hdv;obtain ⟨T,hT⟩:∃T,T=P+nth qs (k+j)+u:=⟨_,rfl⟩;rw[←hT] at hdv m4;obtain ⟨Q,hQ⟩:∃Q,Q=T/1000000000000000000:=⟨_,rfl⟩;obtain ⟨R,hR⟩:∃R,R=T%1000000000000000000:=⟨_,rfl⟩;rw[←hQ,←hR] at hdv;rw[←hQ] at m4;have hQ0:0≤Q:=om;have hR0:0≤R:=om;have hR1:R<1000000000000000000:=om;have HST:Hid (val au (qs.set (k+j) R.toNat)+au^(k+(j+1))*Q.toNat=val au (xs.take k)*val au ys+au^k*(xs.getD k 0*val au (ys.take (j+1)))):=by
        have hTn:T.toNat=xs.getD k 0*ys.getD j 0+qs.getD (k+j) 0+u.toNat:=by
         have e1:P=((xs.getD k 0*ys.getD j 0:Nat):Int):=by rw[hP];unfold nth;rw[←Int.natCast_mul]
         have e2:nth qs (k+j)=((qs.getD (k+j) 0:Nat):Int):=by unfold nth;rfl
         rw[hT,e1,e2];omega
        have h:=Nu (zs:=qs) (k:=k) (j:=j) (ys:=ys) om HQ.out hTn;have e3:R.toNat=T.toNat%au:=by rw[hR];unfold au;omega
        have e4:Q.toNat=T.toNat/au:=by rw[hQ];unfold au;omega
        show _=_;rw[e3,e4];exact h
       have hfz:=hrq.frozen (k+j);have hkj:(k:Int)+(j:Int)<(N:Int):=om;have atq:(0:Int)≤(k:Int)+(j:Int):=om;have hw64:IntKind.i64.wrap ((k:Int)+(j:Int))=(k:Int)+(j:Int):=IntWalk.i64_in _ om;clear hc hc' hP hh0 hl0 hl1 hc1 hl2 hc2 hT hQ hR m3 hN1 p0 p1;go_wp2_with fail
       go_quiet ((go_at_call 65;exact Calls.quiet_of_same (hmul _)))
       go_wp2_with (go_at_call 103;refine (hdv _).mono ?_;rintro e w' ⟨rfl,nd,rfl⟩)
       go_roundw
       case rel=>exact ⟨j+1,Q,qs.set (k+j) R.toNat,om,by go_num,rfl,hQ0,m4,by first | exact (hrq.drewN _).setInt R hR0 om | exact ((hrq.drewN _).drewN _).setInt R hR0 om,by rw[List.length_set];exact RG,vh YX _ _ (by unfold au;omega),HST,
        fun p hp=>by rw[ylv _ _ _ om,if_neg om];exact HZ2.out p hp,by first | exact (jn gF _).setCell hgW _ | exact (jn (jn gF _) _).setCell hgW _⟩
       case measure=>simp[intOf];omega
     · obtain rfl:j=ys.length:=om;have hN1:=HN.out;have hcz:=hrq.cell (j:=k+ys.length) om;have hz0:nth qs (k+ys.length)=0:=HZ2.out _ (Nat.le_refl _);rw[hz0] at hcz;have hfz:=hrq.frozen (k+ys.length);have hm2:¬(ys.length:Int)<(ys.length:Int):=om;have hkj:(k:Int)+(ys.length:Int)<(N:Int):=om;have atq:(0:Int)≤(k:Int)+(ys.length:Int):=om;have hw64:IntKind.i64.wrap ((k:Int)+(ys.length:Int))=(k:Int)+(ys.length:Int):=IntWalk.i64_in _ om;have hlq:k+ys.length<qs.length:=om;have HCL:Hid (val au (qs.set (k+ys.length) u.toNat)=val au (xs.take (k+1))*val au ys):=IV hlq (by unfold nth at hz0;omega) HQ.out;clear hz0 hN1;go_wp2_with fail
       go_roundw
       case rel=>exact ⟨k+1,qs.set (k+ys.length) u.toNat,om,by go_num,hrq.setInt u hu0 hlq,by rw[List.length_set];exact RG,vh YX _ _ (by unfold au;omega),HCL,
        fun p hp=>by rw[ylv _ _ _ hlq,if_neg om];exact HZ2.out p om,gF.setCell hgW _⟩
       case measure=>simp[intOf];omega
  · obtain rfl:k=xs.length:=om;have hm1:¬(xs.length:Int)<(xs.length:Int):=om;have atz:=hrw.nums hzl (VN hzs);have hfit:=fun w h=>Nt (n1 !=n2) (some ⟨g,0,none⟩) N zs w h hzs om;have hval:bg (n1 !=n2) (val au zs)=q:=HP.out _ (by rw[HV.out,List.take_length]);rw[hval,hzl] at hfit;clear hval;go_wp2_with (go_at_call 129;refine (hfit _ atz).mono ?_;rintro e w4 ⟨A4,c4,rfl,FC,hb4⟩;have LB:=hbel.trans (hb4.mono hbel.size);clear x0 x1 y0 y1 hx hy r0 r1 r2 r3;obtain ⟨⟨⟨x0,x1,y0,y1⟩,hx,hy⟩,r0,r1,r2,r3⟩:=HF.out _ LB)
    refine bodyPost_ret (v:=.tuple #[.agg #[.bool (decide (dz true q<0)),.slice A4 (limbs (dz true q)).length c4],.int .i64 (cK true q)]) (by simp[results,Tryz.results92,go_sem,r0,r1]) rfl ?_;exact ymv FC (LW.trans (LB.mono LW.size)) om (by have:=HWs.out;have:=hbel.size;omega) _ _
theorem RZ (hx:ay w A xs) (hy:ay w B ys) (hl:xs.length≤9223372036854775807) (hl':ys.length≤9223372036854775807) :
 Calls prog 92 #[.agg #[.bool n1,.slice A xs.length c],.agg #[.bool n2,.slice B ys.length d]] w
  (yb w (dz (zm n1 xs&&zm n2 ys) (num n1 xs*num n2 ys)) (cK (zm n1 xs&&zm n2 ys) (num n1 xs*num n2 ys))):=by
 cases h:(zm n1 xs&&zm n2 ys)
 · rw[yV,yX];exact RV n1 n2 A B c d xs ys w hx hy hl hl' h
 · obtain ⟨hg,hk⟩:=Bool.and_eq_true_iff.1 h;exact Nw n1 n2 A B c d xs ys w hx hy hg hk
end
section
variable {i j:Int} (A B:Option Addr) (c d:Nat) (w:World) (hi:i.natAbs<au^30) (hj:j.natAbs<au^30) (hx:ay w A (limbs i)) (hy:ay w B (limbs j))
include hi
include hx
include hj hy
theorem akz:Calls prog 92 #[.agg #[.bool (decide (i<0)),.slice A (limbs i).length c],.agg #[.bool (decide (j<0)),.slice B (limbs j).length d]] w (yb w (dz true (i*j)) (cK true (i*j))):=by
 have h:=RZ (decide (i<0)) (decide (j<0)) A B c d (limbs i) (limbs j) w hx hy (by have:=vf hi;omega) (by have:=vf hj;omega);rwa [qo hi,qo hj,gu,gu] at h
theorem akx:Calls prog 97 #[.agg #[.bool (decide (i<0)),.slice A (limbs i).length c],.agg #[.bool (decide (j<0)),.slice B (limbs j).length d]] w fun e w'=>e= .returned (.int .i64 (xR i j))∧Below w.heap.size w w':=by
 have h:=FI A B c d (limbs i) (limbs j) w (decide (i<0)) (decide (j<0)) hx hy (by have:=vf hi;omega) (by have:=vf hj;omega);rw[qo hi,qo hj,gu,gu] at h;unfold yZ at h;exact h
end
theorem I4 {i:Int} (h:cK true i=0):i.natAbs<au^30:=by
 unfold cK at h;rw[if_pos rfl] at h;split at h
 · assumption
 · cases h
structure PV where
 k:Int
 yes:Bool
 neg:Bool
 xs:List Nat
 bits:Nat
 s:ByteArray
 ni:Nat
structure PVp where
 a:Option Addr
 c:Nat
 b:Option Addr
 d:Nat
def PV.cells (v:PV) (p:PVp):List Value:=[.int .i64 v.k,.bool v.yes,.bool v.neg,.slice p.a v.xs.length p.c,.int .u64 (v.bits:Int),.string v.s,.slice p.b v.ni p.d]
def PV.val (v:PV) (p:PVp):Value:=.agg #[.int .i64 v.k,.bool v.yes,.bool v.neg,.slice p.a v.xs.length p.c,.int .u64 (v.bits:Int),.string v.s,.slice p.b v.ni p.d]
@[reducible] def bI (v:PV) (A:Option Addr) (c:Nat) (B:Option Addr) (d:Nat):Value:=.agg #[.int .i64 v.k,.bool v.yes,.bool v.neg,.slice A v.xs.length c,.int .u64 (v.bits:Int),.string v.s,.slice B v.ni d]
def PV.good (v:PV):Bool:=
 decide (v.ni=0)&&(if v.k=0 then !v.yes&&(!v.neg&&decide (v.xs.length=0))&&decide (v.bits=0)&&(v.s.toList==(⟨#[]⟩:ByteArray).toList)
  else if v.k=1 then (!v.neg&&decide (v.xs.length=0))&&decide (v.bits=0)&&(v.s.toList==(⟨#[]⟩:ByteArray).toList)
  else if v.k=2 then zm v.neg v.xs&& !v.yes&&decide (v.bits=0)&&(v.s.toList==(⟨#[]⟩:ByteArray).toList)
  else if v.k=3 then (!v.neg&&decide (v.xs.length=0))&& !v.yes&&(v.s.toList==(⟨#[]⟩:ByteArray).toList)
  else if v.k=4 then (!v.neg&&decide (v.xs.length=0))&& !v.yes&&decide (v.bits=0)&&decide (v.s.size≤20000)
  else false)
section
attribute [local irreducible] OW RS CW EW
theorem lH {P Q:Prop} (k:Q) (h:(Unit→Q)→P:=by
 intro zK;refine uP ?_;refine yn 19 rfl (by rw[hd]<;>rfl) (ya ?_);exact zK ()):P:=h fun _=>k
theorem yhv {P Q:Prop} (k:Q) (h:(Unit→Q)→P:=by
 intro zK;refine yx (qd xn rfl rfl aO rfl rfl (Nat.le_of_ble_eq_true rfl) ?_);exact zK ()):P:=h fun _=>k
theorem yix {P Q:Prop} (k:Q) (h:(Unit→Q)→P:=by
 intro zK;refine za rfl (Xq (cs:=#[.bool false,.slice none 0 0]) XD qM rfl rfl ?_);exact zK ()):P:=h fun _=>k
theorem zuk {P Q:Prop} (k:Q) (h:(Unit→Q)→P:=by
 intro zK;refine yx (qd xn rfl rfl aS rfl rfl (Nat.le_of_ble_eq_true rfl) ?_);exact zK ()):P:=h fun _=>k
theorem jk {P Q:Prop} (k:Q) (h:(Unit→Q)→P:=by
 intro zK;refine za rfl (xi qM ?_);exact zK ()):P:=h fun _=>k
theorem NC {P:Prop} (h:P:=by
 obtain ⟨⟨A2,c2⟩,e0,_⟩:=K.dep 12 rfl rfl rfl;exact ⟨vs 12,rfl,by rw[e0];rfl,by rw[e0];rfl⟩):P:=h
theorem Wh {P:Prop} (h:P:=by
 replace aS:=Bx;replace aO:=aO.aH dU (aj.cons bG aj.nil);replace E:=E.step1 dU (ah.tail ah.head);refine zq ?_;exact by rw[ylq e1,zwq e1];exact yyz (LW.step E ak).toBelow):P:=h
theorem ND {P:Prop} (h:P:=by
 rintro e w2 ⟨A2,c2,rfl,o2,hb⟩;exact ⟨_,rfl,hb,⟨(A2,c2),rfl,(Per.y8 o2 XN).map (fun _ h=>h.mono SQ)⟩⟩):P:=h
theorem Wi {P:Prop} (h:P:=by
 refine jz (τ:=[(2,_),(3,_),(4,_),(5,.int .i64 0),(6,_)]) ⟨rfl,rfl,rfl,congrArg some e14,rfl,trivial⟩ ?_;clear AL AF AA LE AO OY e12 e14 k12 k14 FK Sg;refine yf ?_;exact by rw[xy hsm,xz hsm];exact ⟨A2,c2,by rw[←hv];rfl,by rw[←hv];exact (HF.on E).here.2,aT LW E ak⟩):P:=h
theorem yyz {W w':World} {f:Int} (hb:Below W.heap.size W w'):yb W 0 f (.returned (.tuple #[.agg #[.bool false,.slice none 0 0],.int .i64 f])) w':=
 ⟨none,0,by rw[qn];rfl,by rw[qn];exact Own.nil _ _,hb⟩
theorem oW {w:World} {base c g:Nat} {A:Option Addr} {xs:List Nat} {t:TypeId} {cs:Array Value} (h:Own w base A c xs) (hb:aA w g t cs) (ht:25≠t):Apart (Value.slice A xs.length c).ownBlock (some g):=
 fun k e f=>yfk h.1 hb ht (e.trans f.symm)
theorem Per.atx {l:List (Option Nat)} {w:World} {base c:Nat} {A:Option Addr} {xs:List Nat} (h:Own w base A c xs) (hn:aj (Value.slice A xs.length c).ownBlock l):Per (ah l) w (fun b=>Own b base A c xs):=
 fun _ hb=>⟨zk h.1 hb hn,h.2⟩
theorem Per.y8 {X:Nat→Prop} {w:World} {base c:Nat} {A:Option Addr} {xs:List Nat} (h:Own w base A c xs) (hx:∀k,X k→k<base):Per X w (fun b=>Own b base A c xs):=fun b hb=>by
 have hb':Ext (ah [none]) w b∨True:=Or.inr trivial;refine ⟨(⟨h.1.1,?_⟩),h.2⟩;rcases h.1.2 with h2 | ⟨g,cap,cur,hv,hg,hh,r⟩
 · exact Or.inl h2
 · exact Or.inr ⟨g,cap,cur,hv,hg,(hb.block g (Array.getElem?_eq_some_iff.1 hh).1 (fun e=>by have:=hx g e;omega)).trans hh,r⟩
theorem I6 {w:World} {b o:Nat} {v:Value} (h:w.cell? ⟨b,o,none⟩=some v):b<w.heap.size:=by
 unfold World.cell? at h;simp only[] at h
 split at h
 · rename_i c t fr hh;exact (Array.getElem?_eq_some_iff.1 hh).1
 · cases h
theorem Per.cell0 {w:World} {g o:Nat} {v:Value} (h:w.cell? ⟨g,o,none⟩=some v):Per No w (fun b=>b.cell? ⟨g,o,none⟩=some v):=fun b hb=>by
 have hlt:g<w.heap.size:=I6 h;show b.cell? ⟨g,o,none⟩=some v
 rw[hb.cell (p:=⟨g,o,none⟩) hlt (fun e=>e.elim)];exact h
section
variable (n1 n2:Bool) (A B:Option Addr) (c d:Nat) (xs ys:List Nat) (w:World)
end
section
variable (i j:Int) (A B:Option Addr) (c d:Nat) (w:World) (hi:i.natAbs<au^30) (hj:j.natAbs<au^30) (hx:ay w A (limbs i)) (hy:ay w B (limbs j))
include hi hj hx hy
theorem pow_zero (h0:j=0):Calls prog 91 #[.agg #[.bool (decide (i<0)),.slice A (limbs i).length c],.agg #[.bool (decide (j<0)),.slice B (limbs j).length d]] w (yb w 1 0):=by
 have hd:decide (j<0)=false:=by rw[h0];rfl
 have hlen:(limbs j).length=0:=by rw[h0,qn];rfl
 refine zh func91 ntmps91 fun HF LW ak E=>?_;replace HF:=HF.and (Per.aF hx);replace HF:=HF.and (Per.aF hy);refine zo ?_;refine zl HF LW E ak fun aK w2 HF LW E=>(zl HF LW E ak fun rT w4 HF LW E=>(km qM HF LW E ak fun bC w6 aS cB HF E ak=>?_));refine zn ?_;refine vr uG (Ig A c _ hi (HF.on E).here.1.1.1.2) E aS fun w7 E aS=>(yl ?_);refine vr uG (Ig B d _ hj (HF.on E).here.1.1.2) E aS fun w8 E aS=>(lH ?_);have S1:=Nat.le_trans LW.size E.size;refine yjq qN (Rw 1 _ de de) HF LW E ak (fun o=>Per.y8 o (ah.grow ah.none_ (zj aS.lt))) aS fun A1 c1 w9 HF LW E aS=>(jk ?_);intro aX gX aO bN bZ;have bG:Apart (some aX) (some bC):=Apart.of_lt (zj aS.lt) bZ;have dn:=bG.symm;replace aS:=aS.aH bN aj.nil;obtain ⟨bZ,HF,E,ak⟩:=GA HF LW E ak bN bZ;refine yhv ?_;intro dW Bx bN;replace aO:=Bx;replace aS:=aS.aH bN (aj.cons dn aj.nil);replace E:=E.step1 bN ah.head;refine qa ?_;refine qk 25 rfl (by rw[hlen];rfl) (yf ?_);refine zuk ?_;intro vN Bx dU;replace aS:=Bx;replace aO:=aO.aH dU (aj.cons bG aj.nil);replace E:=E.step1 dU (ah.tail ah.head);refine zq ?_;exact ⟨A1,c1,rfl,((HF.on E).here.2).mono S1,aT LW E ak⟩
end
theorem y9 {j:Int} (h0:j≠0):nth (limbs j) 0=((j.natAbs%au:Nat):Int):=by
 unfold nth;rw[yo,ga yq om];rfl
theorem zA {j:Int} (h0:j≠0) (h:j.natAbs<au):(limbs j).length=1:=by
 rw[yo,ga yq om,Nat.div_eq_of_lt h];rfl
theorem zB {j:Int} (h:au≤j.natAbs):1<(limbs j).length:=by
 rcases Nat.lt_or_ge 1 (limbs j).length with h1 | h1
 · exact h1
 · have:=(yp yq j.natAbs 1).1 (by rw[←yo];exact h1);rw[Nat.pow_one] at this;omega
theorem ybk {j:Int} (h0:j≠0):0<(limbs j).length:=by rw[yo];exact YP yq om
theorem qaq (i:Int) (n:Nat):(i^n).natAbs=i.natAbs^n:=Int.natAbs_pow i n
theorem zC {i:Int} (h:i.natAbs=1) (n:Nat):i^n=if decide (i<0)&&decide (n%2=1) then -1 else 1:=by
 rcases (by omega:i=1∨i= -1) with rfl | rfl
 · rw[Int.one_pow];simp
 · have key:∀n:Nat,((-1:Int))^n=if n%2=1 then -1 else 1:=by
    intro n;induction n with
    | zero=>rfl
    | succ n ih=>rw[Int.pow_succ,ih];split<;>split<;>omega
   rw[key];simp
theorem Si {n:Nat} (hn:1800≤n):au^30≤2^n:=by
 have h1:∀a b,a=200→b=9→au^30≤(2^a)^b:=by rintro _ _ rfl rfl;unfold au;decide +kernel
 obtain ⟨a,b,ha,hb,hab⟩:∃a b,a=200∧b=9∧a*b≤n:=⟨200,9,rfl,rfl,hn⟩;have h2:=h1 a b ha hb;rw[←Nat.pow_mul] at h2;exact Nat.le_trans h2 (Nat.pow_le_pow_right de hab)
theorem oZ {i:Int} (h:2≤i.natAbs) {n:Nat} (hn:1800≤n):au^30≤(i^n).natAbs:=by
 rw[qaq];exact Nat.le_trans (Si hn) (Nat.pow_le_pow_left h n)
theorem NG {i:Int} (h:1≤i.natAbs) {k n:Nat} (hk:k≤n):(i^k).natAbs≤(i^n).natAbs:=by
 rw[qaq,qaq];exact Nat.pow_le_pow_right h hk
theorem zD {i:Int} (hi1:i.natAbs=1) (n:Nat) (b:Bool) (hb:b=(decide (i<0)&&decide (n%2=1))):bg b (val au (limbs i))=i^n:=by
 have Sj:limbs i= [1]:=by rw[yo,hi1];rfl
 rw[zC hi1,Sj,←hb];cases b<;>rfl
theorem NH {j:Int} (h0:0<j):(((j.natAbs%au:Nat):Int).tmod 2==1)=decide (j.toNat%2=1):=by
 have hpar:((j.natAbs%au:Nat):Int).tmod 2=((j.toNat%2:Nat):Int):=by
  rw[Int.tmod_eq_emod_of_nonneg om];have e1:(j.natAbs%au)%2=j.natAbs%2:=Nat.mod_mod_of_dvd _ (by unfold au;decide);have e2:j.natAbs=j.toNat:=om;rw[←e2,←e1];omega
 rw[hpar,Bool.eq_iff_iff];simp
 omega
section
variable (i j:Int) (A B:Option Addr) (c d:Nat) (w:World) (hi:i.natAbs<au^30) (hj:j.natAbs<au^30) (hx:ay w A (limbs i)) (hy:ay w B (limbs j))
include hi hj hx hy
theorem Dl (h0:0<j) (hi0:i=0):Calls prog 91 #[.agg #[.bool (decide (i<0)),.slice A (limbs i).length c],.agg #[.bool (decide (j<0)),.slice B (limbs j).length d]] w (yb w 0 0):=by
 have hd:decide (j<0)=false:=decide_eq_false om;have hlen:((limbs j).length:Int)≠0:=by have:=ybk (j:=j) om;omega
 have hdi:decide (i<0)=false:=by rw[hi0];rfl
 have Sj:limbs i= []:=by rw[hi0,qn]
 have hlz:((limbs i).length:Int)=0:=by rw[Sj];rfl
 refine zh func91 ntmps91 fun HF LW ak E=>?_;replace HF:=HF.and (Per.aF hx);replace HF:=HF.and (Per.aF hy);refine zo ?_;refine zl HF LW E ak fun aK w2 HF LW E=>(zl HF LW E ak fun rT w4 HF LW E=>(km qM HF LW E ak fun bC w6 aS cB HF E ak=>?_));refine zn ?_;refine vr uG (Ig A c _ hi (HF.on E).here.1.1.1.2) E aS fun w7 E aS=>(yl ?_);refine vr uG (Ig B d _ hj (HF.on E).here.1.1.2) E aS fun w8 E aS=>(lH ?_);refine za rfl (zc qN rfl ((Rw 1 _ de de).mono ?_));rintro e w9 ⟨A1,c1,rfl,o1,hb⟩;refine ⟨_,rfl,?_⟩;have Ec:=Ext.of_below hb No;replace aS:=aS.aH Ec aj.nil;replace E:=E.trans Ec.no;refine jk ?_;intro aX gX aO bN bZ;have bG:Apart (some aX) (some bC):=Apart.of_lt (zj aS.lt) bZ;have dn:=bG.symm;replace aS:=aS.aH bN aj.nil;obtain ⟨bZ,HF,E,ak⟩:=GA HF LW E ak bN bZ;refine yhv ?_;intro dW Bx bN;replace aO:=Bx;replace aS:=aS.aH bN (aj.cons dn aj.nil);replace E:=E.step1 bN ah.head;refine qa ?_;refine yn 25 rfl (by rw[beq_eq_false_iff_ne.2 hlen]<;>rfl) (qa ?_);refine xv 31 rfl (by rw[hlz];rfl) (od ?_);have OY:∀q9,(ah (oj [⟨13,bC,24,#[.bool false,.slice none 0 0]⟩])) q9→q9<(World.drew dW).heap.size→(ah [(some aX),(some bC)]) q9:=fun k h _=>((ah.grow ah.none_ (ah.tail ah.head))) k h;refine qr (ah [(some aX),(some bC)]) (ah.grow (ah.grow ah.none_ (zj aS.lt)) (zj aO.lt)) [] [⟨13,bC,24,#[.bool false,.slice none 0 0]⟩] (gH [Fx.of (.pointer (some ⟨aK,0,none⟩)),
  Fx.of (.bool false),
  Fx.of (.bool false),
  Fx.of undef,
  Fx.of undef,
  Fx.of undef,
  Fx.of undef,
  Fx.of undef,
  Fx.of undef,
  Fx.of (.bool false),
  Fx.of (.pointer (some ⟨aK,1,none⟩)),
  Fx.of (.slice A (limbs i).length c),
  ⟨(Option Addr×Nat),fun (A2,c2)=>.agg #[.bool (decide (bg false (val au (limbs i))<0)),.slice A2 (limbs (bg false (val au (limbs i)))).length c2],fun (A2,c2) b=>(Own b w.heap.size A2 c2 (limbs (bg false (val au (limbs i)))))⟩,
  Fx.of undef,
  Fx.of (.int .i64 0)]) mixed rfl ⟨⟨(ah.tail ah.head) _ rfl,aS,fun _ h=>by cases h⟩,trivial⟩ (by intro o ho;simp at ho;rcases ho with rfl<;>simp) ?_ ?_
 · refine ⟨arm,?_,arm,arm,arm,arm,arm,arm,arm,arm,arm,arm,?_,?_,arm,trivial⟩
   · refine yt ?_;intro vs X wq K;have LE:=K.1;exact UA underlying4 rfl rfl (HF.on (E.drew.trans (LE.mono OY))).here.1.2 rfl ⟨Below.refl _ _,Left.of ((by rw[hdi]:(.bool (decide (i<0)):Value)=_))⟩
   · refine yt ?_;intro vs X wq K;have LE:=K.1;have XN:=K.2.1;have SQ:=Nat.le_trans LW.size (Nat.le_trans E.size LE.size);refine zc XH rfl ((kh false A c (limbs i) _ (HF.on (E.drew.trans (LE.mono OY))).here.1.1.1.2 (by rw[Sj];exact jg) (by rw[Sj];simp)).mono ?_);exact ND
   · refine ⟨_,_,_,_,_,rfl,rfl,xn,fun vs X wq K=>⟨rfl,?_⟩⟩;exact NC
 intro vs vN LE AO AL AF AA;have FK:=aO;have Sg:=aS;replace aO:=aO.drew.aH LE (aj.cons bG aj.nil);replace E:=E.drew.trans (LE.mono OY);obtain ⟨⟨A2,c2⟩,e12,k12⟩:=AL.2.2.2.2.2.2.2.2.2.2.2.2.1;obtain ⟨_,e14,k14⟩:=AL.2.2.2.2.2.2.2.2.2.2.2.2.2.2.1;obtain ⟨v0,y0,Bx,ey,Bg⟩:=AO.1;cases ey
 obtain rfl:vs 12=v0:=Option.some.inj Bg;rw[e12] at Bx;replace aS:aA vN bC 24 #[.bool (decide (bg false (val au (limbs i))<0)),.slice A2 (limbs (bg false (val au (limbs i)))).length c2]:=Bx;obtain ⟨HF,LW,E⟩:=qU HF LW E ak ((k12.map (fun _ h=>h):Per (ah [(some aX),(some bC)]) vN (fun b=>Own b w.heap.size A2 c2 (limbs (bg false (val au (limbs i)))))));refine jz (τ:=[(2,_),(3,_),(4,_),(5,.int .i64 0),(6,_)]) ⟨rfl,rfl,rfl,congrArg some e14,rfl,trivial⟩ ?_;clear AL AF AA LE AO OY e12 e14 k12 k14 FK Sg;have e0:bg false (val au (limbs i))=0:=by rw[Sj];rfl
 refine yf ?_;exact ⟨A2,c2,by rw[e0];rfl,by rw[←e0];exact (HF.on E).here.2,aT LW E ak⟩
theorem Zz (h0:0<j) (hi0:i≠0):Calls prog 91 #[.agg #[.bool (decide (i<0)),.slice A (limbs i).length c],.agg #[.bool (decide (j<0)),.slice B (limbs j).length d]] w (yb w (dz true (i^j.toNat)) (cK true (i^j.toNat))):=by
 have hd:decide (j<0)=false:=decide_eq_false om;have hip:=ybk (j:=i) om;have hjp:=ybk (j:=j) om;have hlen:((limbs j).length:Int)≠0:=om;have al0:((limbs i).length:Int)≠0:=om;obtain ⟨bx,ox,rfl,hbx,hcx⟩:=hx.2 hip;obtain ⟨by_,oy,rfl,hby,hcy⟩:=hy.2 hjp;have hc0:w.cell? ⟨bx,ox+0,none⟩=some (.int .u64 ((i.natAbs%au:Nat):Int)):=by rw[hcx 0 hip,y9 om]
 have hd0:w.cell? ⟨by_,oy+0,none⟩=some (.int .u64 ((j.natAbs%au:Nat):Int)):=by rw[hcy 0 hjp,y9 om]
 refine zh func91 ntmps91 fun HF LW ak E=>?_;replace HF:=HF.and (Per.aF hx);replace HF:=HF.and (Per.aF hy);replace HF:=HF.and (Per.cell0 hc0);replace HF:=HF.and (Per.cell0 hd0);refine zo ?_;refine zl HF LW E ak fun aK w2 HF LW E=>(zl HF LW E ak fun rT w4 HF LW E=>(km qM HF LW E ak fun bC w6 aS cB HF E ak=>?_));refine zn ?_;refine vr uG (Ig _ c _ hi (HF.on E).here.1.1.1.1.1.2) E aS fun w7 E aS=>(yl ?_);refine vr uG (Ig _ d _ hj (HF.on E).here.1.1.1.1.2) E aS fun w8 E aS=>(lH ?_);have S1:=Nat.le_trans LW.size E.size;refine yjq qN (Rw 1 _ de de) HF LW E ak (fun o=>Per.y8 o (ah.grow ah.none_ (zj aS.lt))) aS fun A1 c1 w9 HF LW E aS=>(jk ?_);intro aX gX aO bN bZ;have bG:Apart (some aX) (some bC):=Apart.of_lt (zj aS.lt) bZ;have dn:=bG.symm;replace aS:=aS.aH bN aj.nil;obtain ⟨bZ,HF,E,ak⟩:=GA HF LW E ak bN bZ;refine yhv ?_;intro dW Bx bN;replace aO:=Bx;replace aS:=aS.aH bN (aj.cons dn aj.nil);replace E:=E.step1 bN ah.head;refine qa ?_;refine yn 25 rfl (by rw[beq_eq_false_iff_ne.2 hlen]<;>rfl) (ya ?_);replace HF:=HF.on E;replace LW:=LW.step E ak;replace E:=aB (ah [(some aX),(some bC)]) dW;refine vk (ι:=Bool) (fun u=>[(2,.pointer (some ⟨aK,0,none⟩)),(3,.pointer (some ⟨rT,0,none⟩)),(4,.pointer (some ⟨bC,0,none⟩)),(5,.int .i64 0),(6,.pointer (some ⟨aX,0,none⟩)),(43,.bool u)]) (fun u w'=>Ext (ah [(some aX),(some bC)]) dW w'∧aA w' aX 24 (#[.bool (decide ((1:Int)<0)),.slice A1 (limbs 1).length c1])∧aA w' bC 24 (#[.bool false,.slice none 0 0])∧((u=true↔i.natAbs=1))) ?_ ?_
 ·
  have wG:=aB (ah [(some aX),(some bC)]) dW;have dR:=aP (ah [(some aX),(some bC)]) dW;refine zq ?_;refine gy 31 rfl (by rw[beq_eq_false_iff_ne.2 al0]<;>rfl) (ya ?_);by_cases h:i.natAbs<au
  ·
   have h1:((limbs i).length:Int)=1:=by rw[zA om h];rfl
   refine xv 36 rfl (by rw[h1];rfl) (zo ?_);refine fU rfl (vd (j:=0) u22 uy rfl rfl rfl hip (ya ?_));exact yy (((i.natAbs%au:Nat):Int)==1) ⟨rfl,rfl,rfl,rfl,rfl,rfl,trivial⟩ ⟨wG.step E dR,(by exact aO),(by exact aS),by rw[Nat.mod_eq_of_lt h,beq_iff_eq];omega⟩
  ·
   have h1:((limbs i).length:Int)≠1:=by have:=zB (j:=i) om;omega
   refine gy 36 rfl (by rw[beq_eq_false_iff_ne.2 h1]<;>rfl) (yu ?_);exact yy false ⟨rfl,rfl,rfl,rfl,rfl,rfl,trivial⟩ ⟨wG.step E dR,(by exact aO),(by exact aS),⟨fun e=>absurd e de,fun e=>by unfold au at h;omega⟩⟩
 ·
  have NI:=(zj aO.lt);have ZA:=(zj aS.lt);rintro u fu ⟨wG,aO,aS,hu⟩;replace E:=E.trans wG;replace HF:=HF.on E;replace LW:=LW.step E ak;replace E:=aB (ah [(some aX),(some bC)]) fu;clear NI;clear ZA;by_cases h1:i.natAbs=1
  ·
   have Sj:limbs i= [1]:=by rw[yo,h1];rfl
   have hsm:(i^j.toNat).natAbs<au^30:=by rw[qaq,h1,Nat.one_pow];exact Nat.one_lt_pow de (by unfold au;omega)
   refine qk 43 rfl (by rw[hu.2 h1]<;>rfl) ?_;by_cases hn:i<0
   ·
    have hv:=zD h1 j.toNat (decide (j.toNat%2=1)) (by rw[decide_eq_true hn,Bool.true_and]);refine zo ?_;have OY:∀q9,(ah (oj [⟨13,bC,24,#[.bool false,.slice none 0 0]⟩])) q9→q9<(World.drew fu).heap.size→(ah [(some aX),(some bC)]) q9:=fun k h _=>((ah.grow ah.none_ (ah.tail ah.head))) k h;refine qr (ah [(some aX),(some bC)]) (ah.grow (ah.grow ah.none_ (zj aS.lt)) (zj aO.lt)) [] [⟨13,bC,24,#[.bool false,.slice none 0 0]⟩] (gH [Fx.of (.pointer (some ⟨aK,0,none⟩)),
     Fx.of (.bool true),
     Fx.of (.bool true),
     Fx.of (.pointer (some ⟨rT,1,none⟩)),
     Fx.of (.slice (some ⟨by_,oy,none⟩) (limbs j).length d),
     Fx.of (.pointer (some ⟨by_,oy+0,none⟩)),
     Fx.of (.int .u64 ((j.natAbs%au:Nat):Int)),
     Fx.of (.int .u64 (((j.natAbs%au:Nat):Int).tmod 2)),
     Fx.of (.bool (decide (j.toNat%2=1))),
     Fx.of (.bool (decide (j.toNat%2=1))),
     Fx.of (.pointer (some ⟨aK,1,none⟩)),
     Fx.of (.slice (some ⟨bx,ox,none⟩) (limbs i).length c),
     ⟨(Option Addr×Nat),fun (A2,c2)=>.agg #[.bool (decide (bg (decide (j.toNat%2=1)) (val au (limbs i))<0)),.slice A2 (limbs (bg (decide (j.toNat%2=1)) (val au (limbs i)))).length c2],fun (A2,c2) b=>(Own b w.heap.size A2 c2 (limbs (bg (decide (j.toNat%2=1)) (val au (limbs i)))))⟩,
     Fx.of undef,
     Fx.of (.int .i64 0)]) mixed rfl ⟨⟨(ah.tail ah.head) _ rfl,aS,fun _ h=>by cases h⟩,trivial⟩ (by intro o ho;simp at ho;rcases ho with rfl<;>simp) ?_ ?_
    · refine ⟨arm,?_,arm,arm,arm,?_,arm,?_,?_,arm,arm,arm,?_,?_,arm,trivial⟩
      · refine yt ?_;intro vs X wq K;have LE:=K.1;exact UA underlying4 rfl rfl (HF.on (E.drew.trans (LE.mono OY))).here.1.1.2 rfl ⟨Below.refl _ _,Left.of ((by rw[decide_eq_true hn]:(.bool (decide (i<0)):Value)=_))⟩
      · refine yt ?_;intro vs X wq K;exact vt rfl (vd (j:=0) u22 uy rfl rfl rfl hjp ⟨Below.refl _ _,Left.of rfl⟩)
      · refine yt ?_;intro vs X wq K;exact vt rfl (ju rfl rfl de rfl ⟨Below.refl _ _,Left.of rfl⟩)
      · refine yt ?_;intro vs X wq K;exact vt rfl (Bn rfl rfl ⟨Below.refl _ _,Left.of ((by rw[NH h0]:(.bool ((((j.natAbs%au:Nat):Int).tmod 2)==1):Value)=_))⟩)
      · refine yt ?_;intro vs X wq K;have LE:=K.1;have XN:=K.2.1;have SQ:=Nat.le_trans LW.size (Nat.le_trans E.size LE.size);refine zc XH rfl ((kh (decide (j.toNat%2=1)) _ c (limbs i) _ (HF.on (E.drew.trans (LE.mono OY))).here.1.1.1.1.1.1.2 (zbx i) (by rw[Sj];decide)).mono ?_);exact ND
      · refine ⟨_,_,_,_,_,rfl,rfl,xn,fun vs X wq K=>⟨rfl,?_⟩⟩;exact NC
    intro vs Ck LE AO AL AF AA;have FK:=aO;have Sg:=aS;replace aO:=aO.drew.aH LE (aj.cons bG aj.nil);replace E:=E.drew.trans (LE.mono OY);obtain ⟨⟨A2,c2⟩,e12,k12⟩:=AL.2.2.2.2.2.2.2.2.2.2.2.2.1;obtain ⟨_,e14,k14⟩:=AL.2.2.2.2.2.2.2.2.2.2.2.2.2.2.1;obtain ⟨v0,y0,Bx,ey,Bg⟩:=AO.1;cases ey
    obtain rfl:vs 12=v0:=Option.some.inj Bg;rw[e12] at Bx;replace aS:aA Ck bC 24 #[.bool (decide (bg (decide (j.toNat%2=1)) (val au (limbs i))<0)),.slice A2 (limbs (bg (decide (j.toNat%2=1)) (val au (limbs i)))).length c2]:=Bx;obtain ⟨HF,LW,E⟩:=qU HF LW E ak ((k12.map (fun _ h=>h):Per (ah [(some aX),(some bC)]) Ck (fun b=>Own b w.heap.size A2 c2 (limbs (bg (decide (j.toNat%2=1)) (val au (limbs i)))))));exact Wi
   ·
    have hv:=zD h1 j.toNat false (by rw[decide_eq_false hn];rfl);refine zo ?_;have OY:∀q9,(ah (oj [⟨13,bC,24,#[.bool false,.slice none 0 0]⟩])) q9→q9<(World.drew fu).heap.size→(ah [(some aX),(some bC)]) q9:=fun k h _=>((ah.grow ah.none_ (ah.tail ah.head))) k h;refine qr (ah [(some aX),(some bC)]) (ah.grow (ah.grow ah.none_ (zj aS.lt)) (zj aO.lt)) [] [⟨13,bC,24,#[.bool false,.slice none 0 0]⟩] (gH [Fx.of (.pointer (some ⟨aK,0,none⟩)),
     Fx.of (.bool false),
     Fx.of (.bool false),
     Fx.of undef,
     Fx.of undef,
     Fx.of undef,
     Fx.of undef,
     Fx.of undef,
     Fx.of undef,
     Fx.of (.bool false),
     Fx.of (.pointer (some ⟨aK,1,none⟩)),
     Fx.of (.slice (some ⟨bx,ox,none⟩) (limbs i).length c),
     ⟨(Option Addr×Nat),fun (A2,c2)=>.agg #[.bool (decide (bg false (val au (limbs i))<0)),.slice A2 (limbs (bg false (val au (limbs i)))).length c2],fun (A2,c2) b=>(Own b w.heap.size A2 c2 (limbs (bg false (val au (limbs i)))))⟩,
     Fx.of undef,
     Fx.of (.int .i64 0)]) mixed rfl ⟨⟨(ah.tail ah.head) _ rfl,aS,fun _ h=>by cases h⟩,trivial⟩ (by intro o ho;simp at ho;rcases ho with rfl<;>simp) ?_ ?_
    · refine ⟨arm,?_,arm,arm,arm,arm,arm,arm,arm,arm,arm,arm,?_,?_,arm,trivial⟩
      · refine yt ?_;intro vs X wq K;have LE:=K.1;exact UA underlying4 rfl rfl (HF.on (E.drew.trans (LE.mono OY))).here.1.1.2 rfl ⟨Below.refl _ _,Left.of ((by rw[decide_eq_false hn]:(.bool (decide (i<0)):Value)=_))⟩
      · refine yt ?_;intro vs X wq K;have LE:=K.1;have XN:=K.2.1;have SQ:=Nat.le_trans LW.size (Nat.le_trans E.size LE.size);refine zc XH rfl ((kh false _ c (limbs i) _ (HF.on (E.drew.trans (LE.mono OY))).here.1.1.1.1.1.1.2 (zbx i) (by rw[Sj];decide)).mono ?_);exact ND
      · refine ⟨_,_,_,_,_,rfl,rfl,xn,fun vs X wq K=>⟨rfl,?_⟩⟩;exact NC
    intro vs w16 LE AO AL AF AA;have FK:=aO;have Sg:=aS;replace aO:=aO.drew.aH LE (aj.cons bG aj.nil);replace E:=E.drew.trans (LE.mono OY);obtain ⟨⟨A2,c2⟩,e12,k12⟩:=AL.2.2.2.2.2.2.2.2.2.2.2.2.1;obtain ⟨_,e14,k14⟩:=AL.2.2.2.2.2.2.2.2.2.2.2.2.2.2.1;obtain ⟨v0,y0,Bx,ey,Bg⟩:=AO.1;cases ey
    obtain rfl:vs 12=v0:=Option.some.inj Bg;rw[e12] at Bx;replace aS:aA w16 bC 24 #[.bool (decide (bg false (val au (limbs i))<0)),.slice A2 (limbs (bg false (val au (limbs i)))).length c2]:=Bx;obtain ⟨HF,LW,E⟩:=qU HF LW E ak ((k12.map (fun _ h=>h):Per (ah [(some aX),(some bC)]) w16 (fun b=>Own b w.heap.size A2 c2 (limbs (bg false (val au (limbs i)))))));exact Wi
  ·
   have h2i:2≤i.natAbs:=om;refine yn 43 rfl (by rw[Bool.eq_false_iff.2 (fun e=>h1 (hu.1 e))]<;>rfl) (qa ?_);by_cases hjb:j.natAbs<au
   ·
    have ejm:j.natAbs%au=j.toNat:=by rw[Nat.mod_eq_of_lt hjb];omega
    have h2:¬(1:Int)<((limbs j).length:Int):=by rw[zA om hjb];decide
    refine gy 61 rfl (by rw[decide_eq_false h2]<;>rfl) (zo ?_);refine fU rfl (vd (j:=0) u22 uy rfl rfl rfl hjp (ya ?_));by_cases hj2:2000<j
    ·
     have e1:=oZ h2i (n:=j.toNat) om;refine qk 67 rfl (by rw[ejm,decide_eq_true om]<;>rfl) (yl ?_);refine yix ?_;refine zuk ?_;intro mV Bx dU;exact Wh
    ·
     refine yn 67 rfl (by rw[ejm,decide_eq_false om]<;>rfl) (yu ?_);refine za rfl (vd (j:=0) u22 uy rfl rfl rfl hjp (aN ?_));refine ze 72 (.int .u64 (j.toNat:Int)) rfl (by rw[ejm]<;>rfl) (yf ?_);have b1:(i^0).natAbs<au^30:=by rw[Int.pow_zero];exact Nat.one_lt_pow de (by unfold au;omega)
     have e0:i^0=1:=Int.pow_zero i;replace aO:aA fu aX 24 #[.bool (decide (i^0<0)),.slice A1 (limbs (i^0)).length c1]:=by rw[e0];exact aO
     replace HF:=HF.on E;replace LW:=LW.step E ak;replace E:=aB (ah [(some aX),(some bC)]) fu;refine qt (ι:=Nat×Option Addr×Nat) (fun (k,A1,c1)=>[(2,.pointer (some ⟨aK,0,none⟩)),(4,.pointer (some ⟨bC,0,none⟩)),(6,.pointer (some ⟨aX,0,none⟩)),(72,.int .u64 (j.toNat:Int)),(73,.int .u64 ((k:Nat):Int))]) (fun (k,A1,c1) w'=>Ext (ah [(some aX),(some bC)]) fu w'∧aA w' aX 24 (#[.bool (decide (i^k<0)),.slice A1 (limbs (i^k)).length c1])∧aA w' bC 24 (#[.bool false,.slice none 0 0])∧(k≤j.toNat∧(i^k).natAbs<au^30∧Own w' w.heap.size A1 c1 (limbs (i^k)))) (fun (k,A1,c1)=>j.toNat-k) (0,A1,c1) ⟨rfl,rfl,rfl,rfl,rfl,trivial⟩ ⟨Ext.refl _ _,(by exact aO),(by exact aS),⟨Nat.zero_le _,b1,by rw[e0];exact ((HF.on E).here.2).mono S1⟩⟩ ?_;have NI:=(zj aO.lt);have ZA:=(zj aS.lt);rintro ⟨k,A1,c1⟩ EU ⟨Ba,aO,aS,⟨hk,hb1,hown⟩⟩;have fI:bL (ah [(some aX),(some bC)]) (ah [(some aX),(some bC)]) fu:=(ah.grow (ah.grow ah.none_ (fun k e=>Or.inl ((ah.tail ah.head) k e))) (fun k e=>Or.inl (ah.head k e)));replace E:=E.trans Ba;replace HF:=HF.on E;replace LW:=LW.step E ak;replace E:=aB (ah [(some aX),(some bC)]) EU;clear NI;clear ZA;replace HF:=HF.on E;replace LW:=LW.step E ak;replace Ba:=Ba.step E fI;replace E:=aB (ah [(some aX),(some bC)]) EU;replace HF:=HF.and (Per.atx hown (aj.cons (oW hown aO de) (aj.cons (oW hown aS de) aj.nil)));refine zq ?_;refine zg rfl (fun hlt=>?_) (fun hlt=>?_)
     ·
      have hlt:=of_decide_eq_true hlt;refine yu ?_;refine za rfl (zc ac5 rfl ((akz A1 _ c1 c _ hb1 hi ((HF.on E).here.2).nums (HF.on E).here.1.1.1.1.1.1.1.2).mono ?_));rintro e JX ⟨A3,c3,rfl,o3,hb⟩;refine ⟨_,rfl,?_⟩;have XC:∀q9,(ah [(some aX),(some bC)]) q9→q9<EU.heap.size:=(ah.grow (ah.grow ah.none_ (zj aS.lt)) (zj aO.lt));have SC:=Nat.le_trans LW.size E.size;have Ec:=Ext.of_below hb No;replace aO:=aO.aH Ec aj.nil;replace aS:=aS.aH Ec aj.nil;replace E:=E.trans Ec.no;have S3:=SC;replace HF:=HF.on E;replace LW:=LW.step E ak;replace Ba:=Ba.step E fI;replace E:=aB (ah [(some aX),(some bC)]) JX;replace HF:=HF.and (Per.y8 o3 XC);refine yl ?_;refine jk ?_;intro kN Vy kP mX dY;have zF:Apart (some kN) (some aX):=Apart.of_lt (zj aO.lt) dY;have NJ:=zF.symm;have FL:Apart (some kN) (some bC):=Apart.of_lt (zj aS.lt) dY;have Sk:=FL.symm;replace aO:=aO.aH mX aj.nil;replace aS:=aS.aH mX aj.nil;obtain ⟨dY,HF,E,ak⟩:=GA HF LW E ak mX dY;replace fI:=ah.grow fI (fun k e=>Or.inr (Nat.le_trans Ba.size ((zf dY) k e)));refine yx (qd xn rfl rfl kP rfl rfl (Nat.le_of_ble_eq_true rfl) ?_);intro LZ Bx mX;replace kP:=Bx;replace aO:=aO.aH mX (aj.cons NJ aj.nil);replace aS:=aS.aH mX (aj.cons Sk aj.nil);replace E:=E.step1 mX ah.head;refine yd ?_;refine zg rfl (fun q=>?_) (fun q=>?_)
      ·
       have e1:au^30≤(i^j.toNat).natAbs:=by
        have h7:¬(i^k*i).natAbs<au^30:=fun h9=>by rw[xz h9] at q;exact absurd q de
        have h8:=NG (i:=i) om (show k+1≤j.toNat from om);rw[Int.pow_succ] at h8;omega
       have e2:cK true (i^k*i)=7:=zwq (by
        rcases Nat.lt_or_ge (i^k*i).natAbs (au^30) with h9 | h9
        · rw[xz h9] at q;exact absurd q de
        · exact h9)
       refine zo ?_;refine yix ?_;refine aN ?_;refine zuk ?_;intro w24 Bx dU;replace aS:=Bx;replace kP:=kP.aH dU (aj.cons FL aj.nil);replace aO:=aO.aH dU (aj.cons bG aj.nil);replace E:=E.step1 dU (ah.tail (ah.tail ah.head));refine yd ?_;refine yi 5 (.int .i64 7) rfl ((by rw[e2]:(.int .i64 (cK true (i^k*i)):Value)=_)) (aN ?_);exact by rw[ylq e1,zwq e1];exact yyz (LW.step E ak).toBelow
      ·
       have h9:(i^k*i).natAbs<au^30:=I4 (by simpa using q);have eV:dz true (i^k*i)=i^(k+1):=by rw[xy h9,Int.pow_succ]
       refine yf ?_;refine yhv ?_;intro PU Bx bN;replace aO:=Bx;replace kP:=kP.aH bN (aj.cons zF aj.nil);replace aS:=aS.aH bN (aj.cons dn aj.nil);replace E:=E.step1 bN (ah.tail ah.head);refine yf ?_;refine oz ?_;refine zo ?_;rw[eV] at aO;exact yk (k+1,A3,c3) (by show j.toNat-(k+1)<j.toNat-k;omega) ⟨rfl,rfl,rfl,rfl,rfl,trivial⟩ ⟨Ba.step E fI,(by exact aO),(by exact aS),om,by rw[Int.pow_succ];exact h9,by rw[←eV];exact ((HF.on E).here.2).mono S3⟩
     ·
      have hge:=of_decide_eq_false hlt;obtain rfl:k=j.toNat:=om;refine yu ?_;refine zuk ?_;intro w26 Bx dU;replace aS:=Bx;replace aO:=aO.aH dU (aj.cons bG aj.nil);replace E:=E.step1 dU (ah.tail ah.head);obtain ⟨HF,LW,ak,E⟩:=dL HF LW E ak (Y:=ah [(some aX)]) (ah.keep (ah.skip ah.aR)) (Per.aQ aS (aj.cons dn aj.nil));refine ya ?_;exact ⟨A1,c1,by rw[xy hb1,xz hb1];rfl,by rw[xy hb1];exact (HF.on E).here.1.2,aT LW E ak⟩
   ·
    have h2:(1:Int)<((limbs j).length:Int):=by have:=zB (j:=j) om;omega
    have e1:=oZ h2i (n:=j.toNat) (by unfold au at hjb;omega);refine xv 61 rfl (by rw[decide_eq_true h2]<;>rfl) (qa ?_);refine yix ?_;refine zuk ?_;intro Vz Bx dU;exact Wh
theorem atj (h0:0≤j):Calls prog 91 #[.agg #[.bool (decide (i<0)),.slice A (limbs i).length c],.agg #[.bool (decide (j<0)),.slice B (limbs j).length d]] w (yb w (dz true (i^j.toNat)) (cK true (i^j.toNat))):=by
 have hsmall:∀z:Int,z.natAbs≤1→z.natAbs<au^30:=fun z hz=>Nat.lt_of_le_of_lt hz (Nat.one_lt_pow de (by unfold au;omega));rcases Int.le_iff_lt_or_eq.1 h0 with hp | rfl
 · by_cases hi0:i=0
   · have e:i^j.toNat=0:=by rw[hi0];exact Int.zero_pow om
     rw[e,xy (hsmall 0 de),xz (hsmall 0 de)];exact Dl i j A B c d w hi hj hx hy hp hi0
   · exact Zz i j A B c d w hi hj hx hy hp hi0
 · have e:i^(0:Int).toNat=1:=Int.pow_zero i;rw[e,xy (hsmall 1 de),xz (hsmall 1 de)];exact pow_zero i 0 A B c d w hi hj hx hy rfl
end
theorem lI {P Q:Prop} (k:Q) (h:(Unit→Q)→P:=by
 intro zK;refine yx (qd xn rfl rfl aM rfl rfl (Nat.le_of_ble_eq_true rfl) ?_);exact zK ()):P:=h fun _=>k
theorem lJ {P Q:Prop} (k:Q) (h:(Unit→Q)→P:=by
 intro zK;refine yx (qd xn rfl rfl aZ rfl rfl (Nat.le_of_ble_eq_true rfl) ?_);exact zK ()):P:=h fun _=>k
theorem zG {P Q:Prop} (k:Q) (h:(Unit→Q)→P:=by
 intro zK;refine ya ?_;refine za rfl (zc aqx rfl ((Sl hM hm0 om om A1 A4 c1 c4 _ (HF.on E).here.1.1.1.1.2 (HF.on E).here.1.2).mono ?_));exact zK ()):P:=h fun _=>k
theorem zH {P Q:Prop} (k:Q) (h:(Unit→Q)→P:=by
 intro zK;refine zq ?_;refine zkv ?_;refine qu ?_;refine kz ?_;refine yl ?_;refine yn 18 rfl (by rw[jy,xb hf]<;>rfl) (yf ?_);exact zK ()):P:=h fun _=>k
theorem FM {P:Prop} (h:P:=by
 exact ⟨_,_,_,_,_,rfl,qM,rfl⟩):P:=h
theorem Wj {P:Prop} (h:P:=by
 obtain ⟨⟨A4,c4⟩,e0,_⟩:=K.dep 6 rfl rfl rfl;exact ⟨vs 6,rfl,by rw[e0];rfl,by rw[e0];rfl⟩):P:=h
theorem Wm {P:Prop} (h:P:=by
 intro vs X wq K;obtain ⟨⟨A4,c4⟩,e5,k5⟩:=K.dep 5 rfl rfl rfl;refine jc 59 _ rfl e5 ?_;exact xf rfl rfl ⟨Below.refl _ _,Left.of rfl⟩):P:=h
theorem Wn {P:Prop} (h:P:=by
 intro vs X wq K;obtain ⟨⟨A4,c4⟩,e4,k4⟩:=K.dep 4 rfl rfl rfl;refine jc 64 _ rfl e4 ?_;exact ykk rfl ⟨Below.refl _ _,⟨⟨A4,c4⟩,rfl,(k4.map (fun _ h=>h))⟩⟩):P:=h
theorem Wo {P:Prop} (h:P:=by
 intro vs X wq K;obtain ⟨⟨A4,c4⟩,e5,k5⟩:=K.dep 5 rfl rfl rfl;refine jc 59 _ rfl e5 ?_;exact xf rfl rfl ⟨Below.refl _ _,⟨⟨A4,c4⟩,rfl,(k5.map (fun _ h=>h))⟩⟩):P:=h
theorem Wp {P:Prop} (h:P:=by
 replace aM:=Bx;replace aZ:=aZ.aH kE (aj.cons lK aj.nil);replace E:=E.step1 kE (ah.tail ah.head);obtain ⟨HF,LW,ak,E⟩:=dL HF LW E ak (Y:=ah [(some bP)]) (ah.keep (ah.skip ah.aR)) (Per.aQ aM (aj.cons lM aj.nil));refine ya ?_;exact ⟨A5,c5,rfl,((HF.on E).here.1.1.1.2).mono hS,aT LW E ak⟩):P:=h
theorem Wq {P:Prop} (h:P:=by
 refine yt ?_;intro vs X wq K;have LE:=K.1;have XN:=K.2.1;obtain ⟨⟨A3,c3⟩,e3,k3⟩:=K.dep 3 rfl rfl rfl;refine jc 63 _ rfl e3 (zc ac4 rfl ((FN k A2 A3 c2 c3 _ om (HF.on (E.drew.trans (LE.mono OY))).here.1.2 k3.here).mono ?_));rintro e w2 ⟨A4,c4,rfl,o4,hb⟩;exact ⟨_,rfl,hb,⟨(A4,c4),rfl,Per.own o4 XN⟩⟩):P:=h
theorem NK {P:Prop} (h:P:=by
 refine yt ?_;intro vs X wq K;have XN:=K.2.1;refine zc qN rfl ((Rw ((k:Nat):Int) _ om om).mono ?_);rintro e w2 ⟨A3,c3,rfl,o3,hb⟩;exact ⟨_,rfl,hb,⟨(A3,c3),rfl,Per.own o3 XN⟩⟩):P:=h
theorem zzx {z:Int} (h:z.natAbs<9223372036854775809):z.natAbs<au^30:=Nat.lt_of_lt_of_le (Nat.lt_of_lt_of_le h de) (Nat.le_trans (oU (k:=64) (K:=1024) rfl rfl de) Dk)
theorem lN (k:Nat):((2:Int)^k).natAbs=2^k:=by rw[Int.natAbs_pow];rfl
theorem zI (k:Nat):(0:Int)<2^k:=Int.pow_pos de
theorem FP (k:Nat):decide ((2:Int)^k<0)=false:=decide_eq_false (by have:=zI k;omega)
theorem sK {k:Nat} (h:k≤1023):((2:Int)^k).natAbs<au^30:=by
 rw[lN];exact Nat.lt_of_lt_of_le (Nat.pow_lt_pow_right de (show k<1024 from om)) Dk
theorem FN (k:Nat) (A B:Option Addr) (c d:Nat) (w:World) (hk:k≤1023) (hx:ay w A (limbs 2)) (hy:ay w B (limbs ((k:Nat):Int))) :
 Calls prog 91 #[.agg #[.bool (decide ((2:Int)<0)),.slice A (limbs 2).length c],.agg #[.bool (decide (((k:Nat):Int)<0)),.slice B (limbs ((k:Nat):Int)).length d]] w (yb w ((2:Int)^k) 0):=by
 rcases Nat.eq_zero_or_pos k with h0 | h0
 · have h:=pow_zero 2 ((k:Nat):Int) A B c d w (zzx de) (zzx om) hx hy om;rw[h0] at h ⊢;exact h
 · have h:=atj 2 ((k:Nat):Int) A B c d w (zzx de) (zzx om) hx hy om;rw[Int.toNat_natCast,xy (sK hk),xz (sK hk)] at h;exact h
theorem NM {a M k:Nat} (hM:M=yw a*2^k) {n1:Bool} {m0:Int} (h0:m0=if ng a then -((M:Nat):Int) else ((M:Nat):Int)) (h1:n1=decide (m0<0)):dq n1 false M (2^k)=kf a:=by
 have hp:=qy k;have e1:M/2^k=yw a:=by rw[hM];exact Nat.mul_div_cancel _ hp
 have e2:M%2^k=0:=by rw[hM];exact Nat.mul_mod_left _ _
 unfold dq kf;rw[e1,e2,h1,h0];by_cases hz:yw a=0
 · rw[hz] at hM ⊢;rw[Nat.zero_mul] at hM;subst hM;cases ng a<;>simp
 · have hMp:0<M:=by rw[hM];exact Nat.mul_pos om hp
   cases ng a with
   | true=>simp only[if_true];rw[decide_eq_true om];rfl
   | false=>simp only[Bool.false_eq_true,if_false];rw[decide_eq_false om];rfl
theorem NP {x P:Nat} (hP:0<P) (h:0=x*P):x=0:=by
 rcases Nat.eq_zero_or_pos x with h' | h'
 · exact h'
 · have:=Nat.mul_pos h' hP;omega
theorem Dm {m e W P n k M:Nat} (hP:P=2^1074) (h:m*2^e=W*P*2^n) (hc:1074+n≤e) (hk:k=e-(1074+n)) (hM:M=m):W=M*2^k:=by
 have h1:P*2^n=2^(1074+n):=by rw[hP,Nat.pow_add]
 rw[Nat.mul_assoc,h1,qaz hc] at h;rw[hM,hk];exact (Nat.eq_of_mul_eq_mul_right (qy _) h).symm
theorem Dn {m e W P n k M:Nat} (hP:P=2^1074) (h:m*2^e=W*P*2^n) (hc:e≤1074+n) (hk:k=1074+n-e) (hM:M=m):M=W*2^k:=by
 have h1:P*2^n=2^(1074+n):=by rw[hP,Nat.pow_add]
 rw[Nat.mul_assoc,h1,qaz hc W] at h;rw[hM,hk];exact Nat.eq_of_mul_eq_mul_right (qy _) h
theorem ZB {m e W n k M:Nat} (h:m*2^e=W*2^1074*2^n) (hc:1074+n≤e) (hk:k=e-(1074+n)) (hM:M=m):W=M*2^k:=Dm rfl h hc hk hM
theorem ZC {m e W n k M:Nat} (h:m*2^e=W*2^1074*2^n) (hc:e≤1074+n) (hk:k=1074+n-e) (hM:M=m):M=W*2^k:=Dn rfl h hc hk hM
theorem Sl {a M k:Nat} {m0:Int} (hM:M=yw a*2^k) (h0:m0=if ng a then -((M:Nat):Int) else ((M:Nat):Int)) (hMb:M<9223372036854775808) (hk:k≤1023) (A B:Option Addr) (c d:Nat) (w:World) (hx:ay w A (limbs m0)) (hy:ay w B (limbs ((2:Int)^k))) :
 Calls prog 93 #[.agg #[.bool (decide (m0<0)),.slice A (limbs m0).length c],.agg #[.bool (decide ((2:Int)^k<0)),.slice B (limbs ((2:Int)^k)).length d]] w fun e w'=>∃A5 c5 B6 c6 r,e= .returned (.tuple #[.agg #[.bool (decide (kf a<0)),.slice A5 (limbs (kf a)).length c5],.agg #[.bool (decide (r<0)),.slice B6 (limbs r).length c6],.int .i64 0])∧Own w' w.heap.size A5 c5 (limbs (kf a))∧Below w.heap.size w w':=by
 have hma:m0.natAbs=M:=by rw[h0];split<;>omega
 have h:=IB A B c d (limbs m0) (limbs ((2:Int)^k)) w (decide (m0<0)) (decide ((2:Int)^k<0)) hx hy (qo (zzx om)) (qo (sK hk)) (ybk (by have:=zI k;omega));rw[yo m0,yo ((2:Int)^k),jj yq,jj yq,←yo,←yo,hma,lN,FP,NM hM h0 rfl] at h;rw[FP];exact h.mono fun e w' ⟨A5,c5,B6,c6,he,o1,o2,hb,_⟩=>⟨A5,c5,B6,c6,_,he,o1,hb⟩
section
variable (w:World) (a:Nat) (ha:a<18446744073709551616)
theorem yrz (hf:rg a<9218868437227405312):Calls prog 90 #[.float .f64 a] w (aD w (.float .f64 (oo .zero a))):=by
 refine zd func90 rfl ntmps90 rfl ?_;have LW:=aB (No) w;have ak:=aP (No) w;have E:=aB (No) w;refine yd ?_;refine za rfl (Kv ae8 rfl ((KJ a).trans (xb hf)) (zq ?_));exact gi
include ha
section
variable (hf:rg a<9218868437227405312)
include hf
theorem Dp (h0:yw a=0):Calls prog 55 #[.int .u64 ((a:Nat):Int)] w (yb w (kf a) 0):=by
 obtain ⟨q,hq1,hq2,hq3⟩:=zxk hf;have hq0:q=0:=ywz.1 (Yb hq1 h0);obtain ⟨r1,r2,r3⟩:=ji (ng a) q om;obtain ⟨M,hMd⟩:∃M,M=0:=⟨_,rfl⟩;obtain ⟨k,hk⟩:∃k,k=53:=⟨_,rfl⟩;obtain ⟨m0,hm0⟩:∃m0:Int,m0=if ng a then -((M:Nat):Int) else ((M:Nat):Int):=⟨_,rfl⟩
 have hM:M=yw a*2^k:=by rw[h0,Nat.zero_mul,hMd]
 have hwz:yw (Ieee.double.word (ng a) q)=0:=(ztz (ng a) om hq1).trans h0;have hfz:floatToIntVal .f64 (Ieee.double.word (ng a) q) .i64=some m0:=by
  rw[EI (by rw[r1];omega) (by rw[hwz];decide),hwz,r2,hm0,hMd]
 refine zh func55 ntmps55 fun HF LW ak E=>?_;refine zo ?_;refine km qM HF LW E ak fun aK w2 aM bT HF E ak=>(zH ?_);refine vr fD (vb _ a ha) E aM fun w3 E aM=>(gy 25 rfl (by rw[decide_eq_false om]<;>rfl) (yd ?_));refine vr XJ (yrz _ a hf) E aM fun w4 E aM=>(ze 29 (.float .f64 (Ieee.double.word (ng a) q)) rfl (by rw[hq3]<;>rfl) (vr Kz (jO _ (Ieee.double.word (ng a) q) r3 (by rw[r1];exact hq0)) E aM fun w5 E aM=>(yd ?_)));refine vr KC (jP _ (Ieee.double.word (ng a) q) r3 (by rw[r1];exact hq0) 53) E aM fun w6 E aM=>(za rfl (jA (z:=m0) underlying3 (by rw[UJ];rfl) rfl hfz (yjq qN (Rw m0 _ (by rw[hm0];split<;>omega) (by rw[hm0];split<;>omega)) HF LW E ak (fun o=>Per.own o (ah.grow ah.none_ (zj aM.lt))) aM fun A1 c1 w7 HF LW E aM=>(jk ?_))));intro bP w9 aZ zJ vM;have lK:Apart (some bP) (some aK):=Apart.of_lt (zj aM.lt) vM;have lM:=lK.symm;replace aM:=aM.aH zJ aj.nil;obtain ⟨vM,HF,E,ak⟩:=GA HF LW E ak zJ vM;refine lJ ?_;intro oD Bx zJ;replace aZ:=Bx;replace aM:=aM.aH zJ (aj.cons lM aj.nil);replace E:=E.step1 zJ ah.head;refine yf ?_;refine uO qN (Rw 2 _ de de) HF LW E ak (fun o=>Per.own o (ah.grow (ah.grow ah.none_ (zj aM.lt)) (zj aZ.lt))) aZ aM fun A2 c2 gX HF LW E aZ aM=>(jk ?_);intro NQ vN Dq eu sM;have eT:Apart (some NQ) (some bP):=Apart.of_lt (zj aZ.lt) sM;have sN:=eT.symm;have eU:Apart (some NQ) (some aK):=Apart.of_lt (zj aM.lt) sM;have sO:=eU.symm;replace aZ:=aZ.aH eu aj.nil;replace aM:=aM.aH eu aj.nil;obtain ⟨sM,HF,E,ak⟩:=GA HF LW E ak eu sM;refine yx (qd xn rfl rfl Dq rfl rfl (Nat.le_of_ble_eq_true rfl) ?_);intro fu Bx eu;replace Dq:=Bx;replace aZ:=aZ.aH eu (aj.cons sN aj.nil);replace aM:=aM.aH eu (aj.cons sO aj.nil);replace E:=E.step1 eu ah.head;obtain ⟨HF,LW,ak,E⟩:=dL HF LW E ak (Y:=ah [(some bP),(some aK)]) (ah.skip (ah.keep (ah.keep ah.aR))) (Per.aQ Dq (aj.cons eT (aj.cons eU aj.nil)));refine zq ?_;refine za rfl (vq (z:=(-53)) rfl rfl kr (jC ?_));have OY:∀q9,(ah (oj [])) q9→q9<(World.drew fu).heap.size→(ah [(some bP),(some aK)]) q9:=fun k h _=>(ah.none_) k h;refine qr (ah [(some bP),(some aK)]) (ah.grow (ah.grow ah.none_ (zj aM.lt)) (zj aZ.lt)) [⟨8,9,24,#[.bool false,.slice none 0 0]⟩] [] (gH [Fx.of (.agg #[.bool (decide ((2:Int)<0)),.slice A2 (limbs 2).length c2]),
  Fx.of (.int .i64 (-53)),
  Fx.of (.int .i64 ((k:Nat):Int)),
  ⟨(Option Addr×Nat),fun (A3,c3)=>.agg #[.bool (decide (((k:Nat):Int)<0)),.slice A3 (limbs ((k:Nat):Int)).length c3],fun (A3,c3) b=>(ay b A3 (limbs ((k:Nat):Int)))⟩,
  ⟨(Option Addr×Nat),fun (A4,c4)=>.tuple #[.agg #[.bool (decide ((2:Int)^k<0)),.slice A4 (limbs ((2:Int)^k)).length c4],.int .i64 0],fun (A4,c4) b=>(ay b A4 (limbs ((2:Int)^k)))⟩,
  ⟨(Option Addr×Nat),fun (A4,c4)=>.tuple #[.agg #[.bool (decide ((2:Int)^k<0)),.slice A4 (limbs ((2:Int)^k)).length c4],.int .i64 0],fun (A4,c4) b=>(ay b A4 (limbs ((2:Int)^k)))⟩,
  ⟨(Option Addr×Nat),fun (A4,c4)=>.agg #[.bool (decide ((2:Int)^k<0)),.slice A4 (limbs ((2:Int)^k)).length c4],fun (A4,c4) b=>(ay b A4 (limbs ((2:Int)^k)))⟩,
  Fx.of (.int .i64 0),
  Fx.of undef,
  Fx.of undef,
  Fx.of (.int .i64 0)]) mixed rfl trivial (fun _ h=>by cases h) ?_ ?_
 · refine ⟨arm,arm,?_,?_,?_,?_,?_,?_,?_,?_,arm,trivial⟩
   · refine yt ?_;intro vs X wq K;exact pY (z:=53) rfl kr ⟨Below.refl _ _,Left.of (by rw[hk];rfl)⟩
   · exact NK
   · exact Wq
   · exact Wn
   · exact Wo
   · exact Wm
   · exact FM
   · refine ⟨_,_,_,_,_,rfl,rfl,rfl,xn,fun vs X wq K=>?_⟩;exact Wj
 intro vs Ck LE AO AL AF AA;have zL:=aZ;have zM:=aM;replace aZ:=aZ.drew.aH LE aj.nil;replace aM:=aM.drew.aH LE aj.nil;replace E:=E.drew.trans (LE.mono OY);obtain ⟨⟨A4,c4⟩,e6,k6⟩:=AL.2.2.2.2.2.2.1;obtain ⟨HF,LW,E⟩:=qU HF LW E ak ((k6.map (fun _ h=>h):Per (ah [(some bP),(some aK)]) Ck (fun b=>ay b A4 (limbs ((2:Int)^k)))));obtain ⟨sP,v0,y0,ZE,NR,NS,ey,Bg⟩:=AF.1;cases ey
 obtain rfl:vs 6=v0:=Option.some.inj Bg;rw[e6] at NS;have eX:Apart (some sP) (some bP):=Apart.of_lt (zj zL.lt) NR;have Sm:=eX.symm;have eY:Apart (some sP) (some aK):=Apart.of_lt (zj zM.lt) NR;have Sn:=eY.symm;obtain ⟨HF,LW,E⟩:=qU HF LW E ak ((Per.aQ NS (aj.cons eX (aj.cons eY aj.nil)):Per (ah [(some bP),(some aK)]) Ck (fun b=>aA b sP 24 #[.bool (decide ((2:Int)^k<0)),.slice A4 (limbs ((2:Int)^k)).length c4])));have e8:=ZE;refine jz (τ:=[(2,_),(3,_),(7,_),(11,.pointer (some ⟨sP,0,none⟩))]) ⟨rfl,rfl,rfl,congrArg some e8,trivial⟩ ?_;clear AL AF AA LE AO OY e6 e8 k6 zL zM;refine zG ?_;rintro e mV ⟨A5,c5,B6,c6,r,rfl,o5,hb⟩;refine ⟨_,rfl,?_⟩;have XC:∀q9,(ah [(some bP),(some aK)]) q9→q9<Ck.heap.size:=(ah.grow (ah.grow ah.none_ (zj aM.lt)) (zj aZ.lt));have SC:=Nat.le_trans LW.size E.size;have Ec:=Ext.of_below hb No;replace aZ:=aZ.aH Ec aj.nil;replace aM:=aM.aH Ec aj.nil;replace E:=E.trans Ec.no;have hS:=SC;obtain ⟨HF,LW,E⟩:=qU HF LW E ak (Per.y8 o5 XC);refine yf ?_;refine jk ?_;intro wH EU wL kM gN;have FQ:Apart (some wH) (some bP):=Apart.of_lt (zj aZ.lt) gN;have Sq:=FQ.symm;have FR:Apart (some wH) (some aK):=Apart.of_lt (zj aM.lt) gN;have Sr:=FR.symm;replace aZ:=aZ.aH kM aj.nil;replace aM:=aM.aH kM aj.nil;obtain ⟨gN,HF,E,ak⟩:=GA HF LW E ak kM gN;refine jk ?_;intro vX w21 Cq kJ gM;have zN:Apart (some vX) (some wH):=Apart.of_lt (zj wL.lt) gM;have NT:=zN.symm;have FT:Apart (some vX) (some bP):=Apart.of_lt (zj aZ.lt) gM;have Sv:=FT.symm;have FU:Apart (some vX) (some aK):=Apart.of_lt (zj aM.lt) gM;have Sw:=FU.symm;replace wL:=wL.aH kJ aj.nil;replace aZ:=aZ.aH kJ aj.nil;replace aM:=aM.aH kJ aj.nil;obtain ⟨gM,HF,E,ak⟩:=GA HF LW E ak kJ gM;refine yx (qd xn rfl rfl wL rfl rfl (Nat.le_of_ble_eq_true rfl) ?_);intro Vy Bx kM;replace wL:=Bx;replace Cq:=Cq.aH kM (aj.cons zN aj.nil);replace aZ:=aZ.aH kM (aj.cons Sq aj.nil);replace aM:=aM.aH kM (aj.cons Sr aj.nil);replace E:=E.step1 kM (ah.tail ah.head);obtain ⟨HF,LW,ak,E⟩:=dL HF LW E ak (Y:=ah [(some vX),(some bP),(some aK)]) (ah.keep (ah.skip (ah.keep (ah.keep ah.aR)))) (Per.aQ wL (aj.cons NT (aj.cons FQ (aj.cons FR aj.nil))));refine yx (qd xn rfl rfl Cq rfl rfl (Nat.le_of_ble_eq_true rfl) ?_);intro LZ Bx kJ;replace Cq:=Bx;replace aZ:=aZ.aH kJ (aj.cons Sv aj.nil);replace aM:=aM.aH kJ (aj.cons Sw aj.nil);replace E:=E.step1 kJ ah.head;obtain ⟨HF,LW,ak,E⟩:=dL HF LW E ak (Y:=ah [(some bP),(some aK)]) (ah.skip (ah.keep (ah.keep ah.aR))) (Per.aQ Cq (aj.cons FT (aj.cons FU aj.nil)));refine zq ?_;refine lI ?_;intro w24 Bx kE;exact Wp
theorem I7 (h0:yw a≠0):Calls prog 55 #[.int .u64 ((a:Nat):Int)] w (yb w (kf a) 0):=by
 obtain ⟨q,hq1,hq2,hq3⟩:=zxk hf;have Zl:q<9218868437227405312:=om;have hq0:q≠0:=fun e=>by
  subst e;rw[xt] at hq1;exact h0 (NP (qy 1074) hq1)
 obtain ⟨r1,r2,r3⟩:=ji (ng a) q om;obtain ⟨T,hT⟩:∃T,T=Ieee.double.word (ng a) q:=⟨_,rfl⟩;have hT1:rg T=q:=by rw[hT,r1]
 have hT2:ng T=ng a:=by rw[hT,r2]
 obtain ⟨F,hF⟩:∃F,F=gW T:=⟨_,rfl⟩;have hmn:=jM hq0;have hFp:rg F=4602678819172646912+(mg (nr q)-4503599627370496)∧ng F=ng a∧F<18446744073709551616:=by
  rw[hF,gW,hT1,hT2];exact ji _ _ om
 obtain ⟨fq1,Vp⟩:=Vl (r:=q) hq0;have hFv:vl (rg F)=mg (nr q)*2^1021:=by
  rw[hFp.1,←EK Zl];exact (nX Zl hq0).2.2
 have fq3:vl (1074*4503599627370496+mg (nr q))=vl (rg F)*2^53:=by rewrite [fq1,hFv];exact ysz (p:=1074) (q:=1021) (s:=53) de _
 obtain ⟨M,hMd⟩:∃M,M=mg (nr q):=⟨_,rfl⟩;obtain ⟨m0,hm0⟩:∃m0:Int,m0=if ng a then -((M:Nat):Int) else ((M:Nat):Int):=⟨_,rfl⟩
 have fw:=ji (ng F) (1074*4503599627370496+mg (nr q)) om;have hwM:yw (Ieee.double.word (ng F) (1074*4503599627370496+mg (nr q)))=M:=by rw[hMd];exact ztz (ng F) Vp fq1
 have hfz:floatToIntVal .f64 (Ieee.double.word (ng F) (1074*4503599627370496+mg (nr q))) .i64=some m0:=by
  rw[EI (by rw[fw.1];exact Vp) (by rw[hwM];omega),hwM,fw.2.1,hFp.2.1,hm0]
 have hE:mU T=((ex (nr q):Nat):Int)-1021-((nd q:Nat):Int):=by
  have:=EL Zl;rw[←this];unfold mU;rw[hT1,(zzz (r:=q) om).1]
 have hval:=jL hq0;rw[hq1] at hval;have hxn:ex (nr q)≤2045:=by have:=yak hq0 Zl;unfold ex;split<;>omega
 have hnd:nd q≤52:=by unfold nd;split<;>omega
 refine zh func55 ntmps55 fun HF LW ak E=>?_;refine zo ?_;refine km qM HF LW E ak fun aK w2 aM bT HF E ak=>(zH ?_);refine vr fD (vb _ a ha) E aM fun w3 E aM=>(gy 25 rfl (by rw[decide_eq_false om]<;>rfl) (yd ?_));refine vr XJ (yrz _ a hf) E aM fun w4 E aM=>(ze 29 (.float .f64 (Ieee.double.word (ng a) q)) rfl (by rw[hq3]<;>rfl) (ze 29 (.float .f64 T) rfl (by rw[hT]<;>rfl) (vr Kz (yvk _ T (by rw[hT];exact r3) (by rw[hT1];exact hq0) (by rw[hT1];exact Zl)) E aM fun w5 E aM=>(ze 30 (.tuple #[.float .f64 F,.int .i64 (mU T)]) rfl (by rw[hF]<;>rfl) (yd ?_)))));refine vr KC (yvq _ F hFp.2.2 (by rw[hFp.1];omega) (by rw[hFp.1];omega) 53 (1074*4503599627370496+mg (nr q)) de Vp fq3) E aM fun w6 E aM=>(za rfl (jA (z:=m0) underlying3 (by rw[UJ];rfl) rfl hfz (yjq qN (Rw m0 _ (by rw[hm0];split<;>omega) (by rw[hm0];split<;>omega)) HF LW E ak (fun o=>Per.own o (ah.grow ah.none_ (zj aM.lt))) aM fun A1 c1 w7 HF LW E aM=>(jk ?_))));intro bP w9 aZ zJ vM;have lK:Apart (some bP) (some aK):=Apart.of_lt (zj aM.lt) vM;have lM:=lK.symm;replace aM:=aM.aH zJ aj.nil;obtain ⟨vM,HF,E,ak⟩:=GA HF LW E ak zJ vM;refine lJ ?_;intro oD Bx zJ;replace aZ:=Bx;replace aM:=aM.aH zJ (aj.cons lM aj.nil);replace E:=E.step1 zJ ah.head;refine yf ?_;refine uO qN (Rw 2 _ de de) HF LW E ak (fun o=>Per.own o (ah.grow (ah.grow ah.none_ (zj aM.lt)) (zj aZ.lt))) aZ aM fun A2 c2 gX HF LW E aZ aM=>(jk ?_);intro NQ vN Dq eu sM;have eT:Apart (some NQ) (some bP):=Apart.of_lt (zj aZ.lt) sM;have sN:=eT.symm;have eU:Apart (some NQ) (some aK):=Apart.of_lt (zj aM.lt) sM;have sO:=eU.symm;replace aZ:=aZ.aH eu aj.nil;replace aM:=aM.aH eu aj.nil;obtain ⟨sM,HF,E,ak⟩:=GA HF LW E ak eu sM;refine yx (qd xn rfl rfl Dq rfl rfl (Nat.le_of_ble_eq_true rfl) ?_);intro fu Bx eu;replace Dq:=Bx;replace aZ:=aZ.aH eu (aj.cons sN aj.nil);replace aM:=aM.aH eu (aj.cons sO aj.nil);replace E:=E.step1 eu ah.head;obtain ⟨HF,LW,ak,E⟩:=dL HF LW E ak (Y:=ah [(some bP),(some aK)]) (ah.skip (ah.keep (ah.keep ah.aR))) (Per.aQ Dq (aj.cons eT (aj.cons eU aj.nil)));refine zq ?_;refine zx ?_;refine qu ?_;refine zy 41 (.bool (decide (1074+nd q≤ex (nr q)))) rfl (gq (by rw[hE];omega)) (zg rfl (fun hc=>?_) (fun hc=>?_))
 ·
  have hc:=of_decide_eq_true hc;obtain ⟨k,hk⟩:∃k,k=ex (nr q)-(1074+nd q):=⟨_,rfl⟩;have hW:yw a=M*2^k:=ZB hval hc hk hMd;have hprod:m0*(2:Int)^k=kf a:=by
   rw[kf,hW,hm0];split
   · rw[Int.neg_mul,Int.natCast_mul,Int.natCast_pow];rfl
   · rw[Int.natCast_mul,Int.natCast_pow];rfl
  have hwl:=oV hf;refine zy 6 (.int .i64 ((k:Nat):Int)) rfl (by rw[hE];congr 1;omega) (aN ?_);have OY:∀q9,(ah (oj [])) q9→q9<(World.drew fu).heap.size→(ah [(some bP),(some aK)]) q9:=fun k h _=>(ah.none_) k h;refine qr (ah [(some bP),(some aK)]) (ah.grow (ah.grow ah.none_ (zj aM.lt)) (zj aZ.lt)) [⟨7,8,24,#[.bool false,.slice none 0 0]⟩] [] (gH [Fx.of (.agg #[.bool (decide ((2:Int)<0)),.slice A2 (limbs 2).length c2]),
   Fx.of (.int .i64 ((k:Nat):Int)),
   ⟨(Option Addr×Nat),fun (A3,c3)=>.agg #[.bool (decide (((k:Nat):Int)<0)),.slice A3 (limbs ((k:Nat):Int)).length c3],fun (A3,c3) b=>(ay b A3 (limbs ((k:Nat):Int)))⟩,
   ⟨(Option Addr×Nat),fun (A4,c4)=>.tuple #[.agg #[.bool (decide ((2:Int)^k<0)),.slice A4 (limbs ((2:Int)^k)).length c4],.int .i64 0],fun (A4,c4) b=>(ay b A4 (limbs ((2:Int)^k)))⟩,
   ⟨(Option Addr×Nat),fun (A4,c4)=>.tuple #[.agg #[.bool (decide ((2:Int)^k<0)),.slice A4 (limbs ((2:Int)^k)).length c4],.int .i64 0],fun (A4,c4) b=>(ay b A4 (limbs ((2:Int)^k)))⟩,
   ⟨(Option Addr×Nat),fun (A4,c4)=>.agg #[.bool (decide ((2:Int)^k<0)),.slice A4 (limbs ((2:Int)^k)).length c4],fun (A4,c4) b=>(ay b A4 (limbs ((2:Int)^k)))⟩,
   Fx.of (.int .i64 0),
   Fx.of undef,
   Fx.of undef,
   Fx.of (.int .i64 0)]) mixed rfl trivial (fun _ h=>by cases h) ?_ ?_
  · refine ⟨arm,arm,?_,?_,?_,?_,?_,?_,?_,arm,trivial⟩
    · exact NK
    · refine yt ?_;intro vs X wq K;have LE:=K.1;have XN:=K.2.1;obtain ⟨⟨A3,c3⟩,e2,k2⟩:=K.dep 2 rfl rfl rfl;refine jc 45 _ rfl e2 (zc ac4 rfl ((FN k A2 A3 c2 c3 _ om (HF.on (E.drew.trans (LE.mono OY))).here.1.2 k2.here).mono ?_));rintro e w2 ⟨A4,c4,rfl,o4,hb⟩;exact ⟨_,rfl,hb,⟨(A4,c4),rfl,Per.own o4 XN⟩⟩
    · intro vs X wq K;obtain ⟨⟨A4,c4⟩,e3,k3⟩:=K.dep 3 rfl rfl rfl;refine jc 46 _ rfl e3 ?_;exact ykk rfl ⟨Below.refl _ _,⟨⟨A4,c4⟩,rfl,(k3.map (fun _ h=>h))⟩⟩
    · intro vs X wq K;obtain ⟨⟨A4,c4⟩,e4,k4⟩:=K.dep 4 rfl rfl rfl;refine jc 42 _ rfl e4 ?_;exact xf rfl rfl ⟨Below.refl _ _,⟨⟨A4,c4⟩,rfl,(k4.map (fun _ h=>h))⟩⟩
    · intro vs X wq K;obtain ⟨⟨A4,c4⟩,e4,k4⟩:=K.dep 4 rfl rfl rfl;refine jc 42 _ rfl e4 ?_;exact xf rfl rfl ⟨Below.refl _ _,Left.of rfl⟩
    · exact FM
    · refine ⟨_,_,_,_,_,rfl,rfl,rfl,xn,fun vs X wq K=>?_⟩;obtain ⟨⟨A4,c4⟩,e0,_⟩:=K.dep 5 rfl rfl rfl;exact ⟨vs 5,rfl,by rw[e0];rfl,by rw[e0];rfl⟩
  intro vs Ck LE AO AL AF AA;have zL:=aZ;have zM:=aM;replace aZ:=aZ.drew.aH LE aj.nil;replace aM:=aM.drew.aH LE aj.nil;replace E:=E.drew.trans (LE.mono OY);obtain ⟨⟨A4,c4⟩,e5,k5⟩:=AL.2.2.2.2.2.1;obtain ⟨HF,LW,E⟩:=qU HF LW E ak ((k5.map (fun _ h=>h):Per (ah [(some bP),(some aK)]) Ck (fun b=>ay b A4 (limbs ((2:Int)^k)))));obtain ⟨sP,v0,y0,ZE,NR,NS,ey,Bg⟩:=AF.1;cases ey
  obtain rfl:vs 5=v0:=Option.some.inj Bg;rw[e5] at NS;have eX:Apart (some sP) (some bP):=Apart.of_lt (zj zL.lt) NR;have Sm:=eX.symm;have eY:Apart (some sP) (some aK):=Apart.of_lt (zj zM.lt) NR;have Sn:=eY.symm;obtain ⟨HF,LW,E⟩:=qU HF LW E ak ((Per.aQ NS (aj.cons eX (aj.cons eY aj.nil)):Per (ah [(some bP),(some aK)]) Ck (fun b=>aA b sP 24 #[.bool (decide ((2:Int)^k<0)),.slice A4 (limbs ((2:Int)^k)).length c4])));have e7:=ZE;refine jz (τ:=[(2,_),(3,_),(6,_),(7,_),(8,_),(9,.pointer (some ⟨sP,0,none⟩))]) ⟨rfl,rfl,rfl,rfl,rfl,congrArg some e7,trivial⟩ ?_;clear AL AF AA LE AO OY e5 e7 k5 zL zM;have hmul:∀(A B:Option Addr) (c d:Nat) (w:World),ay w A (limbs m0)→ay w B (limbs ((2:Int)^k))→Calls prog 92 #[.agg #[.bool (decide (m0<0)),.slice A (limbs m0).length c],.agg #[.bool (decide ((2:Int)^k<0)),.slice B (limbs ((2:Int)^k)).length d]] w (yb w (kf a) 0):=by
   intro A B c d w hx hy;have h:=akz A B c d w (zzx (by rw[hm0];split<;>omega)) (sK om) hx hy;rw[hprod,xy hwl,xz hwl] at h;exact h
  refine ya ?_;refine za rfl (zc ac5 rfl ((hmul A1 A4 c1 c4 _ (HF.on E).here.1.1.1.1.2 (HF.on E).here.1.2).mono ?_));rintro e mV ⟨A5,c5,rfl,o5,hb⟩;refine ⟨_,rfl,?_⟩;have XC:∀q9,(ah [(some bP),(some aK)]) q9→q9<Ck.heap.size:=(ah.grow (ah.grow ah.none_ (zj aM.lt)) (zj aZ.lt));have SC:=Nat.le_trans LW.size E.size;have Ec:=Ext.of_below hb No;replace aZ:=aZ.aH Ec aj.nil;replace aM:=aM.aH Ec aj.nil;replace E:=E.trans Ec.no;have hS:=SC;obtain ⟨HF,LW,E⟩:=qU HF LW E ak (Per.y8 o5 XC);refine yl ?_;refine lJ ?_;intro w18 Bx zJ;replace aZ:=Bx;replace aM:=aM.aH zJ (aj.cons lM aj.nil);replace E:=E.step1 zJ ah.head;obtain ⟨HF,LW,ak,E⟩:=dL HF LW E ak (Y:=ah [(some aK)]) (ah.skip (ah.keep ah.aR)) (Per.aQ aZ (aj.cons lK aj.nil));refine ya ?_;refine lI ?_;intro EU Bx kE;replace aM:=Bx;replace E:=E.step1 kE ah.head;refine zq ?_;exact ⟨A5,c5,rfl,((HF.on E).here.1.2).mono hS,aT LW E ak⟩
 ·
  have hc:=of_decide_eq_false hc;obtain ⟨k,hk⟩:∃k,k=1074+nd q-ex (nr q):=⟨_,rfl⟩;have hM:M=yw a*2^k:=ZC hval om hk hMd;have az7:k≤52:=by
   rcases Nat.lt_or_ge 52 k with h | h
   · exfalso
     have h1:2^53≤2^k:=Nat.pow_le_pow_right de om;have h2:1*2^k≤yw a*2^k:=Nat.mul_le_mul_right _ om;omega
   · exact h
  refine qu ?_;refine yn 57 rfl (by rw[hE,decide_eq_false om]<;>rfl) (yf ?_);have OY:∀q9,(ah (oj [])) q9→q9<(World.drew fu).heap.size→(ah [(some bP),(some aK)]) q9:=fun k h _=>(ah.none_) k h;refine qr (ah [(some bP),(some aK)]) (ah.grow (ah.grow ah.none_ (zj aM.lt)) (zj aZ.lt)) [⟨8,9,24,#[.bool false,.slice none 0 0]⟩] [] (gH [Fx.of (.agg #[.bool (decide ((2:Int)<0)),.slice A2 (limbs 2).length c2]),
   Fx.of (.int .i64 ((mU T)-53)),
   Fx.of (.int .i64 ((k:Nat):Int)),
   ⟨(Option Addr×Nat),fun (A3,c3)=>.agg #[.bool (decide (((k:Nat):Int)<0)),.slice A3 (limbs ((k:Nat):Int)).length c3],fun (A3,c3) b=>(ay b A3 (limbs ((k:Nat):Int)))⟩,
   ⟨(Option Addr×Nat),fun (A4,c4)=>.tuple #[.agg #[.bool (decide ((2:Int)^k<0)),.slice A4 (limbs ((2:Int)^k)).length c4],.int .i64 0],fun (A4,c4) b=>(ay b A4 (limbs ((2:Int)^k)))⟩,
   ⟨(Option Addr×Nat),fun (A4,c4)=>.tuple #[.agg #[.bool (decide ((2:Int)^k<0)),.slice A4 (limbs ((2:Int)^k)).length c4],.int .i64 0],fun (A4,c4) b=>(ay b A4 (limbs ((2:Int)^k)))⟩,
   ⟨(Option Addr×Nat),fun (A4,c4)=>.agg #[.bool (decide ((2:Int)^k<0)),.slice A4 (limbs ((2:Int)^k)).length c4],fun (A4,c4) b=>(ay b A4 (limbs ((2:Int)^k)))⟩,
   Fx.of (.int .i64 0),
   Fx.of undef,
   Fx.of undef,
   Fx.of (.int .i64 0)]) mixed rfl trivial (fun _ h=>by cases h) ?_ ?_
  · refine ⟨arm,arm,?_,?_,?_,?_,?_,?_,?_,?_,arm,trivial⟩
    · refine yt ?_;intro vs X wq K;exact pY rfl (yj om) ⟨Below.refl _ _,Left.of ((by rw[hE,hk];congr 1;omega:(.int .i64 (0-((mU T)-53)):Value)=_))⟩
    · exact NK
    · exact Wq
    · exact Wn
    · exact Wo
    · exact Wm
    · exact FM
    · refine ⟨_,_,_,_,_,rfl,rfl,rfl,xn,fun vs X wq K=>?_⟩;exact Wj
  intro vs JX LE AO AL AF AA;have zL:=aZ;have zM:=aM;replace aZ:=aZ.drew.aH LE aj.nil;replace aM:=aM.drew.aH LE aj.nil;replace E:=E.drew.trans (LE.mono OY);obtain ⟨⟨A4,c4⟩,e6,k6⟩:=AL.2.2.2.2.2.2.1;obtain ⟨HF,LW,E⟩:=qU HF LW E ak ((k6.map (fun _ h=>h):Per (ah [(some bP),(some aK)]) JX (fun b=>ay b A4 (limbs ((2:Int)^k)))));obtain ⟨kN,v0,y0,au0,dY,kP,ey,Bg⟩:=AF.1;cases ey
  obtain rfl:vs 6=v0:=Option.some.inj Bg;rw[e6] at kP;have FV:Apart (some kN) (some bP):=Apart.of_lt (zj zL.lt) dY;have anz:=FV.symm;have FW:Apart (some kN) (some aK):=Apart.of_lt (zj zM.lt) dY;have anj:=FW.symm;obtain ⟨HF,LW,E⟩:=qU HF LW E ak ((Per.aQ kP (aj.cons FV (aj.cons FW aj.nil)):Per (ah [(some bP),(some aK)]) JX (fun b=>aA b kN 24 #[.bool (decide ((2:Int)^k<0)),.slice A4 (limbs ((2:Int)^k)).length c4])));have e8:=au0;refine jz (τ:=[(2,_),(3,_),(7,_),(11,.pointer (some ⟨kN,0,none⟩))]) ⟨rfl,rfl,rfl,congrArg some e8,trivial⟩ ?_;clear AL AF AA LE AO OY e6 e8 k6 zL zM;refine zG ?_;rintro e Vy ⟨A5,c5,B6,c6,r,rfl,o5,hb⟩;refine ⟨_,rfl,?_⟩;have XC:∀q9,(ah [(some bP),(some aK)]) q9→q9<JX.heap.size:=(ah.grow (ah.grow ah.none_ (zj aM.lt)) (zj aZ.lt));have SC:=Nat.le_trans LW.size E.size;have Ec:=Ext.of_below hb No;replace aZ:=aZ.aH Ec aj.nil;replace aM:=aM.aH Ec aj.nil;replace E:=E.trans Ec.no;have hS:=SC;obtain ⟨HF,LW,E⟩:=qU HF LW E ak (Per.y8 o5 XC);refine yf ?_;refine jk ?_;intro Cr w24 vZ kK kL;have FX:Apart (some Cr) (some bP):=Apart.of_lt (zj aZ.lt) kL;have Sy:=FX.symm;have FY:Apart (some Cr) (some aK):=Apart.of_lt (zj aM.lt) kL;have Sz:=FY.symm;replace aZ:=aZ.aH kK aj.nil;replace aM:=aM.aH kK aj.nil;obtain ⟨kL,HF,E,ak⟩:=GA HF LW E ak kK kL;refine jk ?_;intro SA w26 NU zO NV;have zP:Apart (some SA) (some Cr):=Apart.of_lt (zj vZ.lt) NV;have NW:=zP.symm;have FZ:Apart (some SA) (some bP):=Apart.of_lt (zj aZ.lt) NV;have SF:=FZ.symm;have F6:Apart (some SA) (some aK):=Apart.of_lt (zj aM.lt) NV;have SG:=F6.symm;replace vZ:=vZ.aH zO aj.nil;replace aZ:=aZ.aH zO aj.nil;replace aM:=aM.aH zO aj.nil;obtain ⟨NV,HF,E,ak⟩:=GA HF LW E ak zO NV;refine yx (qd xn rfl rfl vZ rfl rfl (Nat.le_of_ble_eq_true rfl) ?_);intro Vz Bx kK;replace vZ:=Bx;replace NU:=NU.aH kK (aj.cons zP aj.nil);replace aZ:=aZ.aH kK (aj.cons Sy aj.nil);replace aM:=aM.aH kK (aj.cons Sz aj.nil);replace E:=E.step1 kK (ah.tail ah.head);obtain ⟨HF,LW,ak,E⟩:=dL HF LW E ak (Y:=ah [(some SA),(some bP),(some aK)]) (ah.keep (ah.skip (ah.keep (ah.keep ah.aR)))) (Per.aQ vZ (aj.cons NW (aj.cons FX (aj.cons FY aj.nil))));refine yx (qd xn rfl rfl NU rfl rfl (Nat.le_of_ble_eq_true rfl) ?_);intro w28 Bx zO;replace NU:=Bx;replace aZ:=aZ.aH zO (aj.cons SF aj.nil);replace aM:=aM.aH zO (aj.cons SG aj.nil);replace E:=E.step1 zO ah.head;obtain ⟨HF,LW,ak,E⟩:=dL HF LW E ak (Y:=ah [(some bP),(some aK)]) (ah.skip (ah.keep (ah.keep ah.aR))) (Per.aQ NU (aj.cons FZ (aj.cons F6 aj.nil)));refine zq ?_;refine lI ?_;intro w29 Bx kE;exact Wp
theorem I8:Calls prog 55 #[.int .u64 ((a:Nat):Int)] w (yb w (kf a) 0):=by
 by_cases h0:yw a=0
 · exact Dp w a ha hf h0
 · exact I7 w a ha hf h0
end
end
theorem lQ {P Q:Prop} (k:Q) (h:(Unit→Q)→P:=by
 intro zK;refine zn ?_;refine zkv ?_;refine yu ?_;refine kz ?_;refine aN ?_;refine gy 17 rfl (by rw[jy,hn]<;>rfl) (aN ?_);exact zK ()):P:=h fun _=>k
theorem jr {P Q:Prop} (k:Q) (h:(Unit→Q)→P:=by
 intro zK;refine zo ?_;refine za rfl (yax rfl ?_);exact zK ()):P:=h fun _=>k
noncomputable def NY (a:Nat) (i:Int):Int:=if xR (kf a) i≠0 then xR (kf a) i else if y7 a then (if ng a then -1 else 1) else 0
theorem Ja {a q:Nat} (hf:rg a<9218868437227405312) (h1:vl q=yw a*2^1074) (h2:q≤rg a):jE a (Ieee.double.word (ng a) q)=(if y7 a then (if ng a then -1 else 1) else 0)∧ko a (Ieee.double.word (ng a) q)=true:=by
 obtain ⟨w1,w2,w3⟩:=ji (ng a) q om;have hn:aY (Ieee.double.word (ng a) q)=false:=xb (by rw[w1];omega);have ho:ko a (Ieee.double.word (ng a) q)=true:=by rw[ko,xb hf,hn];rfl
 refine ⟨?_,ho⟩;have hl:y7 a=decide (q<rg a):=by
  refine (Sd ?_).symm;rw[K4,←h1];constructor
  · intro h e;have:=iY h;omega
  · intro h;rcases Nat.lt_or_ge q (rg a) with h' | h'
    · exact h'
    · exact absurd (congrArg vl (show rg a=q from om)) h
 rw[jE,if_pos ho,hl];obtain ⟨p1,p2⟩:=XK a;obtain ⟨p3,p4⟩:=XK (Ieee.double.word (ng a) q);rw[w1,w2] at p3 p4;unfold KR;cases hs:ng a with
 | true=>
  rw[hs] at p3;rw[p1 hs,p3 rfl];by_cases h:q<rg a
  · rw[decide_eq_true h,if_pos om];rfl
  · rw[decide_eq_false h,if_neg om,if_neg om];rfl
 | false=>
  rw[hs] at p4;rw[p2 hs,p4 rfl];by_cases h:q<rg a
  · rw[decide_eq_true h,if_neg om,if_pos om];rfl
  · rw[decide_eq_false h,if_neg om,if_neg om];rfl
theorem SH (s:Bool):floatToIntVal .f64 (Ieee.double.word s 4607182418800017408) .i64=some (if s then -1 else 1):=by cases s<;>decide +kernel
def SI (a:Nat):Int:=if ng a then -1 else 1
section
variable (w:World) (a:Nat) (ha:a<18446744073709551616)
include ha
section
variable (n1:Bool) (A:Option Addr) (c:Nat) (xs:List Nat) (hx:ay w A xs) (hl:xs.length≤9223372036854775807)
include hx hl
theorem Dr (hn:aY a=true):Calls prog 96 #[.int .u64 ((a:Nat):Int),.agg #[.bool n1,.slice A xs.length c]] w (aD w (.tuple #[.int .i64 0,.bool false])):=by
 have _:=And.intro ha (And.intro hx hl);refine zd func96 rfl ntmps96 rfl ?_;have LW:=aB (No) w;have ak:=aP (No) w;have E:=aB (No) w;refine jr ?_;intro aK w2 aM kE bT;have bT:_≤aK:=Nat.le_trans E.size bT;have Hf:=Nat.le_trans LW.size bT;replace E:=E.trans kE.no;replace E:=E.cons (some aK);replace ak:=ah.grow ak (fun k e=>Or.inr (Nat.le_trans LW.size ((zf bT) k e)));replace LW:=LW.step E ak;have SB:∀q9,No q9→ah [(some aK)] q9:=(ah.skip ah.aR);replace ak:=fun k h=>ak k (SB k h);clear SB;replace E:=aB (No) w2;refine zn ?_;refine zkv ?_;refine yu ?_;refine kz ?_;refine aN ?_;refine xv 17 rfl (by rw[jy,hn]<;>rfl) (od ?_);exact gi
theorem Dt (hn:aY a=false) (hg:zm n1 xs=false):Calls prog 96 #[.int .u64 ((a:Nat):Int),.agg #[.bool n1,.slice A xs.length c]] w (aD w (.tuple #[.int .i64 0,.bool false])):=by
 have _:=ha;refine zh func96 ntmps96 fun HF LW ak E=>?_;replace HF:=HF.and (Per.aF hx);refine zo ?_;refine zl HF LW E ak fun aK w2 HF LW E=>?_;refine lQ ?_;refine zb uG (ye n1 c _ A xs hl (HF.on E).here.1.2) E fun w3 E=>(gy 19 rfl (by rw[hg]<;>rfl) (uP ?_));exact gi
end
section
variable (i:Int) (A:Option Addr) (c:Nat) (hi:i.natAbs<au^30) (hx:ay w A (limbs i)) (hn:aY a=false)
include hi hx hn
theorem Du (jJ:rg a=9218868437227405312):Calls prog 96 #[.int .u64 ((a:Nat):Int),.agg #[.bool (decide (i<0)),.slice A (limbs i).length c]] w (aD w (.tuple #[.int .i64 (SI a),.bool true])):=by
 refine zh func96 ntmps96 fun HF LW ak E=>?_;replace HF:=HF.and (Per.aF hx);refine zo ?_;refine zl HF LW E ak fun aK w2 HF LW E=>?_;refine lQ ?_;refine zb uG (Ig A c _ hi (HF.on E).here.1.2) E fun w3 E=>(qa ?_);refine zb fD (vb _ a ha) E fun w4 E=>(xv 23 rfl (by rw[decide_eq_true jJ]<;>rfl) (zq ?_));refine zb ad4 (qY _ 4607182418800017408 de a ha) E fun w5 E=>(ze 25 (.float .f64 (Ieee.double.word (ng a) 4607182418800017408)) rfl (by rw[show rg 4607182418800017408=4607182418800017408 from de]<;>rfl) (za rfl (jA (z:=SI a) underlying3 (by rw[UJ];rfl) rfl (SH (ng a)) (zn ?_))));exact gi
theorem Dv (hf:rg a<9218868437227405312):Calls prog 96 #[.int .u64 ((a:Nat):Int),.agg #[.bool (decide (i<0)),.slice A (limbs i).length c]] w (aD w (.tuple #[.int .i64 (NY a i),.bool true])):=by
 obtain ⟨q,hq1,hq2,hq3⟩:=zxk hf;obtain ⟨t1,t2⟩:=Ja hf hq1 hq2;rw[←hq3] at t1 t2;have hbr:BK (oo .zero a)=oo .zero a:=I9 (xb (by rw[hq3,(ji (ng a) q om).1];omega));refine zh func96 ntmps96 fun HF LW ak E=>?_;replace HF:=HF.and (Per.aF hx);refine zo ?_;refine zl HF LW E ak fun aK w2 HF LW E=>?_;refine lQ ?_;refine zb uG (Ig A c _ hi (HF.on E).here.1.2) E fun w3 E=>(qa ?_);refine zb fD (vb _ a ha) E fun w4 E=>(gy 23 rfl (by rw[decide_eq_false om]<;>rfl) (yu ?_));refine zlx aq0 (I8 _ a ha hf) HF LW E ak (fun o=>Per.own o ah.none_) fun A2 c2 w5 HF LW E=>(yl ?_);refine km qM HF LW E ak fun fA w7 gD mW HF E ak=>(yx (qd xn rfl rfl gD rfl rfl (Nat.le_of_ble_eq_true rfl) ?_));intro w8 Bx PS;replace gD:=Bx;replace E:=E.step1 PS ah.head;obtain ⟨HF,LW,ak,E⟩:=dL HF LW E ak (Y:=No) (ah.skip ah.aR) (Per.aQ gD aj.nil);refine yu ?_;refine zb ac8 (akx A2 A c2 c _ (oV hf) hi (HF.on E).here.1.2 (HF.on E).here.1.1.1.2) E fun w9 E=>(qu ?_);refine zg rfl (fun hc=>?_) (fun hc=>?_)
 ·
  have hc:=bne_iff_ne.1 hc;refine yd ?_;exact ⟨by rw[NY,if_pos hc];rfl,aT LW E ak⟩
 ·
  have hc:xR (kf a) i=0:=by simpa using hc
  refine zq ?_;refine zb XJ (yrz _ a hf) E fun oD E=>(zb aqz (KS _ (oo .zero a)) E fun gX E=>(ze 42 (.int .u64 ((oo .zero a:Nat):Int)) rfl (by rw[hbr]<;>rfl) (zb ac6 (nP _ a (oo .zero a)) E fun dW E=>(od ?_))));exact ⟨by rw[NY,if_neg (by rw[hc];decide),←t1];rfl,aT LW E ak⟩
end
end
def oc (a:Nat) (n1:Bool) (xs:List Nat):Bool:=!(aY a)&&zm n1 xs
noncomputable def tQ (a:Nat) (n1:Bool) (xs:List Nat):Int:=if oc a n1 xs then (if rg a=9218868437227405312 then SI a else NY a (num n1 xs)) else 0
section
variable (w:World) (a:Nat) (ha:a<18446744073709551616) (n1:Bool) (A:Option Addr) (c:Nat) (xs:List Nat) (hx:ay w A xs) (hl:xs.length≤9223372036854775807)
include ha hx hl
theorem lS:Calls prog 96 #[.int .u64 ((a:Nat):Int),.agg #[.bool n1,.slice A xs.length c]] w (aD w (.tuple #[.int .i64 (tQ a n1 xs),.bool (oc a n1 xs)])):=by
 cases hn:aY a with
 | true=>
  have h:oc a n1 xs=false:=by rw[oc,hn];rfl
  rw[tQ,h,if_neg de];exact Dr w a ha n1 A c xs hx hl hn
 | false=>
  cases hg:zm n1 xs with
  | false=>
   have h:oc a n1 xs=false:=by rw[oc,hg,Bool.and_false]
   rw[tQ,h,if_neg de];exact Dt w a ha n1 A c xs hx hl hn hg
  | true=>
   have h:oc a n1 xs=true:=by rw[oc,hn,hg];rfl
   rw[tQ,h,if_pos rfl];obtain ⟨i,rfl,rfl,hi⟩:=sD hg;rw[gu];by_cases jJ:rg a=9218868437227405312
   · rw[if_pos jJ];exact Du w a ha i A c hi hx hn jJ
   · rw[if_neg jJ];have h1:=of_decide_eq_false hn;exact Dv w a ha i A c hi hx hn om
end
theorem zuv {P Q:Prop} (k:Q) (h:(Unit→Q)→P:=by
 intro zK;refine za rfl (Kj u24 rfl xn rfl (HF.on E).here.2 rfl rfl ?_);exact zK ()):P:=h fun _=>k
theorem yuz {P:Prop} (h:P:=by
 refine JR ?_;exact xq):P:=h
theorem SS {P:Prop} (h:P:=by
 refine yu ?_;exact xq):P:=h
theorem N9 {P:Prop} (h:P:=by
 refine qa ?_;exact xq):P:=h
theorem Wt {P:Prop} (h:P:=by
 refine fU rfl (zzv rfl rfl (yf ?_));refine qw rfl (fun h3=>?_) (fun h3=>?_)
 ·
  refine yu ?_;exact xq
 ·
  refine Ez ?_;exact Wu):P:=h
theorem Wu {P:Prop} (h:P:=by
 refine yg 51 rfl (fun h4=>?_) (fun h4=>?_)
 ·
  refine zn ?_;refine yg 58 rfl (fun h5=>?_) (fun h5=>?_)
  ·
   replace h5:=eq_of_beq h5;refine zo ?_;refine fU rfl (ylx u9 rfl (yu ?_));exact xq
  ·
   replace h5:=beq_eq_false_iff_ne.1 h5;refine qa ?_;exact xq
 ·
  refine Ez ?_;exact xq):P:=h
theorem xq {P:Prop} (h:P:=by
 exact ⟨by refine congrArg (fun z=>Ending.returned (.bool z)) ?_;first | (simp_all[PV.good,gr0];done) | (simp_all[PV.good,gr0];omega),aT LW E ak⟩):P:=h
theorem gr0 {n:Nat} (h:0<n):n≠0:=om
theorem ov {s:ByteArray} (h:s.toList= []):s.size=0:=by
 have h1:=congrArg List.length h;rw[ByteArray.toList_eq] at h1;exact h1
section
variable (w:World) (k:Int) (yes neg:Bool) (A B:Option Addr) (xs:List Nat) (c bits ni d:Nat) (s:ByteArray) (hx:ay w A xs) (hl:xs.length≤9223372036854775807)
include hx hl
theorem Jc:Calls prog 6 #[.agg #[.int .i64 k,.bool yes,.bool neg,.slice A xs.length c,.int .u64 ((bits:Nat):Int),.string s,.slice B ni d]] w (aD w (.bool (PV.good ⟨k,yes,neg,xs,bits,s,ni⟩))):=by
 refine zh func6 ntmps6 fun HF LW ak E=>?_;replace HF:=HF.and (Per.aF hx);refine zo ?_;refine zl HF LW E ak fun aK w2 HF LW E=>?_;refine vc ?_;refine qw rfl (fun h1=>?_) (fun h1=>?_)
 ·
  replace h1:=of_decide_eq_true h1;exact SS
 ·
  replace h1:=of_decide_eq_false h1;refine qu ?_;refine yg 12 rfl (fun h2=>?_) (fun h2=>?_)
  ·
   refine jC ?_;refine qw rfl (fun h3=>?_) (fun h3=>?_)
   ·
    replace h3:=eq_of_beq h3;subst h3;refine zq ?_;refine yg 26 rfl (fun h4=>?_) (fun h4=>?_)
    ·
     refine yl ?_;refine yg 29 rfl (fun h5=>?_) (fun h5=>?_)
     ·
      replace h5:=eq_of_beq h5;refine ya ?_;refine yg 34 rfl (fun h6=>?_) (fun h6=>?_)
      ·
       replace h6:=eq_of_beq h6;exact N9
      ·
       replace h6:=beq_eq_false_iff_ne.1 h6;exact N9
     ·
      replace h5:=beq_eq_false_iff_ne.1 h5;refine od ?_;exact xq
    ·
     refine EA ?_;exact xq
   ·
    replace h3:=beq_eq_false_iff_ne.1 h3;refine zq ?_;refine qw rfl (fun h7=>?_) (fun h7=>?_)
    ·
     replace h7:=eq_of_beq h7;subst h7;refine yf ?_;refine yg 42 rfl (fun h8=>?_) (fun h8=>?_)
     ·
      replace h8:=eq_of_beq h8;refine ya ?_;refine yg 47 rfl (fun h9=>?_) (fun h9=>?_)
      ·
       replace h9:=eq_of_beq h9;exact N9
      ·
       replace h9:=beq_eq_false_iff_ne.1 h9;exact N9
     ·
      replace h8:=beq_eq_false_iff_ne.1 h8;refine od ?_;exact xq
    ·
     replace h7:=beq_eq_false_iff_ne.1 h7;refine zq ?_;refine qw rfl (fun h10=>?_) (fun h10=>?_)
     ·
      replace h10:=eq_of_beq h10;subst h10;refine yl ?_;refine zuv ?_;refine zb uG (ye neg c _ A xs hl (HF.on E).here.1.2) E fun w3 E=>(aN ?_);refine yg 57 rfl (fun h11=>?_) (fun h11=>?_)
      ·
       refine ya ?_;refine yg 62 rfl (fun h12=>?_) (fun h12=>?_)
       ·
        refine ya ?_;refine yg 67 rfl (fun h13=>?_) (fun h13=>?_)
        ·
         replace h13:=eq_of_beq h13;exact N9
        ·
         replace h13:=beq_eq_false_iff_ne.1 h13;exact N9
       ·
        refine od ?_;exact xq
      ·
       refine EB ?_;exact xq
     ·
      replace h10:=beq_eq_false_iff_ne.1 h10;refine zq ?_;refine qw rfl (fun h14=>?_) (fun h14=>?_)
      ·
       replace h14:=eq_of_beq h14;subst h14;refine yf ?_;refine yg 75 rfl (fun h15=>?_) (fun h15=>?_)
       ·
        replace h15:=eq_of_beq h15;refine ya ?_;refine yg 80 rfl (fun h16=>?_) (fun h16=>?_)
        ·
         exact N9
        ·
         exact N9
       ·
        replace h15:=beq_eq_false_iff_ne.1 h15;refine od ?_;exact xq
      ·
       replace h14:=beq_eq_false_iff_ne.1 h14;refine zq ?_;refine qw rfl (fun h17=>?_) (fun h17=>?_)
       ·
        replace h17:=eq_of_beq h17;subst h17;refine yf ?_;refine yg 88 rfl (fun h18=>?_) (fun h18=>?_)
        ·
         replace h18:=eq_of_beq h18;refine ya ?_;refine yg 93 rfl (fun h19=>?_) (fun h19=>?_)
         ·
          refine ya ?_;refine yg 98 rfl (fun h20=>?_) (fun h20=>?_)
          ·
           replace h20:=eq_of_beq h20;refine zo ?_;refine fU rfl (ylx u9 rfl (qu ?_));exact xq
          ·
           replace h20:=beq_eq_false_iff_ne.1 h20;refine vc ?_;exact xq
         ·
          refine KQ ?_;exact xq
        ·
         replace h18:=beq_eq_false_iff_ne.1 h18;refine Vb ?_;exact xq
       ·
        replace h17:=beq_eq_false_iff_ne.1 h17;refine yd ?_;exact xq
  ·
   refine jC ?_;refine qw rfl (fun h21=>?_) (fun h21=>?_)
   ·
    replace h21:=eq_of_beq h21;subst h21;refine zq ?_;refine yg 26 rfl (fun h22=>?_) (fun h22=>?_)
    ·
     refine EA ?_;exact xq
    ·
     refine EA ?_;exact xq
   ·
    replace h21:=beq_eq_false_iff_ne.1 h21;refine zq ?_;refine qw rfl (fun h23=>?_) (fun h23=>?_)
    ·
     replace h23:=eq_of_beq h23;subst h23;exact yuz
    ·
     replace h23:=beq_eq_false_iff_ne.1 h23;refine zq ?_;refine qw rfl (fun h24=>?_) (fun h24=>?_)
     ·
      replace h24:=eq_of_beq h24;subst h24;refine yl ?_;refine zuv ?_;refine zb uG (ye neg c _ A xs hl (HF.on E).here.1.2) E fun w4 E=>(aN ?_);refine yg 57 rfl (fun h25=>?_) (fun h25=>?_)
      ·
       refine ya ?_;refine yg 62 rfl (fun h26=>?_) (fun h26=>?_)
       ·
        refine ya ?_;refine yg 67 rfl (fun h27=>?_) (fun h27=>?_)
        ·
         replace h27:=eq_of_beq h27;exact N9
        ·
         replace h27:=beq_eq_false_iff_ne.1 h27;exact N9
       ·
        refine od ?_;exact xq
      ·
       refine EB ?_;exact xq
     ·
      replace h24:=beq_eq_false_iff_ne.1 h24;refine zq ?_;refine qw rfl (fun h28=>?_) (fun h28=>?_)
      ·
       replace h28:=eq_of_beq h28;subst h28;exact yuz
      ·
       replace h28:=beq_eq_false_iff_ne.1 h28;refine zq ?_;refine qw rfl (fun h29=>?_) (fun h29=>?_)
       ·
        replace h29:=eq_of_beq h29;subst h29;refine uQ ?_;exact xq
       ·
        replace h29:=beq_eq_false_iff_ne.1 h29;refine yd ?_;exact xq
theorem rg0:Calls prog 7 #[.agg #[.int .i64 0,.bool yes,.bool neg,.slice A xs.length c,.int .u64 ((bits:Nat):Int),.string s,.slice B ni d]] w (aD w (.bool (PV.good ⟨0,yes,neg,xs,bits,s,ni⟩))):=by
 have _:=hx;have _:=hl;have hs0:s.toList= []→s.size=0:=ov;refine zh func7 ntmps7 fun HF LW ak E=>?_;replace HF:=HF.and (Per.aF hx);refine zo ?_;refine zl HF LW E ak fun aK w2 HF LW E=>?_;refine Vb ?_;refine qw rfl (fun h1=>?_) (fun h1=>?_)
 ·
  exact SS
 ·
  refine kb ?_;refine yg 24 rfl (fun h2=>?_) (fun h2=>?_)
  ·
   refine uR ?_;exact xq
  ·
   refine yd ?_;refine yg 34 rfl (fun h3=>?_) (fun h3=>?_)
   ·
    exact yuz
   ·
    refine zq ?_;refine fU rfl (zzv rfl rfl (yf ?_));refine qw rfl (fun h4=>?_) (fun h4=>?_)
    ·
     exact SS
    ·
     refine Ez ?_;refine yg 51 rfl (fun h5=>?_) (fun h5=>?_)
     ·
      refine zn ?_;refine yg 58 rfl (fun h6=>?_) (fun h6=>?_)
      ·
       replace h6:=eq_of_beq h6;refine zo ?_;refine fU rfl (ylx u9 rfl ?_);exact SS
      ·
       replace h6:=beq_eq_false_iff_ne.1 h6;exact N9
     ·
      refine Ez ?_;exact xq
theorem rg1:Calls prog 7 #[.agg #[.int .i64 1,.bool yes,.bool neg,.slice A xs.length c,.int .u64 ((bits:Nat):Int),.string s,.slice B ni d]] w (aD w (.bool (PV.good ⟨1,yes,neg,xs,bits,s,ni⟩))):=by
 have _:=hx;have _:=hl;have hs0:s.toList= []→s.size=0:=ov;refine zh func7 ntmps7 fun HF LW ak E=>?_;replace HF:=HF.and (Per.aF hx);refine zo ?_;refine zl HF LW E ak fun aK w2 HF LW E=>?_;refine Vb ?_;refine qw rfl (fun h1=>?_) (fun h1=>?_)
 ·
  exact SS
 ·
  refine jC ?_;refine yg 34 rfl (fun h2=>?_) (fun h2=>?_)
  ·
   exact yuz
  ·
   refine zq ?_;exact Wt
theorem rg2:Calls prog 7 #[.agg #[.int .i64 2,.bool yes,.bool neg,.slice A xs.length c,.int .u64 ((bits:Nat):Int),.string s,.slice B ni d]] w (aD w (.bool (PV.good ⟨2,yes,neg,xs,bits,s,ni⟩))):=by
 have _:=hx;have _:=hl;have hs0:s.toList= []→s.size=0:=ov;refine zh func7 ntmps7 fun HF LW ak E=>?_;replace HF:=HF.and (Per.aF hx);refine zo ?_;refine zl HF LW E ak fun aK w2 HF LW E=>?_;refine Vb ?_;refine qw rfl (fun h1=>?_) (fun h1=>?_)
 ·
  exact SS
 ·
  refine kb ?_;refine yg 24 rfl (fun h2=>?_) (fun h2=>?_)
  ·
   refine uR ?_;exact xq
  ·
   refine yd ?_;refine yg 34 rfl (fun h3=>?_) (fun h3=>?_)
   ·
    exact yuz
   ·
    refine zq ?_;refine fU rfl (zzv rfl rfl (yf ?_));refine qw rfl (fun h4=>?_) (fun h4=>?_)
    ·
     exact SS
    ·
     refine od ?_;refine zuv ?_;refine zb XF (oI neg c _ A xs hl (HF.on E).here.1.2) E fun w3 E=>(ya ?_);exact xq
theorem rg3:Calls prog 7 #[.agg #[.int .i64 3,.bool yes,.bool neg,.slice A xs.length c,.int .u64 ((bits:Nat):Int),.string s,.slice B ni d]] w (aD w (.bool (PV.good ⟨3,yes,neg,xs,bits,s,ni⟩))):=by
 have _:=hx;have _:=hl;have hs0:s.toList= []→s.size=0:=ov;refine zh func7 ntmps7 fun HF LW ak E=>?_;replace HF:=HF.and (Per.aF hx);refine zo ?_;refine zl HF LW E ak fun aK w2 HF LW E=>?_;refine Vb ?_;refine qw rfl (fun h1=>?_) (fun h1=>?_)
 ·
  exact SS
 ·
  refine kb ?_;refine yg 24 rfl (fun h2=>?_) (fun h2=>?_)
  ·
   refine uR ?_;exact xq
  ·
   refine od ?_;exact Wt
theorem rg4:Calls prog 7 #[.agg #[.int .i64 4,.bool yes,.bool neg,.slice A xs.length c,.int .u64 ((bits:Nat):Int),.string s,.slice B ni d]] w (aD w (.bool (PV.good ⟨4,yes,neg,xs,bits,s,ni⟩))):=by
 have _:=hx;have _:=hl;have hs0:s.toList= []→s.size=0:=ov;refine zh func7 ntmps7 fun HF LW ak E=>?_;replace HF:=HF.and (Per.aF hx);refine zo ?_;refine zl HF LW E ak fun aK w2 HF LW E=>?_;refine Vb ?_;refine qw rfl (fun h1=>?_) (fun h1=>?_)
 ·
  exact SS
 ·
  refine kb ?_;refine yg 24 rfl (fun h2=>?_) (fun h2=>?_)
  ·
   refine uR ?_;exact xq
  ·
   refine yd ?_;refine yg 34 rfl (fun h3=>?_) (fun h3=>?_)
   ·
    exact yuz
   ·
    refine uR ?_;exact Wu
theorem rgx (hk:k<0∨4<k):Calls prog 7 #[.agg #[.int .i64 k,.bool yes,.bool neg,.slice A xs.length c,.int .u64 ((bits:Nat):Int),.string s,.slice B ni d]] w (aD w (.bool (PV.good ⟨k,yes,neg,xs,bits,s,ni⟩))):=by
 have _:=hx;have _:=hl;have e:PV.good ⟨k,yes,neg,xs,bits,s,ni⟩=false:=by unfold PV.good;simp only[];rw[if_neg om,if_neg om,if_neg om,if_neg om,if_neg om,Bool.and_false]
 rw[e];refine zh func7 ntmps7 fun HF LW ak E=>?_;refine zo ?_;refine zl HF LW E ak fun aK w2 HF LW E=>?_;refine yd ?_;by_cases q0:k<0
 ·
  refine xv 6 rfl (by rw[decide_eq_true q0]<;>rfl) (EB ?_);exact gi
 ·
  refine gy 6 rfl (by rw[decide_eq_false q0]<;>rfl) (ya ?_);refine xv 11 rfl (by rw[decide_eq_true om]<;>rfl) (od ?_);exact gi
theorem Dz:Calls prog 7 #[.agg #[.int .i64 k,.bool yes,.bool neg,.slice A xs.length c,.int .u64 ((bits:Nat):Int),.string s,.slice B ni d]] w (aD w (.bool (PV.good ⟨k,yes,neg,xs,bits,s,ni⟩))):=by
 by_cases hk:k<0∨4<k
 · exact rgx w k yes neg A B xs c bits ni d s hx hl hk
 · obtain rfl | rfl | rfl | rfl | rfl:k=0∨k=1∨k=2∨k=3∨k=4:=om
   · exact rg0 w yes neg A B xs c bits ni d s hx hl
   · exact rg1 w yes neg A B xs c bits ni d s hx hl
   · exact rg2 w yes neg A B xs c bits ni d s hx hl
   · exact rg3 w yes neg A B xs c bits ni d s hx hl
   · exact rg4 w yes neg A B xs c bits ni d s hx hl
end
theorem zS {P Q:Prop} (k:Q) (h:(Unit→Q)→P:=by
 intro zK;refine yl ?_;refine oq (rs:=[.cell 2 28]) (vs:=[_]) rfl ⟨⟨_,rfl,zzq u28 rfl tL B2e rfl⟩,trivial⟩ ?_;exact zK ()):P:=h fun _=>k
theorem ow {P Q:Prop} (k:Q) (h:(Unit→Q)→P:=by
 intro zK;refine za rfl (xi BH ?_);exact zK ()):P:=h fun _=>k
theorem DF (w:World) (b:Nat) (hb:b<18446744073709551616):Calls prog 28 #[.int .u64 ((b:Nat):Int)] w (aD w (.agg #[.int .i64 3,.bool false,.bool false,.slice none 0 0,.int .u64 ((BK b:Nat):Int),.string ⟨#[]⟩,.slice none 0 0])):=by
 refine zd func28 rfl ntmps28 rfl (zo ?_);refine ow ?_;rintro g2 wB B2 E2 G2;refine zq ?_;refine za rfl (zc uH rfl ((xl _ b hb).mono ?_));rintro e w1 ⟨rfl,hb⟩;refine ⟨_,rfl,?_⟩;have E3:=E2.trans (Ext.of_below hb No);have B3:=B2.ext (Ext.of_below hb No) (fun h=>h.elim);by_cases hn:aY b=true
 ·
  refine xv 4 rfl (by rw[hn]<;>rfl) (yd ?_);refine za rfl (Xq (cs:=#[.int .i64 3,.bool false,.bool false,.slice none 0 0,.int .u64 9221120237041090560,.string ⟨#[]⟩,.slice none 0 0]) uE BH rfl rfl (yx (qz tL rfl rfl B3 rfl rfl rfl ?_)));rintro wC B2e E4;refine zS ?_;exact ⟨by unfold BK;rw[if_pos hn];rfl,((E3.noL w.heap.size).step E4 (fun q hq=>Or.inl (show w.heap.size≤q by have:=nD hq;omega))).below (fun _ h=>h)⟩
 ·
  have hn':aY b=false:=by cases h9:aY b<;>simp_all
  refine gy 4 rfl (by rw[hn']<;>rfl) (yu ?_);refine za rfl (Xq (cs:=#[.int .i64 3,.bool false,.bool false,.slice none 0 0,.int .u64 ((b:Nat):Int),.string ⟨#[]⟩,.slice none 0 0]) uE BH rfl rfl (yx (qz tL rfl rfl B3 rfl rfl rfl ?_)));rintro wC B2e E4;refine zS ?_;exact ⟨by unfold BK;rw[if_neg hn];rfl,((E3.noL w.heap.size).step E4 (fun q hq=>Or.inl (show w.heap.size≤q by have:=nD hq;omega))).below (fun _ h=>h)⟩
theorem lX {P Q:Prop} (k:Q) (h:(Unit→Q)→P:=by
 intro zK;refine za rfl (vd (j:=(aC i).length-1-k) u46 dw rfl rfl om om ?_);exact zK ()):P:=h fun _=>k
theorem Wz {P:Prop} (h:P:=by
 refine za rfl (pY rfl (yj om) (zq ?_));exact ⟨by rw[Oj,if_pos (of_decide_eq_true hn)];rfl,aT LW E ak⟩):P:=h
theorem zT {j:Int} (h0:j≠0):0<(limbs j).length:=by rw[yo];exact YP yq om
theorem Jf {b:Nat} (L:List Nat) (j:Nat) (h:j<L.length):val b (L.drop j)=L.getD j 0+b*val b (L.drop (j+1)):=by
 rw[List.drop_eq_getElem_cons h,val,List.getD_eq_getElem?_getD,List.getElem?_eq_getElem h,Option.getD_some]
def o8 (b:Nat) (L:List Nat) (k:Nat):Nat:=val b (L.drop (L.length-k))%2147483647
theorem zU (b:Nat) (L:List Nat):o8 b L 0=0:=by rw[o8,Nat.sub_zero,List.drop_length];rfl
theorem Ol (b:Nat) (L:List Nat) (k:Nat):o8 b L k<2147483647:=Nat.mod_lt _ de
theorem zV {b:Nat} {L:List Nat} {k:Nat} (h:k<L.length):o8 b L (k+1)=(o8 b L k*b+L.getD (L.length-1-k) 0)%2147483647:=by
 have key:∀V l:Nat,(V%2147483647*b+l)%2147483647=(V*b+l)%2147483647:=fun V l=>by rw[←Nat.mod_add_mod,Nat.mod_mul_mod,Nat.mod_add_mod]
 unfold o8;rw[Jf L (L.length-(k+1)) om,show L.length-(k+1)+1=L.length-k from om,show L.length-(k+1)=L.length-1-k from om,Nat.add_comm,Nat.mul_comm b];exact (key _ _).symm
theorem Jg (i:Int):o8 au (limbs i) (limbs i).length=i.natAbs%2147483647:=by rw[o8,Nat.sub_self,List.drop_zero,yo,jj yq]
theorem Oo (i:Int):o8 10 (aC i) (aC i).length=i.natAbs%2147483647:=by rw[o8,Nat.sub_self,List.drop_zero,xS]
def Oj (i:Int):Int:=if i<0 then 0-((i.natAbs%2147483647:Nat):Int) else ((i.natAbs%2147483647:Nat):Int)
theorem Oq:mO prog 67 add64Entry:=⟨_,func67,kr,kr,kr,kr⟩
theorem DJ (x y:Nat) (w:World):(add64Entry #[.int .u64 ((x:Nat):Int),.int .u64 ((y:Nat):Int),.int .u64 0]).run prog w =
 .ok (.tuple #[.int .u64 (((x+y)%18446744073709551616:Nat):Int),.int .u64 (((x+y)/18446744073709551616:Nat):Int)]) w:=by
 rw[run_add64 _ _ 0 om om om om,Int.add_zero,←Int.natCast_add];rfl
theorem DK {h l hi lo c s:Nat} (h1:hi*18446744073709551616+lo=h*au) (h2:c*18446744073709551616+s=lo+l):((hi+c)*18446744073709551616+s)%2147483647=(h*au+l)%2147483647:=by
 have e:(hi+c)*18446744073709551616+s=h*au+l:=by rw[Nat.add_mul,Nat.add_assoc,h2,←Nat.add_assoc,h1]
 rw[e]
section
variable (i:Int) (A:Option Addr) (c:Nat) (w:World) (hi:i.natAbs<au^30) (hx:ay w A (limbs i))
include hi hx
theorem sS (h0:i=0):Calls prog 32 #[.agg #[.bool (decide (i<0)),.slice A (limbs i).length c]] w (aD w (.int .i64 (Oj i))):=by
 have hl:((limbs i).length:Int)=0:=by rw[h0,qn];rfl
 refine zh func32 ntmps32 fun HF LW ak E=>?_;replace HF:=HF.and (Per.aF hx);refine zo ?_;refine zl HF LW E ak fun aK w2 HF LW E=>?_;refine zn ?_;refine zb uG (Ig A c _ hi (HF.on E).here.1.2) E fun w3 E=>(KQ ?_);refine zx ?_;refine yf ?_;refine znz (zn ?_);refine yn 16 rfl (by rw[hl];rfl) (kb ?_);refine yn 40 rfl (by rw[h0];rfl) (zq ?_);refine za rfl (jd (z:=0) underlying3 u25 rfl kr (ya ?_));exact ⟨by rw[h0];rfl,aT LW E ak⟩
theorem zW (h0:i≠0):Calls prog 32 #[.agg #[.bool (decide (i<0)),.slice A (limbs i).length c]] w (aD w (.int .i64 (Oj i))):=by
 have hl2:=vf hi;obtain ⟨bx,ox,rfl,hbx,hcx⟩:=hx.2 (zT h0);have hsm:=zbx i;refine zh func32 ntmps32 fun HF LW ak E=>?_;replace HF:=HF.and (Per.aF hx);refine zo ?_;refine zl HF LW E ak fun aK w2 HF LW E=>?_;refine zn ?_;refine zb uG (Ig (some ⟨bx,ox,none⟩) c _ hi (HF.on E).here.1.2) E fun w3 E=>(KQ ?_);refine zx ?_;refine yf ?_;replace HF:=HF.on E;replace LW:=LW.step E ak;replace E:=aB (No) w3;refine qt (ι:=Nat) (fun k=>[(1,.pointer (some ⟨aK,0,none⟩)),(3,.int .u64 ((o8 au (limbs i) k:Nat):Int)),(4,.int .i64 (((limbs i).length:Int)-1-((k:Nat):Int)))]) (fun k w'=>Ext (No) w3 w'∧(k≤(limbs i).length)) (fun k=>(limbs i).length-k) 0 ⟨rfl,congrArg (fun z:Nat=>some (Value.int .u64 (z:Int))) (zU _ _).symm,congrArg (fun z:Int=>some (Value.int .i64 z)) om,trivial⟩ ⟨Ext.refl _ _,Nat.zero_le _⟩ ?_;rintro k w5 ⟨M4,hk⟩;have XM4:=aP (No) w3;replace E:=E.trans M4;replace HF:=HF.on E;replace LW:=LW.step E ak;replace E:=aB (No) w5;refine zn ?_;refine zy 16 (.bool (decide (k<(limbs i).length))) rfl (gq om) ?_;have hup:=Ol au (limbs i) k;refine zg rfl (fun hl=>?_) (fun hl=>?_)
 ·
  have hl:=of_decide_eq_true hl;obtain ⟨h,hh⟩:∃h,h=o8 au (limbs i) k:=⟨_,rfl⟩;obtain ⟨l,hll⟩:∃l,l=(limbs i).getD ((limbs i).length-1-k) 0:=⟨_,rfl⟩;have hlb:l<1000000000000000000:=by rw[hll];exact zov de hsm _
  have hnx:o8 au (limbs i) (k+1)=(h*au+l)%2147483647:=by rw[zV hl,←hh,←hll]
  rw[←hh] at hup;refine zy 3 (.int .u64 ((h:Nat):Int)) rfl (by rw[hh]<;>rfl) ?_;obtain ⟨p,hp⟩:∃p,p=h*1000000000000000000/18446744073709551616:=⟨_,rfl⟩;obtain ⟨q,hq⟩:∃q,q=h*1000000000000000000%18446744073709551616:=⟨_,rfl⟩;have hpq:p*18446744073709551616+q=h*au:=kl hp hq;have hpb:p<2147483647:=by rw[hp];exact Nat.div_lt_of_lt_mul (Nat.lt_of_lt_of_le (Nat.mul_lt_mul_of_pos_right hup de) de)
  have hqb:q<18446744073709551616:=xk de hq;obtain ⟨t,ht⟩:∃t,t=(q+l)/18446744073709551616:=⟨_,rfl⟩;obtain ⟨s,hs⟩:∃s,s=(q+l)%18446744073709551616:=⟨_,rfl⟩;have hts:t*18446744073709551616+s=q+l:=kl ht hs;have hsb:s<18446744073709551616:=xk de hs;have htb:t<2:=by rw[ht];exact Nat.div_lt_of_lt_mul om
  refine zn ?_;refine zb Gw (ymx h 1000000000000000000 om de _) E fun w6 E=>(ze 21 (.tuple #[.int .u64 ((p:Nat):Int),.int .u64 ((q:Nat):Int)]) rfl (by rw[hp,hq]<;>rfl) (kb ?_));refine za rfl (vd (j:=(limbs i).length-1-k) u22 uy rfl rfl om om ?_);obtain ⟨b9,o9,P9,_,WA⟩:=((HF.on E).here.1.2).2 (zT h0);obtain ⟨rfl,rfl⟩:b9=bx∧o9=ox:=by simpa using P9.symm
  refine za rfl (jm u25 rfl rfl (WA ((limbs i).length-1-k) om) (ze 30 (.int .u64 ((l:Nat):Int)) rfl (by rw[FJ,hll]<;>rfl) (za rfl (iR (args:=[.int .u64 ((q:Nat):Int),.int .u64 ((l:Nat):Int),.int .u64 0]) Oq rfl (DJ q l _) (ze 31 (.tuple #[.int .u64 ((s:Nat):Int),.int .u64 ((t:Nat):Int)]) rfl (by rw[hs,ht]<;>rfl) (yd ?_))))));refine oz ?_;refine aN ?_;refine ze 36 (.int .u64 ((p+t:Nat):Int)) rfl (by rw[Int.natCast_add]<;>rfl) (zb Qs (ysx _ (p+t) s om hsb) E fun w7 E=>(ze 38 (.int .u64 ((o8 au (limbs i) (k+1):Nat):Int)) rfl (by rw[DK hpq hts,←hnx]<;>rfl) (zq ?_)));refine zx ?_;refine zo ?_;exact yk (k+1) om ⟨rfl,rfl,congrArg (fun z:Int=>some (Value.int .i64 z)) om,trivial⟩ ⟨M4.step E XM4,om⟩
 ·
  have hl:=of_decide_eq_false hl;have hke:k=(limbs i).length:=om;have hend:o8 au (limbs i) k=i.natAbs%2147483647:=by rw[hke,Jg]
  refine zy 3 (.int .u64 ((i.natAbs%2147483647:Nat):Int)) rfl (by rw[hend]<;>rfl) (vc ?_);refine zg rfl (fun hn=>?_) (fun hn=>?_)
  ·
   refine yl ?_;refine XW ?_;exact Wz
  ·
   refine ya ?_;refine XW ?_;refine ya ?_;exact ⟨by rw[Oj,if_neg (of_decide_eq_false hn)];rfl,aT LW E ak⟩
theorem Ot:Calls prog 32 #[.agg #[.bool (decide (i<0)),.slice A (limbs i).length c]] w (aD w (.int .i64 (Oj i))):=by
 by_cases h0:i=0
 · exact sS i A c w hi hx h0
 · exact zW i A c w hi hx h0
theorem nE (h0:i=0):Calls prog 41 #[.agg #[.bool (decide (i<0)),.slice A (limbs i).length c]] w (aD w (.int .i64 (Oj i))):=by
 have hl:((aC i).length:Int)=0:=by rw[h0,oK];rfl
 refine zh func41 ntmps41 fun HF LW ak E=>?_;replace HF:=HF.and (Per.aF hx);refine zo ?_;refine zl HF LW E ak fun aK w2 HF LW E=>?_;refine zn ?_;refine zb XF (NA A c _ hi (HF.on E).here.1.2) E fun w3 E=>(qu ?_);refine zlx Qr (Zw A c _ hi (HF.on E).here.1.2) HF LW E ak (fun o=>Per.y5 o ah.none_) fun A2 c2 w4 HF LW E=>(km XB HF LW E ak fun bC w6 aS cB HF E ak=>(yx (qd uD rfl rfl aS rfl rfl (Nat.le_of_ble_eq_true rfl) ?_)));intro w7 Bx dU;replace aS:=Bx;replace E:=E.step1 dU ah.head;obtain ⟨HF,LW,ak,E⟩:=dL HF LW E ak (Y:=No) (ah.skip ah.aR) (Per.aQ aS aj.nil);refine kb ?_;refine zx ?_;refine yf ?_;refine znz (zn ?_);refine yn 16 rfl (by rw[hl];rfl) (kb ?_);refine yn 30 rfl (by rw[h0];rfl) (qa ?_);exact ⟨by rw[h0];rfl,aT LW E ak⟩
theorem sU (h0:i≠0):Calls prog 41 #[.agg #[.bool (decide (i<0)),.slice A (limbs i).length c]] w (aD w (.int .i64 (Oj i))):=by
 have hl2:=zux hi;refine zh func41 ntmps41 fun HF LW ak E=>?_;replace HF:=HF.and (Per.aF hx);refine zo ?_;refine zl HF LW E ak fun aK w2 HF LW E=>?_;refine zn ?_;refine zb XF (NA A c _ hi (HF.on E).here.1.2) E fun w3 E=>(qu ?_);refine zlx Qr (Zw A c _ hi (HF.on E).here.1.2) HF LW E ak (fun o=>Per.y5 o ah.none_) fun A2 c2 w4 HF LW E=>?_;obtain ⟨bx,ox,hAe,_,_⟩:=((HF.on E).here.2).2 (Wd h0);refine km XB HF LW E ak fun bC w6 aS cB HF E ak=>(yx (qd uD rfl rfl aS rfl rfl (Nat.le_of_ble_eq_true rfl) ?_));intro w7 Bx dU;replace aS:=Bx;replace E:=E.step1 dU ah.head;obtain ⟨HF,LW,ak,E⟩:=dL HF LW E ak (Y:=No) (ah.skip ah.aR) (Per.aQ aS aj.nil);refine kb ?_;refine zx ?_;refine yf ?_;replace HF:=HF.on E;replace LW:=LW.step E ak;replace E:=aB (No) w7;refine qt (ι:=Nat) (fun k=>[(3,.pointer (some ⟨bC,0,none⟩)),(4,.int .i64 ((o8 10 (aC i) k:Nat):Int)),(5,.int .i64 (((aC i).length:Int)-1-((k:Nat):Int)))]) (fun k w'=>Ext (No) w7 w'∧(k≤(aC i).length)) (fun k=>(aC i).length-k) 0 ⟨rfl,congrArg (fun z:Nat=>some (Value.int .i64 (z:Int))) (zU _ _).symm,congrArg (fun z:Int=>some (Value.int .i64 z)) om,trivial⟩ ⟨Ext.refl _ _,Nat.zero_le _⟩ ?_;rintro k w9 ⟨M8,hk⟩;have ig:=aP (No) w7;replace E:=E.trans M8;replace HF:=HF.on E;replace LW:=LW.step E ak;replace E:=aB (No) w9;refine zn ?_;refine zy 16 (.bool (decide (k<(aC i).length))) rfl (gq om) ?_;have hup:=Ol 10 (aC i) k;refine zg rfl (fun hl=>?_) (fun hl=>?_)
 ·
  have hl:=of_decide_eq_true hl;obtain ⟨h,hh⟩:∃h,h=o8 10 (aC i) k:=⟨_,rfl⟩;obtain ⟨l,hll⟩:∃l,l=(aC i).getD ((aC i).length-1-k) 0:=⟨_,rfl⟩;have hlb:l<10:=by rw[hll];exact zov de (yev i) _
  have hnx:o8 10 (aC i) (k+1)=(10*h+l)%2147483647:=by rw[zV hl,←hh,←hll,Nat.mul_comm]
  rw[←hh] at hup;refine zy 4 (.int .i64 ((h:Nat):Int)) rfl (by rw[hh]<;>rfl) (zq ?_);refine zkq ?_;refine yl ?_;refine ze 22 (.slice (some ⟨bx,ox,none⟩) (aC i).length c2) rfl (by rw[hAe]<;>rfl) (lX ?_);obtain ⟨b9,o9,P9,_,WA⟩:=((HF.on E).here.1.2).2 (Wd h0);obtain ⟨rfl,rfl⟩:b9=bx∧o9=ox:=by rw[hAe] at P9;simpa using P9.symm
  refine za rfl (jm underlying5 rfl rfl (WA ((aC i).length-1-k) om) (ze 25 (.int .u8 ((l:Nat):Int)) rfl (by rw[FJ,hll]<;>rfl) (yiq ?_)));refine za rfl (ju (z:=(((10*h+l)%2147483647:Nat):Int)) rfl rfl de (by rw[←zkx,Int.natCast_add,Int.natCast_mul];rfl) (ze 28 (.int .i64 ((o8 10 (aC i) (k+1):Nat):Int)) rfl (by rw[hnx]<;>rfl) (zq ?_)));refine zx ?_;refine zo ?_;exact yk (k+1) om ⟨rfl,rfl,congrArg (fun z:Int=>some (Value.int .i64 z)) om,trivial⟩ ⟨M8.step E ig,om⟩
 ·
  have hl:=of_decide_eq_false hl;have hke:k=(aC i).length:=om;have hend:o8 10 (aC i) k=i.natAbs%2147483647:=by rw[hke,Oo]
  refine zy 4 (.int .i64 ((i.natAbs%2147483647:Nat):Int)) rfl (by rw[hend]<;>rfl) (vc ?_);refine zg rfl (fun hn=>?_) (fun hn=>?_)
  ·
   refine yl ?_;exact Wz
  ·
   refine yd ?_;exact ⟨by rw[Oj,if_neg (of_decide_eq_false hn)];rfl,aT LW E ak⟩
theorem Jh:Calls prog 41 #[.agg #[.bool (decide (i<0)),.slice A (limbs i).length c]] w (aD w (.int .i64 (Oj i))):=by
 by_cases h0:i=0
 · exact nE i A c w hi hx h0
 · exact sU i A c w hi hx h0
end
section
variable (n1:Bool) (A:Option Addr) (c:Nat) (xs:List Nat) (w:World) (hx:ay w A xs) (hl:xs.length≤9223372036854775807) (hg:zm n1 xs=false)
include hx hl hg
theorem zX:Calls prog 32 #[.agg #[.bool n1,.slice A xs.length c]] w (aD w (.int .i64 0)):=by
 refine zh func32 ntmps32 fun HF LW ak E=>?_;replace HF:=HF.and (Per.aF hx);refine zo ?_;refine zl HF LW E ak fun aK w2 HF LW E=>?_;refine zn ?_;refine zb uG (ye n1 c _ A xs hl (HF.on E).here.1.2) E fun w3 E=>(gy 9 rfl (by rw[hg]<;>rfl) (vc ?_));exact gi
end
noncomputable def zY (n1:Bool) (xs:List Nat):Int:=if zm n1 xs then Oj (num n1 xs) else 0
section
variable (n1:Bool) (A:Option Addr) (c:Nat) (xs:List Nat) (w:World) (hx:ay w A xs) (hl:xs.length≤9223372036854775807)
include hx hl
theorem zZ:Calls prog 32 #[.agg #[.bool n1,.slice A xs.length c]] w (aD w (.int .i64 (zY n1 xs))):=by
 cases hg:zm n1 xs with
 | false=>
  rw[zY,if_neg (by rw[hg];decide)];exact zX n1 A c xs w hx hl hg
 | true=>
  rw[zY,if_pos hg];obtain ⟨i,rfl,rfl,hi⟩:=sD hg;rw[gu];exact Ot i A c w hi hx
end
end
def ao0 (W:World) (A0:Option Addr) (xs0:List Nat) (v f:Int) (e:Ending) (w':World):Prop:=∃A c,e= .returned (.tuple #[.agg #[.bool (decide (v<0)),.slice A (aC v).length c],.int .i64 f])∧aL w' A (aC v)∧((∀q,A=some q→W.heap.size≤q.block)∨(A=A0∧aC v=xs0))∧Below W.heap.size W w'
section
variable (i j:Int) (A B:Option Addr) (c d:Nat) (w:World) (hi:i.natAbs<au^30) (hj:j.natAbs<au^30) (hx:aL w A (aC i)) (hy:aL w B (aC j))
include hi hj hx hy
end
def WH (b:UInt8):Bool:=decide (48≤b.toNat)&&decide (b.toNat≤57)
def dv (b:UInt8):Nat:=b.toNat-48
def OC (r:List UInt8):Nat:=val 10 (r.reverse.map dv)
def aw8 (neg:Bool) (r:List UInt8):Int:=if r≠ []∧r.all WH=true∧OC r<au^30 then bg neg (OC r) else 0
def aw9 (r:List UInt8):Int:=if r≠ []∧r.all WH=true then (if OC r<au^30 then 0 else 2) else 4
def awq (bs:List UInt8):Bool:=decide (bs.head? =some 45)
def awz (bs:List UInt8):List UInt8:=if bs.head? =some 45 then bs.tail else bs
def dvals (l:List UInt8):List Value:=l.map fun b=>.int .u8 ((b.toNat:Int)-48)
def ao1 (W:World) (v f:Int) (e:Ending) (w':World):Prop:=∃A c,e= .returned (.tuple #[.agg #[.bool (decide (v<0)),.slice A (aC v).length c],.int .i64 f])∧aJ w' W.heap.size A c (aC v)∧Below W.heap.size W w'
section
variable (s:ByteArray) (r:List UInt8) (w:World)
end
section
variable (s:ByteArray) (w:World)
end
section
attribute [local irreducible] OW RS CW EW
theorem Az {P Q:Prop} (k:Q) (h:(Unit→Q)→P:=by
 intro zK;refine qu ?_;refine za rfl (ju (z:=((k:Nat):Int)) rfl rfl de (by rw[Z0 om,hkk]) (yf ?_));exact zK ()):P:=h fun _=>k
theorem yhq {P Q:Prop} (k:Q) (h:(Unit→Q)→P:=by
 intro zK;refine gy 11 rfl (by rw[hn]<;>rfl) (qu ?_);exact zK ()):P:=h fun _=>k
theorem AB {P Q:Prop} (k:Q) (h:(Unit→Q)→P:=by
 intro zK;refine yd ?_;refine za rfl (ju (z:=((mg (rg a)%2147483647:Nat):Int)) rfl rfl de (zkx _ 2147483647) (ya ?_));exact zK ()):P:=h fun _=>k
theorem AJ {P Q:Prop} (k:Q) (h:(Unit→Q)→P:=by
 intro zK;refine zq ?_;refine za rfl (jw rfl rfl (wrap_u64 om) (za rfl (ju (z:=((mg (rg a)*2^i%2147483647*2%2147483647:Nat):Int)) rfl rfl de (zkx _ 2147483647) (zq ?_))));refine zx ?_;refine zo ?_;exact zK ()):P:=h fun _=>k
theorem WQ {P:Prop} (h:P:=by
 refine xv 11 rfl (by rw[hn]<;>rfl) (qa ?_);exact ⟨by rw[og,if_pos hn];rfl,aT LW E ak⟩):P:=h
theorem WR {P:Prop} (h:P:=by
 have hil:=of_decide_eq_false hil;have hik:i=k:=om;refine qu ?_;refine za rfl (jd underlying3 u25 rfl (yj om) (za rfl (jw rfl rfl (yj om) (ya ?_))));exact ⟨by rw[og,if_neg (by rw[hn];decide),h,if_neg hni,hM,←hik];rfl,aT LW E ak⟩):P:=h
theorem Z0 {x:Int} (h:0≤x):x.tmod 31=x%31:=Int.tmod_eq_emod_of_nonneg h
section
variable (w:World) (a:Nat) (ha:a<18446744073709551616)
include ha
theorem JB (hn:aY a=true):Calls prog 40 #[.int .u64 ((a:Nat):Int)] w (aD w (.int .i64 (og a))):=by
 have hxa:ex (rg a)≤9007199254740992:=by have:=U6 a;unfold ex;split<;>omega
 refine zd func40 rfl ntmps40 rfl ?_;have LW:=aB (No) w;have ak:=aP (No) w;have E:=aB (No) w;refine uP ?_;refine zb Qt (zik _ a ha) E fun w1 E=>(zo ?_);refine zg rfl (fun h=>?_) (fun h=>?_)
 ·
  refine yu ?_;refine zb uH (xl _ a ha) E fun w2 E=>?_;exact WQ
 ·
  refine zq ?_;refine zb uH (xl _ a ha) E fun w3 E=>?_;exact WQ
theorem JC (hn:aY a=false) (hi:rg a=9218868437227405312):Calls prog 40 #[.int .u64 ((a:Nat):Int)] w (aD w (.int .i64 (og a))):=by
 have hxa:ex (rg a)≤9007199254740992:=by have:=U6 a;unfold ex;split<;>omega
 refine zd func40 rfl ntmps40 rfl ?_;have LW:=aB (No) w;have ak:=aP (No) w;have E:=aB (No) w;refine uP ?_;refine zb Qt (zik _ a ha) E fun w1 E=>(zo ?_);refine zg rfl (fun h=>?_) (fun h=>?_)
 ·
  refine yu ?_;refine zb uH (xl _ a ha) E fun w2 E=>(yhq ?_);refine zb Qu (ybv _ a ha) E fun w3 E=>(xv 13 rfl (by rw[decide_eq_true hi]<;>rfl) (zq ?_));refine za rfl (jw (z:=(-314159)) rfl rfl kr (zq ?_));exact EO
 ·
  refine zq ?_;refine zb uH (xl _ a ha) E fun w4 E=>(yhq ?_);refine zb Qu (ybv _ a ha) E fun w5 E=>(xv 13 rfl (by rw[decide_eq_true hi]<;>rfl) (zq ?_));refine za rfl (jw (z:=314159) rfl rfl kr (zq ?_));exact EO
theorem JD (hn:aY a=false) (hni:¬rg a=9218868437227405312) (hf:rg a<9218868437227405312):Calls prog 40 #[.int .u64 ((a:Nat):Int)] w (aD w (.int .i64 (og a))):=by
 have hxa:ex (rg a)≤9007199254740992:=by have:=U6 a;unfold ex;split<;>omega
 refine zd func40 rfl ntmps40 rfl ?_;have LW:=aB (No) w;have ak:=aP (No) w;have E:=aB (No) w;refine uP ?_;refine zb Qt (zik _ a ha) E fun w1 E=>(zo ?_);refine zg rfl (fun h=>?_) (fun h=>?_)
 ·
  refine yu ?_;refine zb uH (xl _ a ha) E fun w2 E=>(yhq ?_);refine zb Qu (ybv _ a ha) E fun w3 E=>(gy 13 rfl (by rw[decide_eq_false om]<;>rfl) (yu ?_));refine zb ac3 (nV _ a ha om) E fun w4 E=>(AB ?_);replace LW:=LW.step E ak;replace E:=aB (No) w4;refine qt (ι:=Nat) (fun j=>[(3,.int .i64 (-1)),(5,.int .i64 (((ex (rg a):Nat):Int)-1074+31*((j:Nat):Int))),(6,.int .u64 ((mg (rg a)%2147483647:Nat):Int))]) (fun j w'=>Ext (No) w4 w'∧(j≤35∧(0<j→((ex (rg a):Nat):Int)-1074+31*((j:Nat):Int)<31))) (fun j=>40-j) 0 ⟨rfl,congrArg (fun z:Int=>some (Value.int .i64 z)) om,rfl,trivial⟩ ⟨Ext.refl _ _,⟨om,fun h=>om⟩⟩ ?_;rintro j w6 ⟨M5,⟨hj,hj2⟩⟩;have Ym:=aP (No) w4;replace E:=E.trans M5;replace LW:=LW.step E ak;replace E:=aB (No) w6;refine zn ?_;refine zg rfl (fun hl=>?_) (fun hl=>?_)
  ·
   have hl:=of_decide_eq_true hl;refine qu ?_;refine yc ?_;refine zo ?_;exact yk (j+1) om ⟨rfl,congrArg (fun z:Int=>some (Value.int .i64 z)) om,rfl,trivial⟩ ⟨M5.step E Ym,⟨om,fun _=>om⟩⟩
  ·
   have hl:=of_decide_eq_false hl;obtain ⟨k,hk⟩:∃k:Nat,(((ex (rg a):Nat):Int)-1074)%31=(k:Int):=⟨((((ex (rg a):Nat):Int)-1074)%31).toNat,om⟩;have hkk:(((ex (rg a):Nat):Int)-1074+31*((j:Nat):Int))%31=(k:Int):=om;have hM:JU (rg a)=mg (rg a)*2^k%2147483647:=by rw[JU,show ((((ex (rg a):Nat):Int)-1074)%31).toNat=k from om]
   refine Az ?_;replace LW:=LW.step E ak;replace E:=aB (No) w6;refine qt (ι:=Nat) (fun i=>[(3,.int .i64 (-1)),(6,.int .u64 ((mg (rg a)*2^i%2147483647:Nat):Int)),(7,.int .i64 (((k:Nat):Int)-((i:Nat):Int)))]) (fun i w'=>Ext (No) w6 w'∧(i≤k)) (fun i=>k-i) 0 ⟨rfl,congrArg (fun z:Nat=>some (Value.int .u64 (z:Int))) (by rw[Nat.pow_zero,Nat.mul_one]),congrArg (fun z:Int=>some (Value.int .i64 z)) om,trivial⟩ ⟨Ext.refl _ _,Nat.zero_le _⟩ ?_;rintro i w8 ⟨M7,hi⟩;have XM7:=aP (No) w6;replace E:=E.trans M7;replace LW:=LW.step E ak;replace E:=aB (No) w8;refine zn ?_;refine zy 30 (.bool (decide (i<k))) rfl (gq om) ?_;have hlt:mg (rg a)*2^i%2147483647<2147483647:=Nat.mod_lt _ de;refine zg rfl (fun hil=>?_) (fun hil=>?_)
   ·
    have hil:=of_decide_eq_true hil;refine AJ ?_;exact yk (i+1) om ⟨rfl,congrArg (fun z:Nat=>some (Value.int .u64 (z:Int))) (oC _ _),congrArg (fun z:Int=>some (Value.int .i64 z)) om,trivial⟩ ⟨M7.step E XM7,om⟩
   ·
    exact WR
 ·
  refine zq ?_;refine zb uH (xl _ a ha) E fun w9 E=>(yhq ?_);refine zb Qu (ybv _ a ha) E fun oD E=>(gy 13 rfl (by rw[decide_eq_false om]<;>rfl) (yu ?_));refine zb ac3 (nV _ a ha om) E fun gX E=>(AB ?_);replace LW:=LW.step E ak;replace E:=aB (No) gX;refine qt (ι:=Nat) (fun j=>[(3,.int .i64 1),(5,.int .i64 (((ex (rg a):Nat):Int)-1074+31*((j:Nat):Int))),(6,.int .u64 ((mg (rg a)%2147483647:Nat):Int))]) (fun j w'=>Ext (No) gX w'∧(j≤35∧(0<j→((ex (rg a):Nat):Int)-1074+31*((j:Nat):Int)<31))) (fun j=>40-j) 0 ⟨rfl,congrArg (fun z:Int=>some (Value.int .i64 z)) om,rfl,trivial⟩ ⟨Ext.refl _ _,⟨om,fun h=>om⟩⟩ ?_;rintro j vN ⟨M12,⟨hj,hj2⟩⟩;have au9:=aP (No) gX;replace E:=E.trans M12;replace LW:=LW.step E ak;replace E:=aB (No) vN;refine zn ?_;refine zg rfl (fun hl=>?_) (fun hl=>?_)
  ·
   have hl:=of_decide_eq_true hl;refine qu ?_;refine yc ?_;refine zo ?_;exact yk (j+1) om ⟨rfl,congrArg (fun z:Int=>some (Value.int .i64 z)) om,rfl,trivial⟩ ⟨M12.step E au9,⟨om,fun _=>om⟩⟩
  ·
   have hl:=of_decide_eq_false hl;obtain ⟨k,hk⟩:∃k:Nat,(((ex (rg a):Nat):Int)-1074)%31=(k:Int):=⟨((((ex (rg a):Nat):Int)-1074)%31).toNat,om⟩;have hkk:(((ex (rg a):Nat):Int)-1074+31*((j:Nat):Int))%31=(k:Int):=om;have hM:JU (rg a)=mg (rg a)*2^k%2147483647:=by rw[JU,show ((((ex (rg a):Nat):Int)-1074)%31).toNat=k from om]
   refine Az ?_;replace LW:=LW.step E ak;replace E:=aB (No) vN;refine qt (ι:=Nat) (fun i=>[(3,.int .i64 1),(6,.int .u64 ((mg (rg a)*2^i%2147483647:Nat):Int)),(7,.int .i64 (((k:Nat):Int)-((i:Nat):Int)))]) (fun i w'=>Ext (No) vN w'∧(i≤k)) (fun i=>k-i) 0 ⟨rfl,congrArg (fun z:Nat=>some (Value.int .u64 (z:Int))) (by rw[Nat.pow_zero,Nat.mul_one]),congrArg (fun z:Int=>some (Value.int .i64 z)) om,trivial⟩ ⟨Ext.refl _ _,Nat.zero_le _⟩ ?_;rintro i Ck ⟨M14,hi⟩;have auq:=aP (No) vN;replace E:=E.trans M14;replace LW:=LW.step E ak;replace E:=aB (No) Ck;refine zn ?_;refine zy 30 (.bool (decide (i<k))) rfl (gq om) ?_;have hlt:mg (rg a)*2^i%2147483647<2147483647:=Nat.mod_lt _ de;refine zg rfl (fun hil=>?_) (fun hil=>?_)
   ·
    have hil:=of_decide_eq_true hil;refine AJ ?_;exact yk (i+1) om ⟨rfl,congrArg (fun z:Nat=>some (Value.int .u64 (z:Int))) (oC _ _),congrArg (fun z:Int=>some (Value.int .i64 z)) om,trivial⟩ ⟨M14.step E auq,om⟩
   ·
    exact WR
theorem JE:Calls prog 40 #[.int .u64 ((a:Nat):Int)] w (aD w (.int .i64 (og a))):=by
 cases hn:aY a with
 | true=>exact JB w a ha hn
 | false=>
  have h1:=of_decide_eq_false hn;by_cases hi:rg a=9218868437227405312
  · exact JC w a ha hn hi
  · exact JD w a ha hn hi om
end
end
def azz (b:Nat):Prop:=b≤9218868437227405312
structure tH (g b o n c:Nat) (vs:List Value) (w:World):Prop where
 head:w.cell? ⟨g,0,none⟩=some (.slice (some ⟨b,o,none⟩) n c)
 cells:∀i v,vs[i]? =some v→w.cell? ⟨b,o+i,none⟩=some v
def tJ:List Nat:=[4607182418800017408,4621819117588971520,4636737291354636288,4652007308841189376,4666723172467343360,4681608360884174848,4696837146684686336,4711630319722168320,4726483295884279808,4741671816366391296,4756540486875873280,4771362005757984768,4786511204640096256,4801453603149578240,4816244402031689728,4831355200913801216,4846369599423283200,4861130398305394688,4876203697187506176,4891288408196988160,4906019910204099648,4921056587992461136,4936209963552724370]
def TK (j:Nat):Nat:=tJ.getD j 0
def Z7:List Int:=[1,3,6,9,13,16,19,23,26]
def lcB (k:Nat):ByteArray:=⟨(Go.Pinned.cheatRows.getD k (0,[])).2.toArray⟩
theorem Z8 {k:Nat} (h:Shl k):(Go.Pinned.cheatRows.getD k (0,[])).1=Pe k∧(Go.Pinned.cheatRows.getD k (0,[])).2.map (·.toNat)=lcS k∧k<61:=by
 rcases h with rfl | rfl | rfl | rfl | rfl | rfl | rfl | rfl | rfl | rfl | rfl<;>exact ⟨by decide +kernel,by decide +kernel,de⟩
structure Pg (b o c:Nat) (w:World):Prop where
 head:w.cell? ⟨11,0,none⟩=some (.slice (some ⟨b,o,none⟩) 61 c)
 delta:∀k,Shl k→w.cell? ⟨b,o+k*2,none⟩=some (.int .i64 ((Pe k:Nat):Int))
 cut:∀k,Shl k→w.cell? ⟨b,o+k*2+1,none⟩=some (.string (lcB k))
structure TL (bp op cp bf of cf bl ol cl:Nat) (w:World):Prop where
 pow:bY w
 man:w.cell? ⟨13,0,none⟩=some (.int .u64 52)
 exp:w.cell? ⟨13,1,none⟩=some (.int .u64 11)
 bias:w.cell? ⟨13,2,none⟩=some (.int .i64 (-1023))
 opt:w.cell? ⟨4,0,none⟩=some (.bool true)
 powtab:tH 15 bp op 9 cp (Z7.map (fun z=>Value.int .i64 z)) w
 ten:tH 16 bf of 23 cf (tJ.map (fun f=>Value.float .f64 f)) w
 W9:Pg bl ol cl w
structure amx (bp bf bl n:Nat):Prop where
 pow:10<n
 info:13<n
 opt:4<n
 pt:15<n
 tn:16<n
 ch:11<n
 bp:bp<n
 bf:bf<n
 bl:bl<n
theorem TL.below {w:World} {bp op cp bf of cf bl ol cl:Nat} (h:TL bp op cp bf of cf bl ol cl w):amx bp bf bl w.heap.size:=
 have lt {p:Addr} {v:Value} (e:w.cell? p=some v):p.block<w.heap.size:=World.block_lt_of_cell? w _ e;⟨h.pow.lt,lt h.man,lt h.opt,lt h.powtab.head,lt h.ten.head,lt h.W9.head,lt (h.powtab.cells 0 _ rfl),lt (h.ten.cells 0 _ rfl),lt (h.W9.delta 1 (.inl rfl))⟩
end Go.Proofs.YtdofcnodhgaedaaGreatDoor
namespace Go.Proofs.YtdofcnodhgaedaaGreatDoor
open Go.RowKit Proofs.Tryz
attribute [local irreducible] OW RS CW EW
def f0 (m:Nat) (neg:Bool):Nat:=if neg then FloatKind.f64.nearest ((m:Nat):Int) ^^^ 9223372036854775808 else FloatKind.f64.nearest ((m:Nat):Int)
def exG (f:Nat) (p:Int):Nat:=if 22<p then fE (fq .mul f (TK (p-22).toNat)) else f
def exQ (p:Int):Nat:=if 22<p then 22 else p.toNat
def exF (m:Nat) (p:Int) (neg:Bool):Nat×Bool:=
 if m/2^52≠0 then (0,false)
 else if p=0 then (f0 m neg,true)
 else if 0<p∧p≤37 then
  if (kd (exG (f0 m neg) p) 4831355200913801216==some .gt)=true∨(kd (exG (f0 m neg) p) 14054727237768577024==some .lt)=true then (exG (f0 m neg) p,false)
  else (fE (fq .mul (exG (f0 m neg) p) (TK (exQ p))),true)
 else if p<0∧ -22≤p then (fE (fq .quo (f0 m neg) (TK (-p).toNat)),true)
 else (f0 m neg,false)
attribute [local irreducible] f0 exG TK fE kd
section
variable (w:World) {bp op cp bf of cf bl ol cl:Nat}
end
end Go.Proofs.YtdofcnodhgaedaaGreatDoor
namespace Go.Proofs.YtdofcnodhgaedaaGreatDoor
open Go.RowKit Proofs.Tryz
section
attribute [local irreducible] OW RS CW EW
section
variable (w:World)
end
end
def sgB (neg:Bool):Nat:=if neg then 9223372036854775808 else 0
def aA9 (r:Nat×Nat×Bool):Prop:=r.2.1≤2046∨(r.1=0∧r.2.1=2047)
def Pz:Value:=.iface 149 (.int .i64 1)
noncomputable def Xf (s:ByteArray) (f:Nat):Nat:=(Xd s f).m
noncomputable def rdT (s:ByteArray) (f:Nat):Bool:=(Xd s f).tr
noncomputable def atJ (s:ByteArray) (f:Nat):Nat:=(Xe s f+348).toNat
noncomputable def atF (s:ByteArray) (f:Nat) (neg:Bool):Nat:=Vq (Xf s f) (atJ s f) (sgB neg)
noncomputable def atG (s:ByteArray) (f:Nat) (neg:Bool):Nat:=Vq (Xf s f+1) (atJ s f) (sgB neg)
noncomputable def atL (s:ByteArray) (f:Nat) (neg:Bool):Bool:=kd (atF s f neg) (atG s f neg)==some .eq
noncomputable def atV (s:ByteArray) (f:Nat) (neg:Bool):Nat:=
 if Xf s f=0 then sgB neg ||| 0
 else if 310<Xe s f then sgB neg ||| 9218868437227405312
 else if Xe s f< -345 then sgB neg ||| 0
 else if rdT s f=false∧(exF (Xf s f) (Xe s f) neg).2=true then (exF (Xf s f) (Xe s f) neg).1
 else if rdT s f=false∨atL s f neg=true then atF s f neg
 else an1 (an4 s f neg)
noncomputable def atE (s:ByteArray) (f:Nat) (neg:Bool):Value:=
 if Xf s f=0 then .nilIface
 else if 310<Xe s f then Pz
 else if Xe s f< -345 then .nilIface
 else if rdT s f=false∧(exF (Xf s f) (Xe s f) neg).2=true then .nilIface
 else if rdT s f=false∨atL s f neg=true then afx (Xf s f) (atJ s f) (sgB neg)
 else if (Py (an4 s f neg)).2.2 then Pz else .nilIface
section
attribute [local irreducible] OW RS CW EW
theorem Nm.next {s:ByteArray} {f p E q:Nat} (h:Nm s f p E q) (h1:f+1<s.size):(48≤bO s (f+1)∧bO s (f+1)≤57)∨bO s (f+1)=46∨bO s (f+1)=101∨bO s (f+1)=0:=by
 have hf:=h.fp;have hp:=h.pE;rcases Nat.lt_or_ge (f+1) E with h2 | h2
 · rcases h.at_ (i:=f+1) om h2 with h3 | h3
   · exact .inl h3.2
   · exact .inr (.inl h3.2)
 · have e:E=f+1:=om;rw[←e];exact .inr (.inr (.inl (h.exp om).1))
theorem Nm.first {s:ByteArray} {f p E q:Nat} (h:Nm s f p E q):48≤bO s f∧bO s f≤57:=h.an2 f (Nat.le_refl _) h.fp
theorem Nm.size {s:ByteArray} {f p E q:Nat} (h:Nm s f p E q):f<s.size:=by have:=h.fp;have:=h.pE;have:=h.hE;omega
def Gm (s:ByteArray) (f:Nat) (neg:Bool):Prop:=(neg=false∧f=0)∨(neg=true∧f=1∧bO s 0=45)
theorem Gm.neg {s:ByteArray} {f:Nat} {neg:Bool} (h:Gm s f neg) (hn:neg=true):f=1∧bO s 0=45:=by
 rcases h with h | h
 · rw[h.1] at hn;cases hn
 · exact h.2
theorem Gm.pos {s:ByteArray} {f:Nat} {neg:Bool} (h:Gm s f neg) (hn:¬neg=true):f=0:=by
 rcases h with h | h
 · exact h.2
 · exact absurd h.1 hn
section
variable (w:World)
end
section
variable (w:World)
end
section
variable (w:World)
end
section
variable (w:World) {bp op cp bf of cf bl ol cl:Nat}
end
section
variable (w:World) {bp op cp bf of cf bl ol cl:Nat}
end
def ax1 (m k:Nat):Nat:=(m &&& 4503599627370495) ||| k*4503599627370496
section
variable (w:World) {bp op cp bf of cf bl ol cl:Nat}
end
section
variable (w:World)
end
end
end Go.Proofs.YtdofcnodhgaedaaGreatDoor

/- Texts of this claim. -/
import Derived.Test.YtdofcnodhgaedaaGreatDoorG17
import Derived.Lib.ItoaNum
set_option maxRecDepth 100000
set_option maxHeartbeats 20000000
namespace Go.Proofs.YtdofcnodhgaedaaGreatDoor
open Go.RowKit Proofs.Tryz
def l10 (x:Int):Int:=x*78913/262144
def Vs (x:Int):Int:=(x*631305-261663)/2097152
theorem Rb:∀k:Fin 2046,-300≤ -l10 ((k.val:Int)-1074)∧ -l10 ((k.val:Int)-1074)≤330∧0≤((k.val:Int)-1074)+Ce (-l10 ((k.val:Int)-1074))∧((k.val:Int)-1074)+Ce (-l10 ((k.val:Int)-1074))≤3:=by decide +kernel
theorem Rc:∀k:Fin 2046,-300≤ -Vs ((k.val:Int)-1074)∧ -Vs ((k.val:Int)-1074)≤330∧ -3≤((k.val:Int)-1074)+Ce (-Vs ((k.val:Int)-1074))∧((k.val:Int)-1074)+Ce (-Vs ((k.val:Int)-1074))≤4:=by decide +kernel
theorem Yn:Go.Pinned.pow10Rows.all (fun x=>Nat.ble 9223372036854775808 x.1)=true:=kr
theorem Lh {j:Nat} (hj:j<696):9223372036854775808≤Cc j:=by
 have hl:j<Go.Pinned.pow10Rows.length:=by rw[jU];exact hj
 have h:=List.all_eq_true.1 Yn _ (List.getElem_mem hl);have e1:Go.Pinned.pow10Rows.getD j (0,0)=Go.Pinned.pow10Rows[j]:=by rw[List.getD_eq_getElem?_getD,List.getElem?_eq_getElem hl];rfl
 unfold Cc;rw[e1];exact Nat.le_of_ble_eq_true h
def jY (m:Nat) (e:Int):Bool:=decide (m=9223372036854775808∧ -1085<e)
def xo (m:Nat) (e x:Int):Int:=if jY m e=true then -Vs x else -l10 x
def AZ (m:Nat) (e x:Int):Nat:=(xo m e x+348).toNat
def gK (m:Nat) (e x:Int):Nat:=(-(e+Ce (xo m e x)+3)).toNat
def tO (m:Nat) (e:Int) (z:Nat):Nat:=if jY m e=true then m-2^(z-2) else m-2^(z-1)
def jZ (m:Nat) (e x:Int) (v:Nat):Nat:=rF v (Cc (AZ m e x)) (AY (AZ m e x)) (gK m e x)
def fG (m z:Nat):Nat:=m/2^z &&& 1
def eG (m:Nat) (e x:Int) (z:Nat):Nat:=(jZ m e x (tO m e z)+fG m z+3)/4
def fH (m:Nat) (e x:Int) (z:Nat):Nat:=(jZ m e x (m+2^(z-1))-fG m z)/4
def rM (m:Nat) (e x:Int) (z:Nat):Nat:=
 if eG m e x z≤fH m e x z/10*10 then fH m e x z/10
 else if eG m e x z<fH m e x z then jX (jZ m e x m) else eG m e x z
def vK (m:Nat) (e x:Int) (z:Nat):Int:=if eG m e x z≤fH m e x z/10*10 then 1-xo m e x else -xo m e x
structure dP (m:Nat) (e x:Int) (z:Nat):Prop where
 m0:9223372036854775808≤m
 m1:m+2^(z-1)<18446744073709551616
 z0:11≤z
 z1:z≤63
 e0:x=e+(z:Int)
 x0:-1074≤x
 x1:x≤971
 z2:-1085≤e→z=11
 z3:e< -1085→x= -1074
theorem dP.nums {m:Nat} {e x:Int} {z:Nat} (h:dP m e x z):-300≤xo m e x∧xo m e x≤330∧(jY m e=true→z=11∧ -3≤x+Ce (xo m e x))∧(jY m e=false→0≤x+Ce (xo m e x))∧x+Ce (xo m e x)≤4:=by
 obtain ⟨k,hk⟩:∃k:Nat,(k:Int)=x+1074:=⟨(x+1074).toNat,by have:=h.x0;omega⟩;have hk2:k<2046:=by have:=h.x1;omega
 have hx:(((⟨k,hk2⟩:Fin 2046).val:Nat):Int)-1074=x:=by show (k:Int)-1074=x;omega
 have a:=Rb ⟨k,hk2⟩;have b:=Rc ⟨k,hk2⟩;rw[hx] at a b;unfold xo;cases hK:jY m e
 · rw[if_neg de];exact ⟨a.1,a.2.1,nofun,fun _=>a.2.2.1,Int.le_trans a.2.2.2 de⟩
 · rw[if_pos rfl];refine ⟨b.1,b.2.1,fun _=>⟨h.z2 ?_,b.2.2.1⟩,nofun,b.2.2.2⟩;have:=(of_decide_eq_true hK).2;omega
theorem dP.j {m:Nat} {e x:Int} {z:Nat} (h:dP m e x z):AZ m e x<696∧((AZ m e x:Nat):Int)-348=xo m e x:=by
 obtain ⟨a,b,_⟩:=h.nums;unfold AZ;omega
theorem dP.s {m:Nat} {e x:Int} {z:Nat} (h:dP m e x z):4≤gK m e x∧gK m e x≤60∧((gK m e x:Nat):Int)= -(e+Ce (xo m e x)+3):=by
 obtain ⟨a,b,c,d,g⟩:=h.nums;have h0:=h.z0;have h1:=h.z1;have h2:=h.e0;unfold gK;cases hK:jY m e
 · have:=d hK;omega
 · have:=c hK;omega
theorem dP.n {m:Nat} {e x:Int} {z:Nat} (h:dP m e x z):4611686018427387904≤tO m e z∧tO m e z<18446744073709551616:=by
 have h0:=h.m0;have h1:=h.m1;have h2:=h.z1;have h3:=h.z0;have c:=qy (z-1);have d:=qy (z-2);have a:2^(z-1)≤2^62:=Nat.pow_le_pow_right de om;have b:2^(z-2)≤2^62:=Nat.pow_le_pow_right de om;unfold tO;split<;>omega
theorem Cg {x hi lo s k:Nat} (hx:x<18446744073709551616) (hh:hi<18446744073709551616) (hs:s≤60) (hk:k*1152921504606846976≤mK x hi) (hk1:1≤k):k-1≤rF x hi lo s:=by
 have hu:=rG hx hh;have hp:2^s≤2^60:=Nat.pow_le_pow_right de hs;have h0:=qy s;have hq:k≤mK x hi/2^s:=(Nat.le_div_iff_mul_le h0).2 (Nat.le_trans (Nat.mul_le_mul_left k hp) hk);unfold rF;split
 · exact Nat.le_trans om Nat.left_le_or
 · refine Nat.le_trans ?_ Nat.left_le_or;have hb:=rD (decide (rE x hi<mK x lo));have hv:mK x hi-1≤jV x hi lo:=by unfold jV;omega
   refine (Nat.le_div_iff_mul_le h0).2 (Nat.le_trans ?_ hv);have:=Nat.mul_le_mul_right (2^s) hq;have:=Nat.div_mul_le_self (mK x hi) (2^s);have:(k-1)*2^s+2^s=k*2^s:=by rw[←Nat.succ_mul];congr 1;omega
   omega
theorem Ch {x hi lo s:Nat} (hx:x<18446744073709551616) (hh:hi<18446744073709551616) (hs:4≤s):rF x hi lo s<1152921504606846976:=by
 have hd:∀a,a<18446744073709551616→a/2^s<2^60:=fun a ha=>by
  refine Nat.lt_of_le_of_lt (Nat.div_le_div_left (Nat.pow_le_pow_right de hs) de) ((Nat.div_lt_iff_lt_mul (qy 4)).2 om)
 unfold rF;split
 · exact Vr (k:=60) (hd _ (rG hx hh)) de
 · exact Vr (k:=60) (hd _ (Nat.mod_lt _ de)) (Nat.lt_of_le_of_lt (rD _) de)
theorem Ci {x hi k:Nat} (hx:k*2305843009213693952≤x) (hh:9223372036854775808≤hi):k*1152921504606846976≤mK x hi:=by
 refine (Nat.le_div_iff_mul_le de).2 (Nat.le_trans (Nat.le_of_eq ?_) (Nat.mul_le_mul hx hh));rw[Nat.mul_assoc,Nat.mul_assoc]
theorem dP.u {m:Nat} {e x:Int} {z:Nat} (h:dP m e x z):1≤jZ m e x (tO m e z)∧jZ m e x (tO m e z)<1152921504606846976∧3≤jZ m e x m∧jZ m e x m<1152921504606846976∧1≤jZ m e x (m+2^(z-1))∧jZ m e x (m+2^(z-1))<1152921504606846976:=by
 obtain ⟨hj,_⟩:=h.j;obtain ⟨s0,s1,_⟩:=h.s;obtain ⟨n0,n1⟩:=h.n;obtain ⟨_,t1,_⟩:=rz hj;have t0:=Lh hj;have m0:=h.m0;have m1:=h.m1;have m2:=qy (z-1);have a:=Cg (lo:=AY (AZ m e x)) (s:=gK m e x) n1 t1 s1 (Ci (k:=2) om t0) om;have b:=Cg (x:=m) (lo:=AY (AZ m e x)) (s:=gK m e x) om t1 s1 (Ci (k:=4) om t0) om;have c:=Cg (lo:=AY (AZ m e x)) (s:=gK m e x) m1 t1 s1 (Ci (k:=4) om t0) om;exact ⟨a,Ch n1 t1 s0,b,Ch om t1 s0,by unfold jZ;omega,Ch m1 t1 s0⟩
theorem dP.d {m:Nat} {e x:Int} {z:Nat} (h:dP m e x z):1≤rM m e x z∧rM m e x z<1000000000000000000:=by
 obtain ⟨a0,a1,b0,b1,c0,c1⟩:=h.u;have o1:fG m z≤1:=zrv _;have o2:=zrv (jZ m e x m/2^2);unfold rM jX;have hA:1≤eG m e x z∧eG m e x z<300000000000000000:=by unfold eG;omega
 have hB:fH m e x z<300000000000000000:=by unfold fH;omega
 split
 · omega
 · split<;>omega
theorem dP.q {m:Nat} {e x:Int} {z:Nat} (h:dP m e x z):-400≤vK m e x z∧vK m e x z≤400:=by
 obtain ⟨a,b,_⟩:=h.nums;unfold vK;split<;>omega
def rO (l:List UInt8):Nat→Nat
 | 0=>0
 | n+1=>if l[n]? =some 48 then rO l n else n+1
theorem Cj (l:List UInt8):∀n,rO l n≤n
 | 0=>Nat.le_refl _
 | n+1=>by
  unfold rO;split
  · exact Nat.le_succ_of_le (Cj l n)
  · exact Nat.le_refl _
theorem ES {l:List UInt8} {c:UInt8} (h:l[0]? =some c) (hc:c≠48):∀n,1≤n→1≤rO l n
 | n+1,_=>by
  unfold rO;split
  · rename_i h1
    cases n with
    | zero=>rw[h] at h1;exact absurd (Option.some.inj h1) hc
    | succ n=>exact ES h hc (n+1) om
  · omega
theorem       Li (u : Nat) (hu : 1 ≤ u) : ∃ c, (Lib.decDigits u)[0]? = some c ∧ c ≠ 48 := by
  induction u using Nat.strongRecOn with
  | ind u ih =>
    rw [Lib.decDigits]
    split
    · rename_i h
      refine ⟨_, rfl, ?_⟩
      have key : ∀ k : Fin 10, 1 ≤ k.val → UInt8.ofNat (48 + k.val) ≠ 48 := by decide
      exact key ⟨u, h⟩ hu
    · rename_i h
      obtain ⟨c, h1, h2⟩ := ih (u / 10) (by omega) (by omega)
      refine ⟨c, ?_, h2⟩
      rw [List.getElem?_append_left (by rcases Nat.lt_or_ge 0 (Lib.decDigits (u / 10)).length with g | g; · exact g
                                        · rw [List.getElem?_eq_none g] at h1; cases h1)]
      exact h1
theorem yuq (u:Nat):∀c∈Lib.decDigits u,48≤c.toNat∧c.toNat≤57:=by
 induction u using Nat.strongRecOn with
 | ind u ih=>
  have key:∀k:Fin 10,48≤(UInt8.ofNat (48+k.val)).toNat∧(UInt8.ofNat (48+k.val)).toNat≤57:=de;rw[Lib.decDigits];split
  · rename_i h
    intro c hc;rw[List.mem_singleton] at hc;rw[hc];exact key ⟨u,h⟩
  · intro c hc;rcases List.mem_append.1 hc with hc | hc
    · exact ih (u/10) om c hc
    · rw[List.mem_singleton] at hc;rw[hc];exact key ⟨u%10,Nat.mod_lt _ de⟩
end Go.Proofs.YtdofcnodhgaedaaGreatDoor
namespace Go.Proofs.YtdofcnodhgaedaaGreatDoor
open Go.RowKit Proofs.Tryz
theorem j3 {P Q:Prop} (k:Q) (h:(Unit→Q)→P:=by
 intro zK;refine XW ?_;refine za rfl (gm rfl rfl (Yo hd2) (zo ?_));exact zK ()):P:=h fun _=>k
theorem vL {P Q:Prop} (k:Q) (h:(Unit→Q)→P:=by
 intro zK;refine za rfl (vq rfl rfl (wrap_u64 om) (zn ?_));refine za rfl (vq (z:=10) rfl rfl kr (za rfl (gl (z:=1024) rfl rfl de kr (oz ?_))));refine zq ?_;refine za rfl (va rfl rfl om (jp _ 11 om) ?_);exact zK ()):P:=h fun _=>k
theorem Vt {P:Prop} (h:P:=by
 refine (Nat.div_lt_iff_lt_mul (qy _)).2 ?_;have:2^1≤2^11:=Nat.pow_le_pow_right de om;omega):P:=h
theorem Vu {P:Prop} (h:P:=by
 have LW:=aB (No) w;have ak:=aP (No) w;have E:=aB (No) w;refine yu ?_;refine za rfl (vu rfl rfl (wrap_u64 om) (za rfl (va rfl rfl de (jp _ 2 de) (ya ?_))));exact gi):P:=h
theorem Vv {P:Prop} (h:P:=by
 refine yi 9 (.int .u64 ((m+2^(11-1):Nat):Int)) rfl ((by congr 1;try omega:(.int .u64 (((m:Nat):Int)+1024):Value)=_)) (yi 10 (.int .i64 ((fG m 11:Nat):Int)) rfl ((by rw[fG]:(.int .i64 ((m/2^11 &&& 1:Nat):Int):Value)=_)) ?_);exact yy () ⟨rfl,rfl,rfl,rfl,rfl,rfl,trivial⟩ ⟨M3.step E dA,trivial⟩):P:=h
theorem Yo {x:Nat} (hx:x<9223372036854775808):IntKind.i64.wrap (BitVec.ofInt IntKind.i64.bits (x:Int) &&& BitVec.ofInt IntKind.i64.bits 1).toNat=((x &&& 1:Nat):Int):=by
 show IntKind.i64.wrap (((BitVec.ofInt 64 (x:Int) &&& BitVec.ofInt 64 ((1:Nat):Int)).toNat:Nat):Int)=_
 rw[BitVec.toNat_and,gr x om,gr 1 de];have:x &&& 1≤x:=Nat.and_le_left;exact yj om
theorem Rf {u o:Nat} (h:u+o<18446744073709551616):IntKind.u64.wrap (((u:Nat):Int)+IntKind.u64.wrap ((o:Nat):Int))=((u+o:Nat):Int):=by
 rw[IntKind.wrap_u64,IntKind.wrap_u64];omega
theorem Rh {u o:Nat} (h:u<18446744073709551616) (ho:o≤u):IntKind.u64.wrap (((u:Nat):Int)+IntKind.u64.wrap (0-((o:Nat):Int)))=((u-o:Nat):Int):=by
 rw[IntKind.wrap_u64,IntKind.wrap_u64];omega
attribute [local irreducible] OW RS CW EW
section
variable (w:World)
theorem Ri (e:Int) (he:-10000≤e∧e≤10000):Calls prog 197 #[.int .i64 e] w fun en w'=>en= .returned (.int .i64 (Vs e))∧Below w.heap.size w w':=by
 refine zd func197 rfl ntmps197 rfl ?_;have LW:=aB (No) w;have ak:=aP (No) w;have E:=aB (No) w;refine yu ?_;refine zkq ?_;refine zx ?_;refine za rfl (va rfl rfl de (rH _ 21 de) ?_);exact GD
theorem ET (e:Int) (he:-10000≤e∧e≤10000):Calls prog 167 #[.int .i64 e] w fun en w'=>en= .returned (.int .i64 (l10 e))∧Below w.heap.size w w':=by
 refine zd func167 rfl ntmps167 rfl ?_;have LW:=aB (No) w;have ak:=aP (No) w;have E:=aB (No) w;refine yu ?_;refine zkq ?_;refine za rfl (va rfl rfl de (rH _ 18 de) ?_);exact GD
theorem Lj (u o:Nat) (h:u+o<18446744073709551616):Calls prog 201 #[.int .u64 ((u:Nat):Int),.int .i64 (((o:Nat):Int))] w fun en w'=>en= .returned (.int .u64 ((u+o:Nat):Int))∧Below w.heap.size w w':=by
 refine zd func201 rfl ntmps201 rfl ?_;have LW:=aB (No) w;have ak:=aP (No) w;have E:=aB (No) w;refine qu ?_;refine za rfl (jd underlying201 underlying3 rfl rfl (za rfl (vu rfl rfl (Rf h) ?_)));exact GD
theorem Ll (u o:Nat) (h:u<18446744073709551616) (ho:o≤u):Calls prog 201 #[.int .u64 ((u:Nat):Int),.int .i64 (0-((o:Nat):Int))] w fun en w'=>en= .returned (.int .u64 ((u-o:Nat):Int))∧Below w.heap.size w w':=by
 refine zd func201 rfl ntmps201 rfl ?_;have LW:=aB (No) w;have ak:=aP (No) w;have E:=aB (No) w;refine qu ?_;refine za rfl (jd underlying201 underlying3 rfl rfl (za rfl (vu rfl rfl (Rh h ho) ?_)));exact GD
theorem Lm (u:Nat) (hu:u<1152921504606846980):Calls prog 204 #[.int .u64 ((u:Nat):Int)] w (aD w (.int .u64 ((jX u:Nat):Int))):=by
 have h1:=zrv (u/2^2);have h2:u/2^2≤u:=Nat.div_le_self _ _;refine zd func204 rfl ntmps204 rfl ?_;have LW:=aB (No) w;have ak:=aP (No) w;have E:=aB (No) w;refine yu ?_;refine oz ?_;refine aN ?_;refine za rfl (va rfl rfl de (jp _ 2 de) (za rfl (gm rfl rfl (znv (n:=1) om de) (oz ?_))));refine za rfl (va rfl rfl de (jp _ 2 de) ?_);exact GD
theorem Rj (u:Nat) (h:u<1152921504606846980):Calls prog 202 #[.int .u64 ((u:Nat):Int)] w fun en w'=>en= .returned (.int .u64 (((u+3)/4:Nat):Int))∧Below w.heap.size w w':=by
 refine zd func202 rfl ntmps202 rfl ?_;exact Vu
theorem Lp (u:Nat) (h:u<1152921504606846980):Calls prog 203 #[.int .u64 ((u:Nat):Int)] w fun en w'=>en= .returned (.int .u64 ((u/4:Nat):Int))∧Below w.heap.size w w':=by
 refine zd func203 rfl ntmps203 rfl ?_;exact Vu
theorem Lr (m:Nat) (e x:Int) (z:Nat) (h:dP m e x z) (hT:bY w):Calls prog 182 #[.int .u64 ((m:Nat):Int),.int .i64 e] w fun en w'=>en= .returned (.tuple #[.int .u64 ((rM m e x z:Nat):Int),.int .i64 (vK m e x z)])∧Below w.heap.size w w':=by
 have h0:=h.m0;have h1:=h.m1;have h2:=h.z0;have h3:=h.z1;have h4:=h.e0;have h5:=h.x0;have h6:=h.x1;obtain ⟨p0,p1,_⟩:=h.nums;obtain ⟨j0,j1⟩:=h.j;obtain ⟨s0,s1,s2⟩:=h.s;obtain ⟨n0,n1⟩:=h.n;obtain ⟨u0,u1,u2,u3,u4,u5⟩:=h.u;have ho:fG m z≤1:=zrv _;obtain ⟨_,t1,t2⟩:=rz j0;have q0:=qy (z-1);have q1:2^(z-1)≤2^62:=Nat.pow_le_pow_right de om;refine zh func182 ntmps182 fun HF LW ak E=>?_;replace HF:=HF.and (Per.Yk hT (fun h=>h.elim));refine oe ?_;refine za rfl (jw (z:=64) rfl rfl kr (Vf ?_));refine aN ?_;refine za rfl (vq (z:=11) rfl rfl kr (ya ?_));replace HF:=HF.on E;replace LW:=LW.step E ak;replace E:=aB (No) w;refine vk (ι:=Bool) (fun u=>[(0,.int .u64 ((m:Nat):Int)),(1,.int .i64 e),(7,.int .i64 (-1085)),(11,.int .i64 11),(28,.bool u)]) (fun u w'=>Ext (No) w w'∧(u=jY m e)) ?_ ?_
 ·
  have M1:=aB (No) w;have fF:=aP (No) w;by_cases hm:m=9223372036854775808
  ·
   refine yf ?_;refine xv 24 rfl (by rw[hm];rfl) (ya ?_);exact yy (decide (-1085<e)) ⟨rfl,rfl,rfl,rfl,rfl,trivial⟩ ⟨M1.step E fF,by rw[jY];simp[hm]⟩
  ·
   refine yf ?_;refine gy 24 rfl (by rw[beq_eq_false_iff_ne.2 om]<;>rfl) (ya ?_);exact yy false ⟨rfl,rfl,rfl,rfl,rfl,trivial⟩ ⟨M1.step E fF,by rw[jY,decide_eq_false (fun h=>hm h.1)]⟩
 ·
  rintro u w2 ⟨M1,hu⟩;replace E:=E.trans M1;replace HF:=HF.on E;replace LW:=LW.step E ak;replace E:=aB (No) w2;replace HF:=HF.on E;replace LW:=LW.step E ak;replace E:=aB (No) w2;refine vk (ι:=Unit) (fun _=>[(0,.int .u64 ((m:Nat):Int)),(1,.int .i64 e),(5,.int .i64 (xo m e x)),(8,.int .u64 ((tO m e z:Nat):Int)),(9,.int .u64 ((m+2^(z-1):Nat):Int)),(10,.int .i64 ((fG m z:Nat):Int))]) (fun _ w'=>Ext (No) w2 w'∧(True)) ?_ ?_
  ·
   have M3:=aB (No) w2;have dA:=aP (No) w2;by_cases hk:u=true
   ·
    have hk2:jY m e=true:=hu▸hk;obtain rfl:z=11:=h.z2 (by have:=(of_decide_eq_true hk2).2;omega);have hP:xo m e x=0-Vs (e+11):=by rw[xo,if_pos hk2,show x=e+11 from om];omega
    have hN:tO m e 11=m-512:=by rw[tO,if_pos hk2]
    refine qk 28 rfl (by rw[hk]<;>rfl) (ya ?_);refine yc ?_;refine zb ad9 (Ri _ (e+11) om) E fun w5 E=>(js ?_);refine zn ?_;refine za rfl (vq (z:=9) rfl rfl kr (za rfl (gl (z:=512) rfl rfl de kr (vL ?_))));have hd:=Nat.div_le_self m (2^11);have hd2:m/2^11<9223372036854775808:=by
     exact Vt
    have hnn:0≤((m/2^11:Nat):Int):=Int.natCast_nonneg _;refine j3 ?_;refine yi 5 (.int .i64 (xo m e x)) rfl ((by rw[hP]:(.int .i64 (0-(Vs (e+11))):Value)=_)) (yi 8 (.int .u64 ((tO m e 11:Nat):Int)) rfl ((by congr 1;rw[hN];omega:(.int .u64 (((m:Nat):Int)-512):Value)=_)) ?_);exact Vv
   ·
    have hk2:jY m e=false:=by rw[←hu];exact Bool.eq_false_iff.2 hk
    have hP:xo m e x=0-l10 (e+(z:Int)):=by rw[xo,if_neg (by rw[hk2];decide),show x=e+(z:Int) from om];omega
    have hN:tO m e z=m-2^(z-1):=by rw[tO,if_neg (by rw[hk2];decide)]
    refine yn 28 rfl (by rw[Bool.eq_false_iff.2 hk]<;>rfl) (yu ?_);by_cases hz:-1085≤e
    ·
     obtain rfl:z=11:=h.z2 hz;replace hP:xo m e x=0-l10 (e+11):=hP;refine qk 51 rfl (by rw[decide_eq_true hz]<;>rfl) (ya ?_);refine yc ?_;refine zb U3 (ET _ (e+11) om) E fun w6 E=>(js ?_);refine zn ?_;refine za rfl (vq (z:=10) rfl rfl kr (za rfl (gl (z:=1024) rfl rfl de kr (vL ?_))));have hd:=Nat.div_le_self m (2^11);have hd2:m/2^11<9223372036854775808:=by
      exact Vt
     have hnn:0≤((m/2^11:Nat):Int):=Int.natCast_nonneg _;refine j3 ?_;refine yi 5 (.int .i64 (xo m e x)) rfl ((by rw[hP]:(.int .i64 (0-(l10 (e+11))):Value)=_)) (yi 8 (.int .u64 ((tO m e 11:Nat):Int)) rfl ((by congr 1;rw[hN];omega:(.int .u64 (((m:Nat):Int)-1024):Value)=_)) ?_);exact Vv
    ·
     have hx:=h.z3 om;refine yn 51 rfl (by rw[decide_eq_false hz]<;>rfl) (zq ?_);refine zx ?_;refine yc ?_;refine zn ?_;refine yc ?_;refine ze 79 (.int .i64 (e+(z:Int))) rfl (by congr 1;omega) (ze 11 (.int .i64 ((z:Nat):Int)) rfl (by congr 1;omega) (zb U3 (ET _ (e+(z:Int)) om) E fun w7 E=>(js ?_)));refine zn ?_;refine zx ?_;refine ze 84 (.int .i64 ((z-1:Nat):Int)) rfl (by congr 1;omega) (za rfl (gl rfl rfl om (Ye 1 (z-1) om) (ze 85 (.int .u64 ((2^(z-1):Nat):Int)) rfl (by congr 2;omega) (za rfl (vq rfl rfl (wrap_u64 om) (zn ?_))))));refine zx ?_;refine ze 89 (.int .i64 ((z-1:Nat):Int)) rfl (by congr 1;omega) (za rfl (gl rfl rfl om (Ye 1 (z-1) om) (ze 90 (.int .u64 ((2^(z-1):Nat):Int)) rfl (by congr 2;omega) (oz ?_))));refine zq ?_;refine za rfl (va rfl rfl om (jp _ z om) ?_);have hd:=Nat.div_le_self m (2^z);have hd2:m/2^z<9223372036854775808:=by
      refine (Nat.div_lt_iff_lt_mul (qy _)).2 ?_;have:2^1≤2^z:=Nat.pow_le_pow_right de om;omega
     have hnn:0≤((m/2^z:Nat):Int):=Int.natCast_nonneg _;refine j3 ?_;refine yi 5 (.int .i64 (xo m e x)) rfl ((by rw[hP]:(.int .i64 (0-(l10 (e+(z:Int)))):Value)=_)) (yi 8 (.int .u64 ((tO m e z:Nat):Int)) rfl ((by congr 1;rw[hN];omega:(.int .u64 (((m:Nat):Int)-((2^(z-1):Nat):Int)):Value)=_)) (yi 9 (.int .u64 ((m+2^(z-1):Nat):Int)) rfl ((by congr 1;try omega:(.int .u64 (((m:Nat):Int)+((2^(z-1):Nat):Int)):Value)=_)) (yi 10 (.int .i64 ((fG m z:Nat):Int)) rfl ((by rw[fG]:(.int .i64 ((m/2^z &&& 1:Nat):Int):Value)=_)) ?_)));exact yy () ⟨rfl,rfl,rfl,rfl,rfl,rfl,trivial⟩ ⟨M3.step E dA,trivial⟩
  ·
   rintro _ w4 ⟨M3,_⟩;replace E:=E.trans M3;replace HF:=HF.on E;replace LW:=LW.step E ak;replace E:=aB (No) w4;obtain ⟨P,hP⟩:∃P,P=xo m e x:=⟨_,rfl⟩;have hl:-2000≤Ce (xo m e x)∧Ce (xo m e x)≤2000:=by unfold Ce;omega
   refine zo ?_;refine km ab8 HF LW E ak fun bP w9 aZ vM HF E ak=>(zn ?_);refine vr adz (Ra _ (xo m e x) om) E aZ fun oD E aZ=>(ze 98 (.int .i64 (((AZ m e x:Nat):Int)-348)) rfl (by rw[j1]<;>rfl) (za rfl (zc adq rfl ((rJ _ bP _ _ _ _ _ (AZ m e x) (gK m e x) j0 aZ (HF.on E).here.2 (by have:=hT.lt;have:=LW.size;have:=vM;omega) om om om).mono ?_))));rintro e gX ⟨rfl,hB,hE⟩;refine ⟨_,rfl,?_⟩;replace aZ:=hB;clear hB;replace E:=E.step1 hE ah.head;clear hE;obtain ⟨HF,LW,ak,E⟩:=dL HF LW E ak (Y:=No) (ah.skip ah.aR) (Per.aQ aZ aj.nil);refine ya ?_;refine zb KG (yek _ bP (tO m e z) (Cc (AZ m e x)) (AY (AZ m e x)) (gK m e x) om t1 t2 om (HF.on E).here.2) E fun dW E=>(ze 103 (.int .u64 ((jZ m e x (tO m e z):Nat):Int)) rfl (by rw[jZ]<;>rfl) (aN ?_));refine zb U4 (Lj _ (jZ m e x (tO m e z)) (fG m z) om) E fun vN E=>(zb adx (Rj _ (jZ m e x (tO m e z)+fG m z) om) E fun fu E=>(ze 106 (.int .u64 ((eG m e x z:Nat):Int)) rfl (by rw[eG]<;>rfl) (zq ?_)));refine zb KG (yek _ bP (m+2^(z-1)) (Cc (AZ m e x)) (AY (AZ m e x)) (gK m e x) om t1 t2 om (HF.on E).here.2) E fun Ck E=>(ze 108 (.int .u64 ((jZ m e x (m+2^(z-1)):Nat):Int)) rfl (by rw[jZ]<;>rfl) (aN ?_));refine js ?_;refine zb U4 (Ll _ (jZ m e x (m+2^(z-1))) (fG m z) om om) E fun w16 E=>(zb adj (Lp _ (jZ m e x (m+2^(z-1))-fG m z) om) E fun mV E=>(ze 112 (.int .u64 ((fH m e x z:Nat):Int)) rfl (by rw[fH]<;>rfl) ?_));have hA:eG m e x z<300000000000000000:=by unfold eG;omega
   have hB:fH m e x z<300000000000000000:=by unfold fH;omega
   refine zn ?_;refine za rfl (Qg rfl rfl de (zjv (m:=fH m e x z/10) om) (zq ?_));refine za rfl (jw rfl rfl (wrap_u64 om) (yf ?_));refine zy 118 (.bool (decide (eG m e x z≤fH m e x z/10*10))) rfl (gq om) (zg rfl (fun h9=>?_) (fun h9=>?_))
   ·
    have h9:=of_decide_eq_true h9;refine yf ?_;refine zx ?_;refine js ?_;refine zq ?_;refine yi 5 (.int .i64 (1-xo m e x)) rfl ((by congr 1;omega:(.int .i64 (0-((xo m e x)-1)):Value)=_)) (aN ?_);exact ⟨by rw[rM,vK,if_pos h9,if_pos h9];rfl,aT LW E ak⟩
   ·
    have h9:=of_decide_eq_false h9;refine od ?_;refine zy 126 (.bool (decide (eG m e x z<fH m e x z))) rfl (gq om) ?_;replace HF:=HF.on E;replace LW:=LW.step E ak;replace E:=aB (No) mV;refine vk (ι:=Nat) (fun d=>[(4,.int .u64 ((d:Nat):Int)),(5,.int .i64 (xo m e x))]) (fun d w'=>Ext (No) mV w'∧(d=rM m e x z)) ?_ ?_
    ·
     have Ba:=aB (No) mV;have fI:=aP (No) mV;refine zg rfl (fun h8=>?_) (fun h8=>?_)
     ·
      have h8:=of_decide_eq_true h8;refine zo ?_;refine zb KG (yek _ bP (m) (Cc (AZ m e x)) (AY (AZ m e x)) (gK m e x) om t1 t2 om (HF.on E).here.2) E fun JX E=>(ze 128 (.int .u64 ((jZ m e x (m):Nat):Int)) rfl (by rw[jZ]<;>rfl) (zb ae0 (Lm _ (jZ m e x m) om) E fun w21 E=>(zo ?_)));exact yy (jX (jZ m e x m)) ⟨rfl,rfl,trivial⟩ ⟨Ba.step E fI,by rw[rM,if_neg h9,if_pos h8]⟩
     ·
      have h8:=of_decide_eq_false h8;refine aN ?_;exact yy (eG m e x z) ⟨rfl,rfl,trivial⟩ ⟨Ba.step E fI,by rw[rM,if_neg h9,if_neg h8]⟩
    ·
     rintro d EU ⟨Ba,hd⟩;replace E:=E.trans Ba;replace LW:=LW.step E ak;replace E:=aB (No) EU;refine yf ?_;refine js ?_;refine ya ?_;refine yi 5 (.int .i64 (-xo m e x)) rfl ((by congr 1;omega:(.int .i64 (0-(xo m e x)):Value)=_)) (aN ?_);exact ⟨by rw[hd,vK,if_neg h9];rfl,aT LW E ak⟩
end
end Go.Proofs.YtdofcnodhgaedaaGreatDoor
namespace Go.Proofs.YtdofcnodhgaedaaGreatDoor
open Go.RowKit Proofs.Tryz
def gY (u:Nat):List UInt8:=if u<10 then 48::Lib.decDigits u else Lib.decDigits u
def gL (p:Int):List UInt8:=(if p<0 then 45 else 43)::gY p.natAbs
def rP:Nat→List UInt8→Nat
 | n,[]=>n
 | n,c::l=>rP (n*10+(c.toNat-48)) l
theorem yqk (c:UInt8):∀(n:Nat) (l:List UInt8),rP n (l++ [c])=rP n l*10+(c.toNat-48)
 | _,[]=>rfl
 | _,_::l=>yqk c _ l
theorem EX (k:Nat) (h:k<10):(UInt8.ofNat (48+k)).toNat-48=k:=by
 have key:∀k:Fin 10,(UInt8.ofNat (48+k.val)).toNat-48=k.val:=de;exact key ⟨k,h⟩
theorem vO (u:Nat):rP 0 (Lib.decDigits u)=u:=by
 induction u using Nat.strongRecOn with
 | ind u ih=>
  rw[Lib.decDigits];split
  · rename_i h
    show 0*10+((UInt8.ofNat (48+u)).toNat-48)=u
    rw[EX u h];omega
  · rw[yqk,ih (u/10) om,EX _ (Nat.mod_lt _ de)];omega
theorem Ls (u:Nat):rP 0 (gY u)=u:=by
 unfold gY;split
 · exact vO u
 · exact vO u
theorem Cm (u:Nat):∀c∈gY u,48≤c.toNat∧c.toNat≤57:=by
 intro c hc;unfold gY at hc;split at hc
 · rcases List.mem_cons.1 hc with e | hc
   · rw[e];decide
   · exact yuq u c hc
 · exact yuq u c hc
theorem qcz {u:Nat} (h:u<10):Lib.decDigits u= [UInt8.ofNat (48+u)]:=by rw[Lib.decDigits,dif_pos h]
theorem j4 {u:Nat} (h:u<10):gY u= [48,UInt8.ofNat (48+u)]:=by rw[gY,if_pos h,qcz h]
theorem vP {u:Nat} (h:¬u<10) (h2:u<100):gY u= [UInt8.ofNat (48+u/10),UInt8.ofNat (48+u%10)]:=by
 rw[gY,if_neg h,Lib.decDigits,dif_neg h,qcz om];rfl
theorem j5 {u:Nat} (h:¬u<100) (h2:u<1000):gY u= [UInt8.ofNat (48+u/100),UInt8.ofNat (48+u/10%10),UInt8.ofNat (48+u%10)]:=by
 rw[gY,if_neg om,Lib.decDigits,dif_neg om,Lib.decDigits,dif_neg om,qcz om,Nat.div_div_eq_div_mul];rfl
theorem j6 {u:Nat} (h:u<1000):(gY u).length=2∨(gY u).length=3:=by
 by_cases h1:u<10
 · rw[j4 h1];exact Or.inl rfl
 · by_cases h2:u<100
   · rw[vP h1 h2];exact Or.inl rfl
   · rw[j5 h2 h];exact Or.inr rfl
def EY (D:List UInt8):Prop:=1≤D.length∧ ∀c∈D,48≤c.toNat∧c.toNat≤57
def vp (n:Bool):List UInt8:=if n then [45] else []
def gg (D:List UInt8):List UInt8:=D.take 1++(if 1<D.length then 46::D.drop 1 else [])
def ot (D:List UInt8) (dp:Int):List UInt8:=gg D++101::gL (dp-1)
def xp (D:List UInt8) (dp:Int):List UInt8:=
 (if 0<dp then D.take dp.toNat++List.replicate (dp.toNat-D.length) 48 else [48])++(if dp<(D.length:Int) then 46::(List.replicate (-dp).toNat 48++D.drop dp.toNat) else [])
def Bb (D:List UInt8) (dp:Int):List UInt8:=
 if dp-1< -4∨15<dp-1 then ot D dp else if dp<(D.length:Int) then xp D dp else xp D dp++ [46,48]
theorem Lu {D:List UInt8} (h:EY D) {x:UInt8} (hx:x=101):x∉gg D:=by
 subst hx;unfold gg;intro hm;rcases List.mem_append.1 hm with hm | hm
 · have:=h.2 _ (List.mem_of_mem_take hm);exact absurd this.2 de
 · split at hm
   · rcases List.mem_cons.1 hm with e | hm
     · exact absurd e de
     · have:=h.2 _ (List.mem_of_mem_drop hm);exact absurd this.2 de
   · cases hm
theorem Lv {D:List UInt8} {dp:Int} (h:dp<(D.length:Int)):(46:UInt8)∈xp D dp:=by
 unfold xp;rw[if_pos h];exact List.mem_append_right _ (List.mem_cons_self ..)
theorem Rk {D:List UInt8} (hD:EY D) {dp:Int} (h:¬dp<(D.length:Int)):(46:UInt8)∉xp D dp:=by
 unfold xp;rw[if_neg h,List.append_nil];split
 · intro hm;rcases List.mem_append.1 hm with hm | hm
   · have:=hD.2 _ (List.mem_of_mem_take hm);exact absurd this.1 de
   · exact absurd (List.eq_of_mem_replicate hm) de
 · decide
def jf (b:Nat):Nat:=b/4503599627370496%2048
def vv (b:Nat):Nat:=if jf b=0 then b%4503599627370496 else b%4503599627370496+4503599627370496
def fX (b:Nat):Int:=(if jf b=0 then 1 else (jf b:Int))-1075
def fZ (b:Nat):Nat:=64-gz (vv b)
def fM (b:Nat):Nat:=vv b*2^fZ b
theorem kC {b:Nat} (h:vv b≠0):1≤gz (vv b)∧gz (vv b)≤53∧(jf b≠0→gz (vv b)=53):=by
 have h1:vv b<2^53:=by unfold vv;split<;>omega
 have h2:=ER h1;have h3:1≤gz (vv b):=by unfold gz;rw[if_neg h];omega
 refine ⟨h3,h2,fun he=>?_⟩;have h4:2^52≤vv b:=by unfold vv;rw[if_neg he];omega
 have h5:¬(vv b).log2<52:=fun hl=>by have:=(Nat.log2_lt h).1 hl;omega
 unfold gz at h2 ⊢;rw[if_neg h] at h2 ⊢;omega
theorem rQ {x:Nat} (h:x≠0) (hl:gz x≤64):9223372036854775808≤x*2^(64-gz x)∧x*2^(64-gz x)+2^(64-gz x)≤18446744073709551616:=by
 unfold gz at hl ⊢;rw[if_neg h] at hl ⊢;have h1:=Nat.log2_self_le h;have h2:=@Nat.lt_log2_self x;have e1:2^x.log2*2^(64-(x.log2+1))=9223372036854775808:=by rw[←Nat.pow_add,show x.log2+(64-(x.log2+1))=63 from om]
 have e2:2^(x.log2+1)*2^(64-(x.log2+1))=18446744073709551616:=by rw[←Nat.pow_add,show x.log2+1+(64-(x.log2+1))=64 from om]
 have a:=Nat.mul_le_mul_right (2^(64-(x.log2+1))) h1;have b:=Nat.mul_le_mul_right (2^(64-(x.log2+1))) (show x+1≤2^(x.log2+1) from om);rw[Nat.add_mul,Nat.one_mul] at b;omega
theorem Cn {b:Nat} (h:vv b≠0) (h2:jf b≠2047):dP (fM b) (fX b-(fZ b:Int)) (fX b) (fZ b):=by
 obtain ⟨l1,l2,l3⟩:=kC h;obtain ⟨m1,m2⟩:=rQ h om;have hz:fZ b=64-gz (vv b):=rfl;have he:jf b<2048:=Nat.mod_lt _ de;have hx:fX b=(if jf b=0 then 1 else (jf b:Int))-1075:=rfl;have hp:2^(fZ b-1)<2^fZ b:=Nat.pow_lt_pow_right de om;refine ⟨m1,?_,om,om,om,?_,?_,?_,?_⟩
 · show vv b*2^fZ b+_<_
   rw[←hz] at m2;omega
 · rw[hx];split<;>omega
 · rw[hx];split<;>omega
 · intro h3;by_cases h0:jf b=0
   · rw[hx,if_pos h0] at h3;omega
   · have:=l3 h0;omega
 · intro h3;by_cases h0:jf b=0
   · rw[hx,if_pos h0];rfl
   · have:=l3 h0;rw[hx,if_neg h0] at h3;omega
def ki (b:Nat):Nat:=rM (fM b) (fX b-(fZ b:Int)) (fX b) (fZ b)
def fQ (b:Nat):Int:=vK (fM b) (fX b-(fZ b:Int)) (fX b) (fZ b)
def vj (b:Nat):List UInt8:=(Lib.decDigits (ki b)).take (rO (Lib.decDigits (ki b)) (Lib.decDigits (ki b)).length)
def dx (b:Nat):Int:=((Lib.decDigits (ki b)).length:Int)+fQ b
theorem Lx (u:Nat):1≤(Lib.decDigits u).length:=by
 rw[Lib.decDigits];split
 · exact Nat.le_refl _
 · rw[List.length_append];exact Nat.le_add_left _ _
theorem EZ (u k:Nat) (hk:1≤k) (h:u<10^k):(Lib.decDigits u).length≤k:=by
 induction k generalizing u with
 | zero=>omega
 | succ k ih=>
  rw[Lib.decDigits];split
  · exact hk
  · rename_i h1
    rw[List.length_append];cases k with
    | zero=>omega
    | succ k=>
     have:=ih (u/10) om (by rw[Nat.pow_succ] at h;omega);show _+1≤_
     omega
structure FD (D:List UInt8) (dp:Int):Prop where
 aI:EY D
 len:D.length≤18
 lo:-400≤dp
 hi:dp≤420
theorem xc {b:Nat} (h:vv b≠0) (h2:jf b≠2047):FD (vj b) (dx b)∧1≤ki b∧ki b<1000000000000000000:=by
 have hI:=Cn h h2;obtain ⟨d0,d1⟩:=hI.d;obtain ⟨q0,q1⟩:=hI.q;have n0:=Lx (ki b);have n1:=EZ (ki b) 18 de d1;obtain ⟨c,hc,hc2⟩:=Li (ki b) d0;have s0:=ES hc hc2 _ n0;have s1:=Cj (Lib.decDigits (ki b)) (Lib.decDigits (ki b)).length;have hq:fQ b=vK (fM b) (fX b-(fZ b:Int)) (fX b) (fZ b):=rfl;have hl:(vj b).length=rO (Lib.decDigits (ki b)) (Lib.decDigits (ki b)).length:=by
  unfold vj;rw[List.length_take];omega
 have hdp:dx b=((Lib.decDigits (ki b)).length:Int)+fQ b:=rfl;refine ⟨⟨⟨om,fun c hc=>yuq (ki b) c (List.mem_of_mem_take hc)⟩,om,om,om⟩,d0,d1⟩
def LA (b:Nat):List UInt8:=vp (decide (9223372036854775808≤b))++(if vv b=0 then [48,46,48] else Bb (vj b) (dx b))
section
attribute [local irreducible] OW RS CW EW
theorem Ai {P Q:Prop} (k:Q) (h:(Unit→Q)→P:=by
 intro zK;refine qu ?_;refine zx ?_;refine yf ?_;refine zy 4 (.int .i64 (((aC i).length:Int)-1-((0:Nat):Int))) rfl (by simp) ?_;exact zK ()):P:=h fun _=>k
theorem kQ {P Q:Prop} (k:Q) (h:(Unit→Q)→P:=by
 intro zK;refine za rfl (zv (cs:=#[.int .u8 45]) u46 dw mI de rfl (by rw[ym];rfl) ?_);exact zK ()):P:=h fun _=>k
theorem Aj {P Q:Prop} (k:Q) (h:(Unit→Q)→P:=by
 intro zK;refine za rfl (qe (news:=[.int .u8 (48+(nth (aC i) ((aC i).length-1-k)))]) u46 iV rfl de rfl Ob rfl (qq (HF.on E).here.2 ((HF.on E).here.2).lt rfl) (by simp[Value.oneCell']) (by unfold maxLen;omega) om (by exact Nat.le_trans LW.size E.size) ?_);exact zK ()):P:=h fun _=>k
theorem Ak {P Q:Prop} (k:Q) (h:(Unit→Q)→P:=by
 intro zK;refine za rfl (jm underlying5 rfl rfl (WA ((aC i).length-1-k) om) (za rfl (vu rfl rfl (UC om) (za rfl (zv (cs:=#[.int .u8 (48+(nth (aC i) ((aC i).length-1-k)))]) u46 dw mI de rfl (by rw[ym];rfl) ?_)))));exact zK ()):P:=h fun _=>k
theorem Al {P Q:Prop} (k:Q) (h:(Unit→Q)→P:=by
 intro zK;refine zq ?_;refine zx ?_;refine zo ?_;refine yi 4 (.int .i64 (((aC i).length:Int)-1-((k+1:Nat):Int))) rfl ((by rw[show ((aC i).length:Int)-1-(k:Int)-1=((aC i).length:Int)-1-((k+1:Nat):Int) from om]:(.int .i64 ((((aC i).length:Int)-1-(k:Int))-1):Value)=_)) ?_;exact zK ()):P:=h fun _=>k
theorem WI {P:Prop} (h:P:=by
 refine yu ?_;have e:Lib.itoa 0= [48]:=by rw[Lib.itoa,if_neg de,Lib.decDigits];rfl
 refine aN ?_;exact ⟨by rw[h0,e];rfl,aT LW E ak⟩):P:=h
theorem Me {P:Prop} (h:P:=by
 have e:(([]):List Value)++([.int .u8 45]:List Value)= [.int .u8 45]:=rfl;rw[←e];exact On):P:=h
def DU (ds:List Nat) (k:Nat):List Value:=(List.range k).map fun j=>.int .u8 (48+nth ds (ds.length-1-j))
theorem l8 (ds:List Nat) (k:Nat):DU ds k++ [.int .u8 (48+nth ds (ds.length-1-k))]=DU ds (k+1):=by simp[DU,List.range_succ]
theorem yyk (i:Int) (k:Nat):0≤nth (aC i) k∧nth (aC i) k≤9:=by rw[kY];omega
theorem l9 {n:Nat} (hn:n≠0):(aI 10 n).length=Lib.nDigits n:=by
 induction n using ynk (b:=10) de with
 | h0=>exact absurd rfl hn
 | hs n h0 ih=>
  rw[ga de h0];by_cases h:n<10
  · rw[Nat.div_eq_of_lt h,Lib.nDigits_small h];rfl
  · rw[Lib.nDigits_big h,List.length_cons,ih om]
theorem Gd {i:Int} (h:i≠0):(aC i).length=Lib.nDigits i.natAbs:=by rw[xd];exact l9 om
theorem pG {i:Int} (h:i≠0):DU (aC i) (aC i).length=(Lib.decDigits i.natAbs).map fun b=>.int .u8 (b.toNat:Int):=by
 have hl:(aC i).length=Lib.nDigits i.natAbs:=by rw[xd];exact l9 om
 rw[Lib.decDigits_eq,DU,hl,List.map_map];apply List.map_congr_left
 intro j _;simp only[Function.comp_apply,kY,Lib.dg]
 have h9:i.natAbs/10^(Lib.nDigits i.natAbs-1-j)%10<10:=Nat.mod_lt _ de;generalize i.natAbs/10^(Lib.nDigits i.natAbs-1-j)%10=u at h9 ⊢
 have e:(UInt8.ofNat (48+u)).toNat=48+u:=by simp;omega
 rw[e];simp
section
variable (i:Int) (A:Option Addr) (c:Nat) (w:World) (hi:i.natAbs<au^30) (hx:aL w A (aC i))
include hi hx
theorem DV (h0:i=0):Calls prog 44 #[.agg #[.bool (decide (i<0)),.slice A (aC i).length c]] w (aD w (.string ⟨(Lib.itoa i).toArray⟩)):=by
 have _:=And.intro hi hx;have hl:((aC i).length:Int)=0:=by rw[h0,oK];rfl
 refine zh func44 ntmps44 fun HF LW ak E=>?_;refine zo ?_;refine zl HF LW E ak fun aK w2 HF LW E=>?_;refine vc ?_;refine qk 8 rfl (by rw[hl];rfl) ?_;exact WI
theorem Jr (hn:i<0):Calls prog 44 #[.agg #[.bool (decide (i<0)),.slice A (aC i).length c]] w (aD w (.string ⟨(Lib.itoa i).toArray⟩)):=by
 have h0:i≠0:=om;have hit:Lib.itoa i=45::Lib.decDigits i.natAbs:=by rw[Lib.itoa,if_pos hn]
 have hl:((aC i).length:Int)≠0:=by have:=Wd (j:=i) om;omega
 have hl2:=zux hi;have hdi:decide (i<0)=true:=decide_eq_true hn;obtain ⟨bx,ox,rfl,hbx,hcx⟩:=hx.2 (Wd om);refine zh func44 ntmps44 fun HF LW ak E=>?_;replace HF:=HF.and (Per.Di hx);refine zo ?_;refine zl HF LW E ak fun aK w2 HF LW E=>?_;refine vc ?_;refine yn 8 rfl (by rw[beq_eq_false_iff_ne.2 hl]<;>rfl) (oe ?_);refine qk 10 rfl (by rw[hdi]<;>rfl) ?_;have Ob:World.ownsRow w2 w.heap.size 5 1 (.slice none 0 0) 0 ([]):=ykq;replace HF:=HF.cons (ytq);replace E:=E.cons ((Value.slice none 0 0).ownBlock);replace ak:=ah.grow ak (fun k e=>Or.inr (Nat.le_trans LW.size ((ytq) k e)));refine yl ?_;refine kQ ?_;intro rT w4 Bb3 Eb3 Fa;have WJ:Apart (some rT) ((Value.slice none 0 0).ownBlock):=Apart.of_lt (zr Ob) Fa;have awx:=WJ.symm;have Fa:_≤rT:=Nat.le_trans E.size Fa;have ar4:=Nat.le_trans LW.size Fa;replace Ob:=zk Ob Eb3 aj.nil;replace E:=E.trans Eb3.no;replace HF:=HF.cons (zf Fa);replace E:=E.cons (some rT);replace ak:=ah.grow ak (fun k e=>Or.inr (Nat.le_trans LW.size ((zf Fa) k e)));obtain ⟨HF,LW,ak,E⟩:=dL HF LW E ak (Y:=ah [((Value.slice none 0 0).ownBlock)]) (ah.skip (ah.keep ah.aR)) (Per.aQ Bb3 (aj.cons WJ aj.nil));refine za rfl (qe (news:=[.int .u8 45]) u46 iV rfl de rfl Ob rfl (qq (HF.on E).here.2 ((HF.on E).here.2).lt rfl) (by simp[Value.oneCell']) (by unfold maxLen;omega) om (by exact Nat.le_trans LW.size E.size) ?_);intro v0 w5 On En KN;obtain ⟨A0,c0,rfl⟩:=zp On;replace KN:∀q9,((Value.slice A0 1 c0).ownBlock)=some q9→((Value.slice none 0 0).ownBlock)=some q9∨w4.heap.size≤q9:=KN;have HY:bL (ah [((Value.slice A0 1 c0).ownBlock)]) (ah [((Value.slice none 0 0).ownBlock)]) w4:=(ah.grow ah.none_ (fun k e=>(KN k e).elim (fun e=>Or.inl (ah.head k e)) (fun h=>Or.inr (Nat.le_trans E.size h))));replace E:=E.step1 En ah.head;replace HF:=HF.turn E HY;have XT:=fun q9 (h:(ah [((Value.slice A0 1 c0).ownBlock)]) q9)=>(HY q9 h).elim (ak q9) (fun h=>Or.inr (Nat.le_trans LW.size h));replace LW:=LW.step E ak;replace ak:=XT;replace E:=aB (ah [((Value.slice A0 1 c0).ownBlock)]) w5;clear HY;replace Ob:World.ownsRow w5 w.heap.size 5 1 (.slice A0 1 c0) 1 ([.int .u8 45]):=by
  exact Me
 clear On KN En;refine Ai ?_;replace HF:=HF.on E;replace LW:=LW.step E ak;replace E:=aB (ah [((Value.slice A0 1 c0).ownBlock)]) w5;refine qt (ι:=Nat×Option Addr×Nat) (fun (k,A1,c1)=>[(1,.pointer (some ⟨aK,0,none⟩)),(3,.slice A1 (1+k) c1),(4,.int .i64 (((aC i).length:Int)-1-(k:Int)))]) (fun (k,A1,c1) w'=>Ext (ah [((Value.slice A0 1 c0).ownBlock)]) w5 w'∧World.ownsRow w' w.heap.size 5 1 (.slice A1 (1+k) c1) (1+k) ([.int .u8 45]++DU (aC i) k)∧(∀q9,((Value.slice A1 (1+k) c1).ownBlock)=some q9→((Value.slice A0 1 c0).ownBlock)=some q9∨w5.heap.size≤q9)∧(k≤(aC i).length)) (fun (k,A1,c1)=>(aC i).length-k) (0,A0,c0) ⟨rfl,rfl,rfl,trivial⟩ ⟨Ext.refl _ _,(by exact Ob),(fun _ e=>Or.inl e),Nat.zero_le _⟩ ?_;have LTb:=(zr Ob);clear Ob;rintro ⟨k,A1,c1⟩ w7 ⟨M6,Ob,SY,hk⟩;have bM:bL (ah [((Value.slice A1 (1+k) c1).ownBlock)]) (ah [((Value.slice A0 1 c0).ownBlock)]) w5:=(ah.grow ah.none_ (fun k e=>(SY k e).elim (fun e=>Or.inl (ah.head k e)) Or.inr));replace E:=E.trans M6;replace HF:=HF.turn E bM;have fJ:=LW.size;have XT:=fun q9 (h:(ah [((Value.slice A1 (1+k) c1).ownBlock)]) q9)=>(bM q9 h).elim (ak q9) (fun h=>Or.inr (Nat.le_trans LW.size h));replace LW:=LW.step E ak;replace ak:=XT;clear fJ;replace E:=aB (ah [((Value.slice A1 (1+k) c1).ownBlock)]) w7;clear LTb;refine zn ?_;refine zg rfl (fun q=>?_) (fun q=>?_)
 ·
  have q:=of_decide_eq_true q;refine qu ?_;refine lX ?_;have hin:=yyk i ((aC i).length-1-k);obtain ⟨b9,o9,P9,_,WA⟩:=((HF.on E).here.1.1.2).2 (Wd h0);obtain ⟨rfl,rfl⟩:b9=bx∧o9=ox:=by simpa using P9.symm
  refine Ak ?_;intro bP w9 aZ zJ vM;have WK:Apart (some bP) ((Value.slice A1 (1+k) c1).ownBlock):=Apart.of_lt (zr Ob) vM;have awj:=WK.symm;have vM:_≤bP:=Nat.le_trans E.size vM;have az9:=Nat.le_trans LW.size vM;replace Ob:=zk Ob zJ aj.nil;replace E:=E.trans zJ.no;replace HF:=HF.cons (zf vM);replace E:=E.cons (some bP);replace ak:=ah.grow ak (fun k e=>Or.inr (Nat.le_trans LW.size ((zf vM) k e)));replace bM:=ah.grow bM (fun k e=>Or.inr (Nat.le_trans M6.size ((zf vM) k e)));replace HF:=HF.on E;replace LW:=LW.step E ak;replace M6:=M6.step E bM;have SB:∀q9,ah [((Value.slice A1 (1+k) c1).ownBlock)] q9→ah [(some bP),((Value.slice A1 (1+k) c1).ownBlock)] q9:=(ah.skip (ah.keep ah.aR));replace HF:=HF.less SB;replace ak:=fun k h=>ak k (SB k h);replace bM:=fun k h=>bM k (SB k h);clear SB;replace E:=aB (ah [((Value.slice A1 (1+k) c1).ownBlock)]) w9;replace HF:=HF.and (Per.aQ aZ (aj.cons WK aj.nil));refine Aj ?_;intro v0 oD On En KN;obtain ⟨A2,c2,rfl⟩:=zp On;replace KN:∀q9,((Value.slice A2 (1+(k+1)) c2).ownBlock)=some q9→((Value.slice A1 (1+k) c1).ownBlock)=some q9∨w9.heap.size≤q9:=KN;have HY:bL (ah [((Value.slice A2 (1+(k+1)) c2).ownBlock)]) (ah [((Value.slice A1 (1+k) c1).ownBlock)]) w9:=(ah.grow ah.none_ (fun k e=>(KN k e).elim (fun e=>Or.inl (ah.head k e)) (fun h=>Or.inr (Nat.le_trans E.size h))));replace SY:∀q9,((Value.slice A2 (1+(k+1)) c2).ownBlock)=some q9→((Value.slice A0 1 c0).ownBlock)=some q9∨w5.heap.size≤q9:=fun k e=>(KN k e).elim (SY k) (fun h=>Or.inr (Nat.le_trans M6.size (Nat.le_trans E.size h)));replace E:=E.step1 En ah.head;have XT:=fun q9 (h:(ah [((Value.slice A2 (1+(k+1)) c2).ownBlock)]) q9)=>(HY q9 h).elim (ak q9) (fun h=>Or.inr (Nat.le_trans LW.size h));have XT:=fun q9 (h:(ah [((Value.slice A2 (1+(k+1)) c2).ownBlock)]) q9)=>(HY q9 h).elim (bM q9) (fun h=>Or.inr (Nat.le_trans M6.size h));replace M6:=M6.step E bM;replace bM:=XT;replace E:=aB (ah [((Value.slice A2 (1+(k+1)) c2).ownBlock)]) oD;clear HY;replace Ob:World.ownsRow oD w.heap.size 5 1 (.slice A2 (1+(k+1)) c2) (1+(k+1)) ([.int .u8 45]++DU (aC i) (k+1)):=by
   have e:(([.int .u8 45]++DU (aC i) k):List Value)++([.int .u8 (48+(nth (aC i) ((aC i).length-1-k)))]:List Value)= [.int .u8 45]++DU (aC i) (k+1):=by rw[List.append_assoc,l8]
   rw[←e];exact On
  clear On KN En;refine Al ?_;exact yk (k+1,A2,c2) (by show (aC i).length-(k+1)<(aC i).length-k;omega) ⟨rfl,rfl,rfl,trivial⟩ ⟨M6.step E bM,(by exact Ob),SY,(by omega:k+1≤(aC i).length)⟩
 ·
  have q:=of_decide_eq_false q;obtain rfl:k=(aC i).length:=om;have hl9:(45::Lib.decDigits i.natAbs:List UInt8).length=1+(aC i).length:=by simp[Lib.decDigits_length,Gd h0];try omega
  have hxs:[.int .u8 45]++DU (aC i) (aC i).length=(45::Lib.decDigits i.natAbs:List UInt8).map fun b=>.int .u8 (b.toNat:Int):=by rw[pG h0];rfl
  refine yu ?_;refine za rfl (kg (l:=45::Lib.decDigits i.natAbs) u46 underlying5 u9 (congrArg some (congrArg (fun n↦Value.slice A1 n c1) hl9.symm)) (zdz Ob hxs) (ya ?_));exact ⟨by rw[hit];rfl,aT LW E ak⟩
theorem Js (hn:0<i):Calls prog 44 #[.agg #[.bool (decide (i<0)),.slice A (aC i).length c]] w (aD w (.string ⟨(Lib.itoa i).toArray⟩)):=by
 have h0:i≠0:=om;have hit:Lib.itoa i=Lib.decDigits i.natAbs:=by rw[Lib.itoa,if_neg om,show i.toNat=i.natAbs from om]
 have hl:((aC i).length:Int)≠0:=by have:=Wd (j:=i) om;omega
 have hl2:=zux hi;have hdi:decide (i<0)=false:=decide_eq_false om;obtain ⟨bx,ox,rfl,hbx,hcx⟩:=hx.2 (Wd om);refine zh func44 ntmps44 fun HF LW ak E=>?_;replace HF:=HF.and (Per.Di hx);refine zo ?_;refine zl HF LW E ak fun aK w2 HF LW E=>?_;refine vc ?_;refine yn 8 rfl (by rw[beq_eq_false_iff_ne.2 hl]<;>rfl) (oe ?_);refine yn 10 rfl (by rw[hdi]<;>rfl) ?_;have Ob:World.ownsRow w2 w.heap.size 5 1 (.slice none 0 0) 0 ([]):=ykq;replace HF:=HF.cons (ytq);replace E:=E.cons ((Value.slice none 0 0).ownBlock);replace ak:=ah.grow ak (fun k e=>Or.inr (Nat.le_trans LW.size ((ytq) k e)));refine Ai ?_;replace HF:=HF.on E;replace LW:=LW.step E ak;replace E:=aB (ah [((Value.slice none 0 0).ownBlock)]) w2;refine qt (ι:=Nat×Option Addr×Nat) (fun (k,A1,c1)=>[(1,.pointer (some ⟨aK,0,none⟩)),(3,.slice A1 (0+k) c1),(4,.int .i64 (((aC i).length:Int)-1-(k:Int)))]) (fun (k,A1,c1) w'=>Ext (ah [((Value.slice none 0 0).ownBlock)]) w2 w'∧World.ownsRow w' w.heap.size 5 1 (.slice A1 (0+k) c1) (0+k) ([]++DU (aC i) k)∧(∀q9,((Value.slice A1 (0+k) c1).ownBlock)=some q9→((Value.slice none 0 0).ownBlock)=some q9∨w2.heap.size≤q9)∧(k≤(aC i).length)) (fun (k,A1,c1)=>(aC i).length-k) (0,none,0) ⟨rfl,rfl,rfl,trivial⟩ ⟨Ext.refl _ _,(by exact Ob),(fun _ e=>Or.inl e),Nat.zero_le _⟩ ?_;have LTb:=(zr Ob);clear Ob;rintro ⟨k,A1,c1⟩ w4 ⟨M3,Ob,Ta,hk⟩;have dA:bL (ah [((Value.slice A1 (0+k) c1).ownBlock)]) (ah [((Value.slice none 0 0).ownBlock)]) w2:=(ah.grow ah.none_ (fun k e=>(Ta k e).elim (fun e=>Or.inl (ah.head k e)) Or.inr));replace E:=E.trans M3;replace HF:=HF.turn E dA;have fJ:=LW.size;have XT:=fun q9 (h:(ah [((Value.slice A1 (0+k) c1).ownBlock)]) q9)=>(dA q9 h).elim (ak q9) (fun h=>Or.inr (Nat.le_trans LW.size h));replace LW:=LW.step E ak;replace ak:=XT;clear fJ;replace E:=aB (ah [((Value.slice A1 (0+k) c1).ownBlock)]) w4;clear LTb;refine zn ?_;refine zg rfl (fun q=>?_) (fun q=>?_)
 ·
  have q:=of_decide_eq_true q;refine qu ?_;refine lX ?_;have hin:=yyk i ((aC i).length-1-k);obtain ⟨b9,o9,P9,_,WA⟩:=((HF.on E).here.1.2).2 (Wd h0);obtain ⟨rfl,rfl⟩:b9=bx∧o9=ox:=by simpa using P9.symm
  refine Ak ?_;intro bC w6 aS dU cB;have WL:Apart (some bC) ((Value.slice A1 (0+k) c1).ownBlock):=Apart.of_lt (zr Ob) cB;have ax0:=WL.symm;have cB:_≤bC:=Nat.le_trans E.size cB;have Rt:=Nat.le_trans LW.size cB;replace Ob:=zk Ob dU aj.nil;replace E:=E.trans dU.no;replace HF:=HF.cons (zf cB);replace E:=E.cons (some bC);replace ak:=ah.grow ak (fun k e=>Or.inr (Nat.le_trans LW.size ((zf cB) k e)));replace dA:=ah.grow dA (fun k e=>Or.inr (Nat.le_trans M3.size ((zf cB) k e)));replace HF:=HF.on E;replace LW:=LW.step E ak;replace M3:=M3.step E dA;have SB:∀q9,ah [((Value.slice A1 (0+k) c1).ownBlock)] q9→ah [(some bC),((Value.slice A1 (0+k) c1).ownBlock)] q9:=(ah.skip (ah.keep ah.aR));replace HF:=HF.less SB;replace ak:=fun k h=>ak k (SB k h);replace dA:=fun k h=>dA k (SB k h);clear SB;replace E:=aB (ah [((Value.slice A1 (0+k) c1).ownBlock)]) w6;replace HF:=HF.and (Per.aQ aS (aj.cons WL aj.nil));refine Aj ?_;intro v0 w7 On En KN;obtain ⟨A2,c2,rfl⟩:=zp On;replace KN:∀q9,((Value.slice A2 (0+(k+1)) c2).ownBlock)=some q9→((Value.slice A1 (0+k) c1).ownBlock)=some q9∨w6.heap.size≤q9:=KN;have HY:bL (ah [((Value.slice A2 (0+(k+1)) c2).ownBlock)]) (ah [((Value.slice A1 (0+k) c1).ownBlock)]) w6:=(ah.grow ah.none_ (fun k e=>(KN k e).elim (fun e=>Or.inl (ah.head k e)) (fun h=>Or.inr (Nat.le_trans E.size h))));replace Ta:∀q9,((Value.slice A2 (0+(k+1)) c2).ownBlock)=some q9→((Value.slice none 0 0).ownBlock)=some q9∨w2.heap.size≤q9:=fun k e=>(KN k e).elim (Ta k) (fun h=>Or.inr (Nat.le_trans M3.size (Nat.le_trans E.size h)));replace E:=E.step1 En ah.head;have XT:=fun q9 (h:(ah [((Value.slice A2 (0+(k+1)) c2).ownBlock)]) q9)=>(HY q9 h).elim (ak q9) (fun h=>Or.inr (Nat.le_trans LW.size h));have XT:=fun q9 (h:(ah [((Value.slice A2 (0+(k+1)) c2).ownBlock)]) q9)=>(HY q9 h).elim (dA q9) (fun h=>Or.inr (Nat.le_trans M3.size h));replace M3:=M3.step E dA;replace dA:=XT;replace E:=aB (ah [((Value.slice A2 (0+(k+1)) c2).ownBlock)]) w7;clear HY;replace Ob:World.ownsRow w7 w.heap.size 5 1 (.slice A2 (0+(k+1)) c2) (0+(k+1)) ([]++DU (aC i) (k+1)):=by
   have e:(([]++DU (aC i) k):List Value)++([.int .u8 (48+(nth (aC i) ((aC i).length-1-k)))]:List Value)= []++DU (aC i) (k+1):=by rw[List.append_assoc,l8]
   rw[←e];exact On
  clear On KN En;refine Al ?_;exact yk (k+1,A2,c2) (by show (aC i).length-(k+1)<(aC i).length-k;omega) ⟨rfl,rfl,rfl,trivial⟩ ⟨M3.step E dA,(by exact Ob),Ta,(by omega:k+1≤(aC i).length)⟩
 ·
  have q:=of_decide_eq_false q;obtain rfl:k=(aC i).length:=om;have hl9:(Lib.decDigits i.natAbs:List UInt8).length=0+(aC i).length:=by simp[Lib.decDigits_length,Gd h0];try omega
  have hxs:[]++DU (aC i) (aC i).length=(Lib.decDigits i.natAbs:List UInt8).map fun b=>.int .u8 (b.toNat:Int):=by rw[pG h0];rfl
  refine yu ?_;refine za rfl (kg (l:=Lib.decDigits i.natAbs) u46 underlying5 u9 (congrArg some (congrArg (fun n↦Value.slice A1 n c1) hl9.symm)) (zdz Ob hxs) (ya ?_));exact ⟨by rw[hit];rfl,aT LW E ak⟩
theorem Jt:Calls prog 44 #[.agg #[.bool (decide (i<0)),.slice A (aC i).length c]] w (aD w (.string ⟨(Lib.itoa i).toArray⟩)):=by
 rcases Int.lt_trichotomy i 0 with h | h | h
 · exact Jr i A c w hi hx h
 · exact DV i A c w hi hx h
 · exact Js i A c w hi hx h
end
end
theorem mh {n:Nat} (h:10≤n):Lib.decDigits n=Lib.decDigits (n/10)++ [UInt8.ofNat (48+n%10)]:=by
 rw[Lib.decDigits,dif_neg om]
theorem tC {n:Nat} (h:n<10):Lib.decDigits n= [UInt8.ofNat (48+n)]:=Lib.decDigits_one h
def OD (k l:Nat):List UInt8:=List.replicate (k-Lib.nDigits l) 48++Lib.decDigits l
theorem Ju {k l:Nat} (hk:1≤k):OD (k+1) l=OD k (l/10)++ [UInt8.ofNat (48+l%10)]:=by
 unfold OD;rcases Nat.lt_or_ge l 10 with h | h
 · rw[Nat.div_eq_of_lt h,Nat.mod_eq_of_lt h,Lib.nDigits_small h,Lib.nDigits_small (by decide:0<10),tC h,tC (by decide:0<10)];obtain ⟨j,rfl⟩:∃j,k=j+1:=⟨k-1,om⟩;rw[show j+1+1-1=j+1 from om,show j+1-1=j from om,List.replicate_succ'];rfl
 · rw[Lib.nDigits_big om,mh h,←List.append_assoc,show k+1-(Lib.nDigits (l/10)+1)=k-Lib.nDigits (l/10) from om]
theorem Am {a:Nat} (ha:0<a):∀(k l:Nat),l<10^(k+1)→Lib.decDigits (a*10^(k+1)+l)=Lib.decDigits a++OD (k+1) l
 | 0,l,hl=>by
  have h9:l<10:=by simpa using hl
  rw[mh om,show (a*10^(0+1)+l)/10=a from om,show (a*10^(0+1)+l)%10=l from om,OD,Lib.nDigits_small h9,tC h9];rfl
 | k+1,l,hl=>by
  have e:a*10^(k+1+1)+l=10*(a*10^(k+1))+l:=by rw[Nat.pow_succ 10 (k+1),←Nat.mul_assoc,Nat.mul_comm _ 10]
  have h0:0<a*10^(k+1):=Nat.mul_pos ha (Nat.pow_pos de);have key:∀X l:Nat,(10*X+l)/10=X+l/10∧(10*X+l)%10=l%10∧(0<X→10≤10*X+l):=om;have hd:(a*10^(k+1+1)+l)/10=a*10^(k+1)+l/10:=by rw[e,(key _ _).1]
  have hm:(a*10^(k+1+1)+l)%10=l%10:=by rw[e,(key _ _).2.1]
  have hl2:l/10<10^(k+1):=by rw[Nat.pow_succ 10 (k+1)] at hl;omega
  rw[mh (by rw[e];exact (key _ _).2.2 h0),hd,hm,Am ha k (l/10) hl2,Ju (k:=k+1) (l:=l) om,List.append_assoc]
theorem DW {a l:Nat} (ha:0<a) (hl:l<au):Lib.decDigits (a*au+l)=Lib.decDigits a++(List.replicate (18-Lib.nDigits l) 48++Lib.decDigits l):=
 Am ha 17 l (by simpa [au] using hl)
theorem mo {l:Nat} (hl:l<au):Lib.nDigits l≤18:=by
 rcases Nat.lt_or_ge l 10 with h | h
 · rw[Lib.nDigits_small h];omega
 · rcases Nat.lt_or_ge 18 (Lib.nDigits l) with h1 | h1
   · exfalso
     have h2:∀(k u:Nat),k+1<Lib.nDigits u→10^(k+1)≤u:=by
      intro k;induction k with
      | zero=>
       intro u hu;rcases Nat.lt_or_ge u 10 with h | h
       · rw[Lib.nDigits_small h] at hu;omega
       · simpa using h
      | succ k ih=>
       intro u hu;rcases Nat.lt_or_ge u 10 with h | h
       · rw[Lib.nDigits_small h] at hu;omega
       · rw[Lib.nDigits_big om] at hu;have:=ih (u/10) om;rw[Nat.pow_succ 10 (k+1)];omega
     have h3:=h2 17 l h1;have:(10:Nat)^(17+1)=au:=de;omega
   · exact h1
def jq (i:Int) (k:Nat):List UInt8:=(if i<0 then [45] else [])++(if k=0 then [] else Lib.decDigits (i.natAbs/au^((limbs i).length-k)))
theorem Tc (i:Int) {k:Nat}:(limbs i).getD k 0=i.natAbs/au^k%au:=by
 rw[yo,ymq (by unfold au;omega) (jo yq _),jj yq]
theorem OE (i:Int) (k:Nat):nth (limbs i) k=((i.natAbs/au^k%au:Nat):Int):=by
 unfold nth;rw[Tc]
theorem Jv {i:Int} {k:Nat} (hk:k<(limbs i).length):0<i.natAbs/au^k:=by
 rcases Nat.eq_zero_or_pos (i.natAbs/au^k) with h | h
 · exfalso
   have h0:0<au^k:=Nat.pow_pos (by unfold au;omega);have h1:i.natAbs<au^k:=by
    rcases Nat.lt_or_ge i.natAbs (au^k) with h1 | h1
    · exact h1
    · have:=Nat.div_pos h1 h0;omega
   have:=(yp yq i.natAbs k).2 h1;rw[←yo] at this;omega
 · exact h
theorem ztk (i:Int):jq i 0=if i<0 then [45] else []:=by simp[jq]
theorem mq {i:Int} (h:0<(limbs i).length):jq i 0++Lib.decDigits (i.natAbs/au^((limbs i).length-1-0)%au)=jq i 1:=by
 have h1:i.natAbs<au^(limbs i).length:=(yp yq i.natAbs _).1 (by rw[←yo];exact Nat.le_refl _);have h2:i.natAbs/au^((limbs i).length-1)<au:=by
  rw[Nat.div_lt_iff_lt_mul (Nat.pow_pos (by unfold au;omega)),←Nat.pow_succ',Nat.succ_eq_add_one,show (limbs i).length-1+1=(limbs i).length from om];exact h1
 rw[Nat.sub_zero,Nat.mod_eq_of_lt h2];simp[jq]
theorem ywk {i:Int} {k:Nat} (hk0:0<k) (hk:k<(limbs i).length) :
 jq i k++(List.replicate (18-Lib.nDigits (i.natAbs/au^((limbs i).length-1-k)%au)) 48++Lib.decDigits (i.natAbs/au^((limbs i).length-1-k)%au))=jq i (k+1):=by
 have e:i.natAbs/au^((limbs i).length-k)=i.natAbs/au^((limbs i).length-1-k)/au:=by
  rw[Nat.div_div_eq_div_mul,←Nat.pow_succ,Nat.succ_eq_add_one,show (limbs i).length-1-k+1=(limbs i).length-k from om]
 have hp:=Jv (i:=i) (k:=(limbs i).length-k) om;have hj:=DW (a:=i.natAbs/au^((limbs i).length-k)) (l:=i.natAbs/au^((limbs i).length-1-k)%au) hp (Nat.mod_lt _ (by unfold au;omega));rw[jq,jq,if_neg (show ¬k=0 from om),if_neg (show ¬k+1=0 from om),List.append_assoc,←hj,e,Nat.mul_comm,Nat.div_add_mod,show (limbs i).length-(k+1)=(limbs i).length-1-k from om]
theorem DX {i:Int} (h:0<(limbs i).length):jq i (limbs i).length=Lib.itoa i:=by
 rw[jq,if_neg (show ¬(limbs i).length=0 from om),Nat.sub_self,Nat.pow_zero,Nat.div_one,Lib.itoa];split
 · rfl
 · rw[show i.toNat=i.natAbs from om];rfl
theorem DY {i:Int} {k:Nat} (hk:k≤(limbs i).length) (hl:(limbs i).length≤30):(jq i k).length≤1+18*k:=by
 have h1:∀k,k≤(limbs i).length→(jq i k).length≤1+18*k:=by
  intro k;induction k with
  | zero=>intro _;rw[ztk];split<;>simp
  | succ k ih=>
   intro hk1;have h2:=ih om;have h3:i.natAbs/au^((limbs i).length-1-k)%au<au:=Nat.mod_lt _ (by unfold au;omega);have h4:=mo h3;rcases Nat.eq_zero_or_pos k with rfl | h0
   · rw[←mq om,List.length_append,Lib.decDigits_length];rw[Nat.sub_zero] at h4 ⊢;omega
   · rw[←ywk h0 om,List.length_append,List.length_append,List.length_replicate,Lib.decDigits_length];omega
 exact h1 k hk
def strip:List UInt8→List UInt8
 | []=>[]
 | b::r=>if b=48 then strip r else b::r
end Go.Proofs.YtdofcnodhgaedaaGreatDoor

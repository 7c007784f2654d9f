/- Texts of this claim. -/
import Derived.Test.YtmnmebdmpigddaaGreatDoorB5
import Derived.Laws.Externs
import Derived.Laws.FloatArith
set_option maxRecDepth 100000
namespace Go.Proofs.YtmnmebdmpigddaaGreatDoor
open Go.RowKit
def gW (P:Program) (f:FuncId) (e:Array Value→Sem Value):Prop:=∃fn,P.funcs[f]? =some fn∧(fn.name== "runtime.NumGoroutine")=false∧fn.body.isNone=true∧Extern.findNext fn=none∧Extern.find fn=some e
def fG (r:Nat):Prop:=∃s t,s<2∧t<4503599627370495∧r=s*9223372036854775808+9218868437227405312+1+t
def eX (z:Option Nat) (r:Nat) (w w':World):Prop:=(z=some r∧w'=w)∨(z=none∧fG r∧w'=w.drew)
theorem eX.ext {z:Option Nat} {r:Nat} {w w':World} (h:eX z r w w'):Ext No w w':=by
 rcases h with ⟨_,rfl⟩ | ⟨_,_,rfl⟩
 · exact Ext.refl _ _
 · exact ⟨rfl,rfl,rfl,Nat.le_refl _,fun _ _ _=>rfl⟩
theorem fG.lt {r:Nat} (h:fG r):r<18446744073709551616:=by obtain ⟨s,t,h1,h2,rfl⟩:=h;omega
section
variable {P:Program} {N:Nat} {ops:Array Oper} {Q:Exit→Act→World→Prop} {σ:Env} {w:World} {ty:TypeId} {pos:String} {af:Array Edge} {dst:Option Nat} {Post:Value→World→Prop}
theorem vjk {xs:List Operand} {ts:Array TypeId} {f:FuncId} {args:List Value} {e:Array Value→Sem Value} {v:Value} {w':World} (hf:gW P f e) (ha:evs σ xs=some args)
 (hr:(e args.toArray).run P w= .ok v w') (k:Post v w'):OW P N ops Q ⟨dst,.call ⟨.value (.func f),xs.toArray,ts⟩,ty,pos,af,none⟩ σ w Post:=by
 intro a hat;rw[if_pos (by simp[Region.wanted])];unfold Oper.wp;have hargs:xs.toArray.map a.eval=args.toArray:=by
  apply Array.toList_inj.1
  rw[Array.toList_map];exact uK hat ha
 obtain ⟨fn,h1,h2,h3,h4,h5⟩:=hf;have hc:=run_callFunc_extern h1 h2 h3 h4 h5 args.toArray w;rw[hr] at hc;have hrun:(execOp a.eval ⟨dst,.call ⟨.value (.func f),xs.toArray,ts⟩,ty,pos,af,none⟩).run P w= .ok (.value v) w':=by
  simp only[execOp,resolve,hargs,Deferred.ofValue,Act.eval,invoke,Sem.run_bind,Sem.run_pure,Result.andThen_ok]
  rw[Array.empty_append];exact hc
 rw[hrun];exact ⟨v,rfl,k⟩
theorem qyv {x:Operand} {T:TypeId} {m:Nat} (hx:ev σ x=some (.float .f64 m)) (k:Post (.float .f64 (m ^^^ 9223372036854775808)) w):OW P N ops Q ⟨dst,.unOp .neg T x,ty,pos,af,none⟩ σ w Post:=
 yh (fun ρ ha=>by simp[execOp,ha hx,Op.unary,Op.negFloat,go_sem];rfl) k
def aR (op:BinOp) (a b:Nat):Option Nat:=match op with
 | .add=>Ieee.double.add a b
 | .sub=>Ieee.double.sub a b
 | .mul=>Ieee.double.mul a b
 | .quo=>Ieee.double.div a b
 | _=>none
theorem ZK (x y t:Nat):fG (Question.cut (.nanBits .f64 x y) t):=⟨t%2,(t/2)%4503599627370495,Nat.mod_lt _ de,Nat.mod_lt _ de,rfl⟩
theorem jd {op:BinOp} {T U:TypeId} {x y:Operand} {m n:Nat} (ho:op= .add∨op= .sub∨op= .mul∨op= .quo) (hx:ev σ x=some (.float .f64 m)) (hy:ev σ y=some (.float .f64 n))
 (k:∀r w',eX (aR op m n) r w w'→Post (.float .f64 r) w'):OW P N ops Q ⟨dst,.binOp op T x y U,ty,pos,af,none⟩ σ w Post:=by
 have key:∃r w',eX (aR op m n) r w w'∧ ∀ρ:Operand→Value,(∀ {x v},ev σ x=some v→ρ x=v)→(execOp ρ ⟨dst,.binOp op T x y U,ty,pos,af,none⟩).run P w= .ok (.value (.float .f64 r)) w':=by
  cases hz:aR op m n with
  | some r=>
   refine ⟨r,w,.inl ⟨rfl,rfl⟩,fun ρ ha=>?_⟩;rcases ho with rfl | rfl | rfl | rfl<;>simp only[aR] at hz<;>simp[execOp,ha hx,ha hy,binOp,eqGuard,Op.floatArith,FloatKind.format,hz,go_sem]
  | none=>
   refine ⟨_,w.drew,.inr ⟨rfl,ZK m n (w.tape w.drawn (.nanBits .f64 m n)),rfl⟩,fun ρ ha=>?_⟩;rcases ho with rfl | rfl | rfl | rfl<;>simp only[aR] at hz<;>simp[execOp,ha hx,ha hy,binOp,eqGuard,Op.floatArith,FloatKind.format,hz,choose,go_sem]<;>rfl
 obtain ⟨r,w',h1,h2⟩:=key;exact yh h2 (k r w' h1)
def gk (a b:Nat):Option Ordering:=Ieee.double.order a b
theorem ZL {T U:TypeId} {x y:Operand} {m n:Nat} (hx:ev σ x=some (.float .f64 m)) (hy:ev σ y=some (.float .f64 n)) (k:Post (.bool (gk m n==some .eq)) w):OW P N ops Q ⟨dst,.binOp .eql T x y U,ty,pos,af,none⟩ σ w Post:=
 yh (fun ρ ha=>by simp[execOp,ha hx,ha hy,binOp,eqGuard,Op.floatCmp,FloatKind.format,gk,go_sem]) k
theorem ZM {T U:TypeId} {x y:Operand} {m n:Nat} (hx:ev σ x=some (.float .f64 m)) (hy:ev σ y=some (.float .f64 n)) (k:Post (.bool (gk m n !=some .eq)) w):OW P N ops Q ⟨dst,.binOp .neq T x y U,ty,pos,af,none⟩ σ w Post:=
 yh (fun ρ ha=>by simp[execOp,ha hx,ha hy,binOp,eqGuard,Op.floatCmp,FloatKind.format,gk,go_sem]) k
theorem ypv {T U:TypeId} {x y:Operand} {m n:Nat} (hx:ev σ x=some (.float .f64 m)) (hy:ev σ y=some (.float .f64 n)) (k:Post (.bool (gk m n==some .lt)) w):OW P N ops Q ⟨dst,.binOp .lss T x y U,ty,pos,af,none⟩ σ w Post:=
 yh (fun ρ ha=>by simp[execOp,ha hx,ha hy,binOp,eqGuard,Op.floatCmp,FloatKind.format,gk,go_sem]) k
theorem vtk {T U:TypeId} {x y:Operand} {m n:Nat} (hx:ev σ x=some (.float .f64 m)) (hy:ev σ y=some (.float .f64 n)) (k:Post (.bool (gk m n==some .gt)) w):OW P N ops Q ⟨dst,.binOp .gtr T x y U,ty,pos,af,none⟩ σ w Post:=
 yh (fun ρ ha=>by simp[execOp,ha hx,ha hy,binOp,eqGuard,Op.floatCmp,FloatKind.format,gk,go_sem]) k
end
end Go.Proofs.YtmnmebdmpigddaaGreatDoor
namespace Go.Proofs.YtmnmebdmpigddaaGreatDoor
open Ieee
theorem Ra {P:Prop} (h:P:=by
 obtain ⟨z,h1,rfl⟩:=Option.map_eq_some_iff.1 h;exact yhq (ZT h1)):P:=h
def rg (b:Nat):Nat:=b%9223372036854775808
def ng (b:Nat):Bool:=b/9223372036854775808%2==1
def mg (r:Nat):Nat:=if r<4503599627370496 then r else 4503599627370496+r%4503599627370496
def ex (r:Nat):Nat:=if r<4503599627370496 then 0 else r/4503599627370496-1
def vl (r:Nat):Nat:=mg r*2^ex r
theorem c1:double.signWeight=9223372036854775808:=by decide +kernel
theorem c2:double.binade=4503599627370496:=by decide +kernel
theorem c3:double.infRung=9218868437227405312:=by decide +kernel
theorem c4:double.leastPlace= -1074:=by decide +kernel
theorem vd {b:Nat} (h:rg b<9218868437227405312):double.read b= .number (ng b) (mg (rg b)) (-1074+(ex (rg b):Int)):=by
 unfold Format.read;simp only[c1,c2,c3,c4]
 show (if rg b<4503599627370496 then _ else if rg b<9218868437227405312 then _ else _)=_
 by_cases h1:rg b<4503599627370496
 · rw[if_pos h1,mg,ex,if_pos h1,if_pos h1];rfl
 · rw[if_neg h1,if_pos h,mg,ex,if_neg h1,if_neg h1];rfl
theorem xn {b:Nat} (h:rg b=9218868437227405312):double.read b= .infinity (ng b):=by
 unfold Format.read;simp only[c1,c2,c3,c4]
 show (if rg b<4503599627370496 then _ else if rg b<9218868437227405312 then _ else if rg b=9218868437227405312 then _ else _)=_
 rw[if_neg (by rw[h];decide),if_neg (by rw[h];decide),if_pos h];rfl
theorem yzz {b:Nat} (h:9218868437227405312<rg b):double.read b= .nan (ng b) (rg b-9218868437227405312):=by
 unfold Format.read;simp only[c1,c2,c3,c4]
 show (if rg b<4503599627370496 then _ else if rg b<9218868437227405312 then _ else if rg b=9218868437227405312 then _ else _)=_
 have h0:4503599627370496<9218868437227405312:=de;rw[if_neg om,if_neg om,if_neg om];rfl
def aW (b:Nat):Bool:=decide (9218868437227405312<rg b)
theorem Za {r s:Nat} (h:r<s):vl r<vl s:=by
 have key:∀r,vl r<vl (r+1):=by
  intro r;unfold vl mg ex;by_cases h1:r+1<4503599627370496
  · rw[if_pos h1,if_pos h1,if_pos om,if_pos om];omega
  · by_cases h2:r<4503599627370496
    · have h3:r+1=4503599627370496:=om;rw[if_pos h2,if_pos h2,h3,if_neg om,if_neg om];simp
      omega
    · rw[if_neg h1,if_neg h1,if_neg h2,if_neg h2];by_cases h3:(r+1)%4503599627370496=0
      · have e1:(r+1)/4503599627370496=r/4503599627370496+1:=om;have e2:r%4503599627370496=4503599627370496-1:=om;obtain ⟨k,hk⟩:∃k,r/4503599627370496=k+1:=⟨r/4503599627370496-1,om⟩;rw[h3,e1,e2,hk,show k+1+1-1=k+1 from om,show k+1-1=k from om,Nat.pow_succ,←Nat.mul_assoc,Nat.mul_right_comm];have h0:0<2^k:=Nat.pow_pos de;exact Nat.mul_lt_mul_of_pos_right om h0
      · have e1:(r+1)/4503599627370496=r/4503599627370496:=om;have e2:(r+1)%4503599627370496=r%4503599627370496+1:=om;rw[e1,e2];exact Nat.mul_lt_mul_of_pos_right om (Nat.pow_pos de)
 obtain ⟨d,rfl⟩:∃d,s=r+1+d:=⟨s-r-1,om⟩;clear h;induction d with
 | zero=>exact key r
 | succ d ih=>exact Nat.lt_trans ih (key _)
theorem LV:vl 0=0:=de
theorem vfx {r s:Nat} (h:vl r=vl s):r=s:=by
 rcases Nat.lt_trichotomy r s with h1 | h1 | h1
 · have:=Za h1;omega
 · exact h1
 · have:=Za h1;omega
def pc (b:Nat):Int:=if ng b then -(rg b:Int) else (rg b:Int)
def sv (b:Nat):Int:=if ng b then -(vl (rg b):Int) else (vl (rg b):Int)
theorem aG4 (a b:Nat):(sv a<sv b↔pc a<pc b)∧(sv a=sv b↔pc a=pc b):=by
 have h1:=@Za (rg a) (rg b);have h2:=@Za (rg b) (rg a);have h3:=@vfx (rg a) (rg b);have h4:vl (rg a)=0→rg a=0:=fun h=>vfx (by rw[h,LV]);have h5:vl (rg b)=0→rg b=0:=fun h=>vfx (by rw[h,LV]);have h6:rg a=0→vl (rg a)=0:=fun h=>by rw[h,LV]
 have h7:rg b=0→vl (rg b)=0:=fun h=>by rw[h,LV]
 have h8:rg a=rg b→vl (rg a)=vl (rg b):=fun h=>by rw[h]
 unfold sv pc;generalize vl (rg a)=x at *
 generalize vl (rg b)=y at *
 cases ng a<;>cases ng b<;>simp only[Bool.false_eq_true,if_true,if_false]<;>constructor<;>constructor<;>intro h<;>omega
def nT (x y:Int):Ordering:=if x<y then .lt else if x=y then .eq else .gt
theorem ZU (x y:Int):compare x y=nT x y:=rfl
theorem FM {x y:Int} {c:Nat} (hc:0<c):nT (x*c) (y*c)=nT x y:=by
 unfold nT;have h:(0:Int)<c:=om;have e1:x*(c:Int)<y*(c:Int)↔x<y:=⟨fun k=>Int.lt_of_mul_lt_mul_right k om,fun k=>Int.mul_lt_mul_of_pos_right k h⟩;have e2:x*(c:Int)=y*(c:Int)↔x=y:=⟨fun k=>Int.eq_of_mul_eq_mul_right om k,fun k=>by rw[k]⟩;simp only[e1,e2]
theorem ZV (a b:Nat):nT (sv a) (sv b)=nT (pc a) (pc b):=by
 obtain ⟨h1,h2⟩:=aG4 a b;unfold nT;simp only[h1,h2]
theorem zvk (s:Bool) (m k l:Nat):signed s m k*((2^l:Nat):Int)=if s then -((m*2^(k+l):Nat):Int) else ((m*2^(k+l):Nat):Int):=by
 unfold signed;rw[Nat.shiftLeft_eq,Nat.pow_add,←Nat.mul_assoc];cases s
 · simp
 · simp[Int.neg_mul]
theorem Rb {a b:Nat} (ha:rg a<9218868437227405312) (hb:rg b<9218868437227405312):gk a b=some (nT (pc a) (pc b)):=by
 rw[gk,Format.order,vd ha,vd hb];simp only[Datum.order]
 rw[ZU,←ZV];obtain ⟨c,hc⟩:∃c,c=min (ex (rg a)) (ex (rg b)):=⟨_,rfl⟩;have e1:((-1074+(ex (rg a):Int))-min (-1074+(ex (rg a):Int)) (-1074+(ex (rg b):Int))).toNat=ex (rg a)-c:=om;have e2:((-1074+(ex (rg b):Int))-min (-1074+(ex (rg a):Int)) (-1074+(ex (rg b):Int))).toNat=ex (rg b)-c:=om;rw[e1,e2,←FM (c:=2^c) (Nat.pow_pos de),zvk,zvk,show ex (rg a)-c+c=ex (rg a) from om,show ex (rg b)-c+c=ex (rg b) from om];unfold sv vl;rfl
theorem ZW {x y:Int} (h:x<y):nT x y= .lt:=if_pos h
theorem qjv {x y:Int} (h:y<x):nT x y= .gt:=by rw[nT,if_neg om,if_neg om]
theorem ymv (x:Int):nT x x= .eq:=by rw[nT,if_neg om,if_pos rfl]
theorem qov (b:Nat):(ng b=true→pc b= -(rg b:Int))∧(ng b=false→pc b=(rg b:Int)):=by
 unfold pc;cases ng b<;>simp
theorem LX (b:Nat):rg b<9223372036854775808:=Nat.mod_lt _ de
theorem      ztk {a b : Nat} (ha :  aW a = false) (hb :  aW b = false) :   gk a b = some (  nT (pc a) (pc b)) := by
  have ha' : ¬ 9218868437227405312 < rg a := of_decide_eq_false ha
  have hb' : ¬ 9218868437227405312 < rg b := of_decide_eq_false hb
  by_cases h1 : rg a < 9218868437227405312
  · by_cases h2 : rg b < 9218868437227405312
    · exact       Rb h1 h2
    · have h3 : rg b = 9218868437227405312 := by omega
      obtain ⟨p1, p2⟩ :=    qov a
      obtain ⟨p3, p4⟩ :=    qov b
      rw [  gk, Format.order,       vd h1,       xn h3]
      simp only [Datum.order]
      cases hb2 : ng b
      · have h5 := p4 hb2
        rw [     ZW (by rw [h5, h3]; cases ha2 : ng a; · rw [p2 ha2]; omega
                        · rw [p1 ha2]; omega)]
        rfl
      · have h5 := p3 hb2
        rw [    qjv (by rw [h5, h3]; cases ha2 : ng a; · rw [p2 ha2]; omega
                        · rw [p1 ha2]; omega)]
        rfl
  · have h3 : rg a = 9218868437227405312 := by omega
    obtain ⟨p1, p2⟩ :=    qov a
    obtain ⟨p3, p4⟩ :=    qov b
    by_cases h2 : rg b < 9218868437227405312
    · rw [  gk, Format.order,       xn h3,       vd h2]
      simp only [Datum.order]
      cases ha2 : ng a
      · have h5 := p2 ha2
        rw [    qjv (by rw [h5, h3]; cases hb2 : ng b; · rw [p4 hb2]; omega
                        · rw [p3 hb2]; omega)]
        rfl
      · have h5 := p1 ha2
        rw [     ZW (by rw [h5, h3]; cases hb2 : ng b; · rw [p4 hb2]; omega
                        · rw [p3 hb2]; omega)]
        rfl
    · have h4 : rg b = 9218868437227405312 := by omega
      rw [  gk, Format.order,       xn h3,       xn h4]
      simp only [Datum.order]
      cases ha2 : ng a <;> cases hb2 : ng b
      · rw [p2 ha2, p4 hb2, h3, h4,       ymv]; rfl
      · rw [p2 ha2, p3 hb2, h3, h4,     qjv (by omega)]; rfl
      · rw [p1 ha2, p4 hb2, h3, h4,      ZW (by omega)]; rfl
      · rw [p1 ha2, p3 hb2, h3, h4,       ymv]; rfl
theorem ztv {a b:Nat} (h:aW a=true∨aW b=true):gk a b=none:=by
 rw[gk,Format.order];rcases h with h | h
 · rw[yzz (of_decide_eq_true h)];rfl
 · rw[yzz (of_decide_eq_true h)];cases double.read a<;>rfl
theorem vj (n:Bool) (r:Nat) (h:r<9223372036854775808):rg (double.word n r)=r∧ng (double.word n r)=n∧double.word n r<18446744073709551616:=by
 unfold Format.word rg ng;rw[c1];cases n
 · simp only[Bool.false_eq_true,if_false]
   refine ⟨Nat.mod_eq_of_lt h,?_,om⟩;rw[Nat.div_eq_of_lt h];rfl
 · simp only[if_true]
   refine ⟨om,?_,om⟩;rw[show (9223372036854775808+r)/9223372036854775808=1 from om];rfl
theorem yhq {d:Datum} (h:d.isNaN=false):aW (double.write d)=false∧double.write d<18446744073709551616:=by
 have h0:9218868437227405312<9223372036854775808:=de;have key:∀n r,r≤9218868437227405312→aW (double.word n r)=false∧double.word n r<18446744073709551616:=fun n r hr=>by
  obtain ⟨h1,_,h3⟩:=vj n r om;exact ⟨decide_eq_false (by rw[h1];omega),h3⟩
 cases d with
 | number n m p=>
  show aW (double.nearest n m p)=false∧double.nearest n m p<18446744073709551616
  unfold Format.nearest;split
  · exact key _ _ (Nat.zero_le _)
  · simp only[]
    exact key _ _ (Nat.le_trans (Nat.min_le_right _ _) (by rw[c3];exact Nat.le_refl _))
 | infinity n=>exact key _ _ (by rw[c3];exact Nat.le_refl _)
 | nan n f=>cases h
theorem ZT {x y z:Datum} (h:x.sum y=some z):z.isNaN=false:=by
 cases x<;>cases y<;>simp only[Datum.sum] at h
 all_goals first | cases h;rfl | (split at h<;>cases h;rfl) | cases h
theorem zL {x y z:Datum} (h:x.product y=some z):z.isNaN=false:=by
 cases x<;>cases y<;>simp only[Datum.product] at h
 all_goals first | cases h;rfl | (split at h<;>cases h;rfl) | cases h
theorem uU {k:Nat} {x y z:Datum} (h:x.quotient k y=some z):z.isNaN=false:=by
 cases x<;>cases y<;>simp only[Datum.quotient] at h
 all_goals first | cases h;rfl | (split at h<;>first | cases h;rfl | (split at h<;>cases h;rfl) | cases h) | cases h
theorem P8 {op:BinOp} {a b r:Nat} (h:aR op a b=some r):aW r=false∧r<18446744073709551616:=by
 unfold aR at h;cases op<;>simp only[reduceCtorEq] at h
 · exact Ra
 · exact Ra
 · obtain ⟨z,h1,rfl⟩:=Option.map_eq_some_iff.1 h;exact yhq (zL h1)
 · obtain ⟨z,h1,rfl⟩:=Option.map_eq_some_iff.1 h;exact yhq (uU h1)
theorem uV {r:Nat} (h:fG r):aW r=true:=by
 obtain ⟨s,t,h1,h2,rfl⟩:=h;apply decide_eq_true
 unfold rg;omega
def qg (b:Nat):Nat:=b ^^^ 9223372036854775808
theorem qpv {b:Nat} (h:b<9223372036854775808):qg b=9223372036854775808+b:=by
 unfold qg;have e:(9223372036854775808:Nat)=2^63:=de;rw[e] at h ⊢;apply Nat.eq_of_testBit_eq
 intro i;rw[Nat.testBit_xor,Nat.testBit_two_pow];rcases Nat.lt_trichotomy i 63 with h1 | h1 | h1
 · rw[Nat.testBit_two_pow_add_gt h1,decide_eq_false om,Bool.xor_false]
 · subst h1;rw[Nat.testBit_two_pow_add_eq,decide_eq_true rfl,Bool.xor_true]
 · have h2:2^63+b<2^i:=by
    have h3:2^64≤2^i:=Nat.pow_le_pow_right de h1;have h4:(2:Nat)^64=2^63+2^63:=de;omega
   rw[Nat.testBit_lt_two_pow h2,Nat.testBit_lt_two_pow om,decide_eq_false om];rfl
theorem vpv {b:Nat} (h:b<9223372036854775808):qg (9223372036854775808+b)=b:=by
 rw[←qpv h];unfold qg;rw[Nat.xor_assoc,Nat.xor_self,Nat.xor_zero]
theorem zdk {b:Nat} (h:b<18446744073709551616):rg (qg b)=rg b∧ng (qg b)= !ng b∧qg b<18446744073709551616:=by
 have key:∀c,c<9223372036854775808→rg (9223372036854775808+c)=c∧ng (9223372036854775808+c)=true∧rg c=c∧ng c=false:=fun c hc=>by
  unfold rg ng;refine ⟨om,?_,om,?_⟩
  · rw[show (9223372036854775808+c)/9223372036854775808=1 from om];rfl
  · rw[Nat.div_eq_of_lt hc];rfl
 rcases Nat.lt_or_ge b 9223372036854775808 with h1 | h1
 · obtain ⟨k1,k2,k3,k4⟩:=key b h1;rw[qpv h1,k1,k2,k3,k4];exact ⟨rfl,rfl,om⟩
 · obtain ⟨c,rfl⟩:∃c,b=9223372036854775808+c:=⟨b-9223372036854775808,om⟩;obtain ⟨k1,k2,k3,k4⟩:=key c om;rw[vpv om,k1,k2,k3,k4];exact ⟨rfl,rfl,om⟩
theorem zhv {b:Nat} (h:b<18446744073709551616):aW (qg b)=aW b:=by unfold aW;rw[(zdk h).1]
theorem Rc {b:Nat} (h:b<18446744073709551616) (hn:aW b=false):double.read (qg b)=(double.read b).opposite:=by
 have hn':¬9218868437227405312<rg b:=of_decide_eq_false hn;obtain ⟨h1,h2,_⟩:=zdk h;by_cases h3:rg b<9218868437227405312
 · rw[vd h3,vd (by rw[h1];exact h3),h1,h2];rfl
 · rw[xn om,xn om,h2];rfl
theorem uW {a b:Nat} (h:b<18446744073709551616) (hn:aW b=false):aR .sub a b=aR .add a (qg b):=by
 simp only[aR,Format.sub,Format.add,Rc h hn]
theorem yek {op:BinOp} {a b:Nat} (h:aW a=true∨aW b=true):aR op a b=none:=by
 have key:∀x:Nat,aW x=true→double.read x= .nan (ng x) (rg x-9218868437227405312):=fun x hx=>yzz (of_decide_eq_true hx);unfold aR;cases op<;>simp only[]<;>rcases h with h | h<;>simp only[Format.add,Format.sub,Format.mul,Format.div,key _ h]
 all_goals first | rfl | (cases double.read a<;>rfl)
theorem sub_self {a:Nat} (hn:aW a=false):aR .sub a a=if rg a=9218868437227405312 then none else some 0:=by
 have hn':¬9218868437227405312<rg a:=of_decide_eq_false hn;by_cases h3:rg a<9218868437227405312
 · rw[if_neg om];simp only[aR,Format.sub,vd h3,Datum.opposite,Datum.sum]
   have e:signed (ng a) (mg (rg a)) ((-1074+(ex (rg a):Int))-min (-1074+(ex (rg a):Int)) (-1074+(ex (rg a):Int))).toNat+signed (!ng a) (mg (rg a)) ((-1074+(ex (rg a):Int))-min (-1074+(ex (rg a):Int)) (-1074+(ex (rg a):Int))).toNat=0:=by
    unfold signed;cases ng a<;>simp
    all_goals omega
   rw[e];cases ng a<;>rfl
 · have h4:rg a=9218868437227405312:=om;rw[if_pos h4];simp only[aR,Format.sub,xn h4,Datum.opposite,Datum.sum]
   cases ng a<;>rfl
theorem qH {b:Nat} (h:b<18446744073709551616):ng b=decide (9223372036854775808≤b):=by
 unfold ng;rcases Nat.lt_or_ge b 9223372036854775808 with h1 | h1
 · rw[Nat.div_eq_of_lt h1,decide_eq_false om];rfl
 · rw[show b/9223372036854775808=1 from om,decide_eq_true h1];rfl
theorem LY {a b:Nat} (ha:a<18446744073709551616) (hb:b<18446744073709551616) (h1:rg a=rg b) (h2:ng a=ng b):a=b:=by
 rw[qH ha,qH hb] at h2;have h3:=decide_eq_decide.1 h2;unfold rg at h1;omega
theorem zmx {m k:Nat} (h:m≠0):(m*2^k).log2=m.log2+k:=by
 have hp:0<2^k:=Nat.pow_pos de;have h1:=Nat.log2_self_le h;have h2:=@Nat.lt_log2_self m;refine (Nat.log2_eq_iff (by exact Nat.mul_ne_zero h om)).2 ⟨?_,?_⟩
 · rw[Nat.pow_add];exact Nat.mul_le_mul_right _ h1
 · rw[show m.log2+k+1=(m.log2+1)+k from om,Nat.pow_add];exact Nat.mul_lt_mul_of_pos_right h2 hp
theorem ygk {m k:Nat} (h1:2^k≤m) (h2:m<2^(k+1)):m.log2=k:=(Nat.log2_eq_iff (by have:0<2^k:=Nat.pow_pos de;omega)).2 ⟨h1,h2⟩
theorem rA (s:Bool) (n t:Nat) (hn:n≠0):Toward.even.cut s (n*2^t) t=n:=by
 have hl:=zmx (k:=t) hn;unfold Toward.cut;rw[hl,show min t (n.log2+t+2)=t from om,Nat.shiftLeft_eq,Nat.one_mul];have hp:0<2^t:=Nat.pow_pos de;have e1:n*2^t/2^t=n:=Nat.mul_div_cancel _ hp;have e2:n*2^t%2^t=0:=Nat.mul_mod_left _ _;simp only[e1,e2]
 have h3:¬(2^t<2*0):=om;have h4:(2^t==2*0)=false:=beq_false_of_ne om;rw[h4,decide_eq_false h3];rfl
theorem Nq (r:Nat):mg r<9007199254740992:=by
 unfold mg;split
 · omega
 · omega
theorem Tz {r:Nat} (h:4503599627370496≤r):4503599627370496≤mg r:=by unfold mg;rw[if_neg om];omega
theorem kH {r:Nat} (h:r≠0):mg r≠0:=by
 unfold mg;split<;>omega
theorem J8 {r:Nat}:ex r*4503599627370496+mg r=r:=by
 unfold ex mg;split
 · omega
 · omega
theorem zqv {s:Bool} {m u d r:Nat} {p:Int} (hr:r<9218868437227405312) (hp:p= -1074+(u:Int)-(d:Int)) (h:m*2^u=vl r*2^d):double.write (.number s m p)=double.word s r:=by
 show double.nearest s m p=_
 unfold Format.nearest;have hpu:0<2^u:=Nat.pow_pos de;have hpd:0<2^d:=Nat.pow_pos de;by_cases hm:m=0
 · rw[if_pos hm];subst hm;have hv:vl r=0:=by
    rw[Nat.zero_mul] at h;rcases Nat.eq_zero_or_pos (vl r) with h' | h'
    · exact h'
    · have:=Nat.mul_pos h' hpd;omega
   have:r=0:=vfx (by rw[hv,LV]);rw[this]
 · rw[if_neg hm];have hr0:r≠0:=by
    intro e;subst e;rw[LV,Nat.zero_mul] at h;have:=Nat.mul_pos (Nat.pos_of_ne_zero hm) hpu;omega
   have hM:=kH hr0;have hML:=Nq r;have h':m*2^u=mg r*2^(ex r+d):=by rw[h,vl,Nat.pow_add,Nat.mul_assoc]
   have bfj:m.log2+u=(mg r).log2+(ex r+d):=by rw[←zmx hm,←zmx hM,h']
   have hfr:double.fractionBits=52:=rfl;have hlast:max (p+(m.log2:Int)-(double.fractionBits:Int)) double.leastPlace= -1074+(ex r:Int):=by
    rw[c4,hfr];rcases Nat.lt_or_ge r 4503599627370496 with hs | hs
    · have he:ex r=0:=by unfold ex;rw[if_pos hs]
      have hms:(mg r).log2<52:=(Nat.log2_lt hM).2 (by unfold mg;rw[if_pos hs];exact hs);omega
    · have hl:(mg r).log2=52:=ygk (k:=52) (Tz hs) (Nq r);omega
   simp only[hlast]
   have hkept:Toward.even.cut s (m <<< (p-(-1074+(ex r:Int))).toNat) ((-1074+(ex r:Int))-p).toNat=mg r:=by
    rcases Nat.lt_or_ge u (ex r+d) with hc | hc
    · rw[show (p-(-1074+(ex r:Int))).toNat=0 from om,show ((-1074+(ex r:Int))-p).toNat=ex r+d-u from om];have e:m=mg r*2^(ex r+d-u):=by
       have:m*2^u=mg r*2^(ex r+d-u)*2^u:=by rw[h',Nat.mul_assoc,←Nat.pow_add];congr 2;omega
       exact Nat.eq_of_mul_eq_mul_right hpu this
      rw[Nat.shiftLeft_zero,e];exact rA s (mg r) _ hM
    · rw[show (p-(-1074+(ex r:Int))).toNat=u-(ex r+d) from om,show ((-1074+(ex r:Int))-p).toNat=0 from om,Nat.shiftLeft_eq];have e:m*2^(u-(ex r+d))=mg r:=by
       have hpe:0<2^(ex r+d):=Nat.pow_pos de;have:m*2^(u-(ex r+d))*2^(ex r+d)=mg r*2^(ex r+d):=by rw[←h',Nat.mul_assoc,←Nat.pow_add];congr 2;omega
       exact Nat.eq_of_mul_eq_mul_right hpe this
      rw[e];have:=rA s (mg r) 0 hM;rwa [Nat.pow_zero,Nat.mul_one] at this
   rw[hkept,c4,c2,c3,show ((-1074+(ex r:Int))-(-1074)).toNat=ex r from om,J8,Nat.min_eq_left om]
theorem rC {a b r:Nat} (ha:rg a<9218868437227405312) (hb:rg b<9218868437227405312) (hr:r<9218868437227405312) (h:vl (rg a)*vl (rg b)=vl r*2^1074):aR .mul a b=some (double.word (ng a ^^ ng b) r):=by
 simp only[aR,Format.mul,vd ha,vd hb,Datum.product,Option.map_some]
 rw[zqv (u:=ex (rg a)+ex (rg b)) (d:=1074) hr om (by rw[←h,vl,vl,Nat.pow_add];simp only[Nat.mul_comm,Nat.mul_assoc,Nat.mul_left_comm])]
theorem Nr {a b r:Nat} (ha:rg a<9218868437227405312) (hb:rg b<9218868437227405312) (hr:r<9218868437227405312) (h:(sv a+sv b).natAbs=vl r) :
 aR .add a b=some (double.word (if sv a+sv b=0 then ng a&&ng b else decide (sv a+sv b<0)) r):=by
 simp only[aR,Format.add,vd ha,vd hb,Datum.sum,Option.map_some]
 obtain ⟨c,hc⟩:∃c,c=min (ex (rg a)) (ex (rg b)):=⟨_,rfl⟩;have hbase:min (-1074+(ex (rg a):Int)) (-1074+(ex (rg b):Int))= -1074+(c:Int):=om;rw[hbase,show ((-1074+(ex (rg a):Int))-(-1074+(c:Int))).toNat=ex (rg a)-c from om,show ((-1074+(ex (rg b):Int))-(-1074+(c:Int))).toNat=ex (rg b)-c from om];obtain ⟨T,hT⟩:∃T,T=signed (ng a) (mg (rg a)) (ex (rg a)-c)+signed (ng b) (mg (rg b)) (ex (rg b)-c):=⟨_,rfl⟩;rw[←hT];have hsv:T*((2^c:Nat):Int)=sv a+sv b:=by
  rw[hT,Int.add_mul,zvk,zvk,show ex (rg a)-c+c=ex (rg a) from om,show ex (rg b)-c+c=ex (rg b) from om];rfl
 have hpc:0<2^c:=Nat.pow_pos de;have aOx:(0:Int)<((2^c:Nat):Int):=om;have h0:(T=0)↔(sv a+sv b=0):=by
  rw[←hsv];constructor
  · intro e;rw[e,Int.zero_mul]
  · intro e;rcases Int.mul_eq_zero.1 e with h' | h'
    · exact h'
    · omega
 have h1:(T<0)↔(sv a+sv b<0):=by
  rw[←hsv];constructor
  · intro e;exact Int.mul_neg_of_neg_of_pos e aOx
  · intro e;rcases Int.lt_trichotomy T 0 with h' | h' | h'
    · exact h'
    · rw[h',Int.zero_mul] at e;omega
    · have:=Int.mul_pos h' aOx;omega
 have hab:T.natAbs*2^c=vl r*2^0:=by
  rw[Nat.pow_zero,Nat.mul_one,←h,←hsv,Int.natAbs_mul,Int.natAbs_natCast]
 rw[zqv (u:=c) (d:=0) hr om hab];congr 2
 by_cases e:T=0
 · rw[if_pos e,if_pos (h0.1 e)]
 · rw[if_neg e,if_neg (fun k=>e (h0.2 k))];by_cases e2:T<0
   · rw[decide_eq_true e2,decide_eq_true (h1.1 e2)]
   · rw[decide_eq_false e2,decide_eq_false (fun k=>e2 (h1.2 k))]
def nr (r:Nat):Nat:=if r<4503599627370496 then r.log2*4503599627370496+r*2^(52-r.log2) else r
theorem yiq {r:Nat} (h0:r≠0) (h:r<4503599627370496):r.log2≤51∧4503599627370496≤r*2^(52-r.log2)∧r*2^(52-r.log2)<9007199254740992:=by
 have hl:r.log2<52:=(Nat.log2_lt h0).2 h;have h1:=Nat.log2_self_le h0;have h2:=@Nat.lt_log2_self r;have hp:0<2^(52-r.log2):=Nat.pow_pos de;refine ⟨om,?_,?_⟩
 · have:=Nat.mul_le_mul_right (2^(52-r.log2)) h1;rw[←Nat.pow_add,show r.log2+(52-r.log2)=52 from om] at this;exact this
 · have:=Nat.mul_lt_mul_of_pos_right h2 hp;rw[←Nat.pow_add,show r.log2+1+(52-r.log2)=53 from om] at this;exact this
theorem qpk {r:Nat} (h0:r≠0) (h:r<4503599627370496):ex (nr r)=r.log2∧mg (nr r)=r*2^(52-r.log2)∧4503599627370496≤nr r∧nr r<9218868437227405312:=by
 obtain ⟨h1,h2,h3⟩:=yiq h0 h;obtain ⟨M,hM⟩:∃M,M=r*2^(52-r.log2):=⟨_,rfl⟩;have e:nr r=r.log2*4503599627370496+M:=by rw[nr,if_pos h,hM]
 rw[←hM] at h2 h3 ⊢;rw[e];unfold ex mg;rw[if_neg om,if_neg om];refine ⟨?_,?_,?_,?_⟩<;>omega
theorem vQ {r:Nat} (h0:r≠0):4503599627370496≤nr r:=by
 rcases Nat.lt_or_ge r 4503599627370496 with h | h
 · exact (qpk h0 h).2.2.1
 · rw[nr,if_neg om];exact h
theorem yrx {r:Nat} (h0:r≠0) (hr:r<9218868437227405312):nr r<9218868437227405312:=by
 rcases Nat.lt_or_ge r 4503599627370496 with h | h
 · exact (qpk h0 h).2.2.2
 · rw[nr,if_neg om];exact hr
theorem vR {r:Nat} (h:r<4503599627370496):vl r=r:=by unfold vl mg ex;rw[if_pos h,if_pos h,Nat.pow_zero,Nat.mul_one]
theorem TA {r:Nat} (h0:r≠0) (h:r<4503599627370496):vl (nr r)=r*2^52:=by
 obtain ⟨h1,h2,_⟩:=qpk h0 h;have hl:=(yiq h0 h).1;rw[vl,h1,h2,Nat.mul_assoc,←Nat.pow_add,show 52-r.log2+r.log2=52 from om]
theorem viq {p q s:Nat} (h:p=q+s) (r:Nat):r*2^p=r*2^q*2^s:=by rw[h,Nat.pow_add,Nat.mul_assoc]
theorem pF {a:Nat} (h0:rg a≠0) (h:rg a<4503599627370496):aR .mul a 4841369599423283200=some (double.word (ng a) (nr (rg a))):=by
 have hc:rg 4841369599423283200=4841369599423283200∧ng 4841369599423283200=false∧vl 4841369599423283200=2^1126:=by decide +kernel
 have:=rC (a:=a) (b:=4841369599423283200) (r:=nr (rg a)) om (by rw[hc.1];decide) (qpk h0 h).2.2.2 (by
  rewrite [hc.1,hc.2.2,TA h0 h,vR h]
  exact viq (p:=1126) (q:=52) (s:=1074) de (rg a))
 rw[this,hc.2.1,Bool.xor_false]
def gG (a:Nat):Nat:=double.word (ng a) (4602678819172646912+(mg (nr (rg a))-4503599627370496))
def ig (a:Nat):Int:=(ex (nr (rg a)):Int)-1021-(if rg a<4503599627370496 then 52 else 0)
def fm (a:Nat):Nat:=mg (nr (rg a))
theorem aq1 (m k q:Nat):(m*2^(k+31*q))%2147483647=(m*2^k)%2147483647:=by
 induction q with
 | zero=>rfl
 | succ q ih=>
  rw[show k+31*(q+1)=(k+31*q)+31 from om,Nat.pow_add,←Nat.mul_assoc,←ih];obtain ⟨x,hx⟩:∃x,x=m*2^(k+31*q):=⟨_,rfl⟩;rw[←hx,show (2:Nat)^31=2147483648 from rfl];omega
theorem TB {m j k:Nat} (h:j%31=k%31):(m*2^j)%2147483647=(m*2^k)%2147483647:=by
 have h1:=aq1 m (j%31) (j/31);have h2:=aq1 m (k%31) (k/31);rw[show j%31+31*(j/31)=j from om] at h1;rw[show k%31+31*(k/31)=k from om] at h2;rw[h1,h2,h]
def vqx (r:Nat):Nat:=(mg r*2^(((ex r:Int)-1074)%31).toNat)%2147483647
theorem Ns {a:Nat} (h0:rg a≠0):(fm a*2^((ig a-53)%31).toNat)%2147483647=vqx (rg a):=by
 unfold fm ig vqx;rcases Nat.lt_or_ge (rg a) 4503599627370496 with h | h
 · obtain ⟨h1,h2,_⟩:=qpk h0 h;have hl:=(yiq h0 h).1;rw[if_pos h,h1,h2,Nat.mul_assoc,←Nat.pow_add,show mg (rg a)=rg a by unfold mg;rw[if_pos h],show ex (rg a)=0 by unfold ex;rw[if_pos h]];exact TB om
 · rw[if_neg om,show nr (rg a)=rg a by rw[nr,if_neg om],show ((ex (rg a):Int)-1021-0-53)=(ex (rg a):Int)-1074 from om]
theorem vdq {m n:Nat} (hm:m<2^64) (j:Nat):(BitVec.ofNat 64 m &&& ~~~BitVec.ofNat 64 n).toNat.testBit j=(m.testBit j&&decide (j<64)&& !n.testBit j):=by
 rw[BitVec.toNat_and,Nat.testBit_and,BitVec.testBit_toNat,BitVec.testBit_toNat,BitVec.getLsbD_not,BitVec.getLsbD_ofNat,BitVec.getLsbD_ofNat];by_cases hj:j<64
 · simp[hj]
 · have:m.testBit j=false:=Nat.testBit_lt_two_pow (Nat.lt_of_lt_of_le hm (Nat.pow_le_pow_right de om));simp[this]
theorem iq {m:Nat} (hm:m<18446744073709551616):(BitVec.ofNat 64 m &&& ~~~BitVec.ofNat 64 9223372036854775808).toNat=rg m:=by
 apply Nat.eq_of_testBit_eq
 intro j;rw[vdq hm,show rg m=m%2^63 from rfl,Nat.testBit_mod_two_pow,show (9223372036854775808:Nat)=2^63 from rfl,Nat.testBit_two_pow];by_cases h1:j<63
 · have h2:¬63=j:=om;have h3:j<64:=om;simp[h1,h2,h3]
 · by_cases h2:j=63
   · subst h2;simp
   · have h3:¬j<64:=om;simp[h1,h3]
theorem kI {m:Nat} (hm:m<18446744073709551616):(BitVec.ofNat 64 m &&& ~~~BitVec.ofNat 64 9218868437227405312).toNat=m/9223372036854775808*9223372036854775808+m%4503599627370496:=by
 apply Nat.eq_of_testBit_eq
 intro j;have hlt:m%2^52<2^63:=Nat.lt_of_lt_of_le (Nat.mod_lt _ de) de;rw[vdq hm,show m/9223372036854775808*9223372036854775808+m%4503599627370496=2^63*(m/2^63)+m%2^52 from by rw[Nat.mul_comm],Nat.testBit_two_pow_mul_add _ hlt,Nat.testBit_mod_two_pow,Nat.testBit_div_two_pow,
  show (9218868437227405312:Nat)=2^52*(2^11-1) from rfl,Nat.testBit_two_pow_mul,Nat.testBit_two_pow_sub_one]
 by_cases h1:j<52
 · have h2:¬52≤j:=om;have h3:j<63:=om;have h4:j<64:=om;simp[h1,h2,h3,h4]
 · by_cases h2:j<63
   · have h3:52≤j:=om;have h4:j-52<11:=om;simp[h1,h2,h3,h4]
   · have h3:52≤j:=om;have h4:¬j-52<11:=om;have h5:j-63+63=j:=om;by_cases h6:j<64
     · simp[h2,h3,h4,h5,h6]
     · have:m.testBit j=false:=Nat.testBit_lt_two_pow (Nat.lt_of_lt_of_le (show m<2^64 from hm) (Nat.pow_le_pow_right de om));simp[h2,h5,h6,this]
theorem vkz {a b:Nat} (k:Nat) (hb:b<2^k) (ha:a%2^k=0):a ||| b=a+b:=by
 have e:a=2^k*(a/2^k):=by have:=Nat.div_add_mod a (2^k);omega
 rw[e];exact (Nat.two_pow_add_eq_or_of_lt hb _).symm
theorem Nt (m k n:Nat):m &&& (2^n*(2^k-1))=2^n*(m/2^n%2^k):=by
 apply Nat.eq_of_testBit_eq
 intro j;rw[Nat.testBit_and,Nat.testBit_two_pow_mul,Nat.testBit_two_pow_mul,Nat.testBit_two_pow_sub_one,Nat.testBit_mod_two_pow,Nat.testBit_div_two_pow];by_cases h:n≤j
 · have h5:j-n+n=j:=om;simp[h,h5,Bool.and_comm]
 · simp[h]
theorem vS (m:Nat) (hm:m<18446744073709551616):m &&& 9223372036854775808=if ng m then 9223372036854775808 else 0:=by
 have:=Nt m 1 63;rw[show (2:Nat)^63*(2^1-1)=9223372036854775808 from rfl] at this;rw[this,qH hm];show 9223372036854775808*(m/9223372036854775808%2)=_
 by_cases h:9223372036854775808≤m
 · rw[if_pos (decide_eq_true h),show m/9223372036854775808%2=1 from om]
 · rw[if_neg (by simpa using h),show m/9223372036854775808%2=0 from om]
theorem qqx {a b r:Nat} (ha:rg a<9218868437227405312) (hb:rg b<9218868437227405312) (hr:r<9218868437227405312) (h:∀P,P=2^1074→vl (rg a)*vl (rg b)=vl r*P):aR .mul a b=some (double.word (ng a ^^ ng b) r):=rC ha hb hr (h _ rfl)
theorem vV {m m' i j:Nat} (h1:4503599627370496≤m) (h2:m<9007199254740992) (h3:4503599627370496≤m') (h4:m'<9007199254740992) (h:m*2^i=m'*2^j):m=m'∧i=j:=by
 have l1:m.log2=52:=ygk (k:=52) h1 h2;have l2:m'.log2=52:=ygk (k:=52) h3 h4;have hm:m≠0:=om;have hm':m'≠0:=om;have hl:=zmx (k:=i) hm;rw[h,zmx hm',l1,l2] at hl;have:i=j:=om;subst this;exact ⟨Nat.eq_of_mul_eq_mul_right (Nat.pow_pos de) h,rfl⟩
def nd (r:Nat):Nat:=if r<4503599627370496 then 52 else 0
theorem qbz {r:Nat} (h0:r≠0):mg (nr r)*2^ex (nr r)=vl r*2^nd r:=by
 show vl (nr r)=_
 unfold nd;rcases Nat.lt_or_ge r 4503599627370496 with h | h
 · rw[if_pos h,TA h0 h,vR h]
 · rw[if_neg om,Nat.pow_zero,Nat.mul_one,show nr r=r by rw[nr,if_neg om]]
theorem qbv {r:Nat} (h0:r≠0):4503599627370496≤mg (nr r)∧mg (nr r)<9007199254740992:=⟨Tz (vQ h0),Nq _⟩
theorem vok {r q k:Nat} (h0:r≠0) (hq0:q≠0) (h:vl q=vl r*2^k):mg (nr q)=mg (nr r)∧ex (nr q)+nd r=ex (nr r)+k+nd q:=by
 obtain ⟨a1,a2⟩:=qbv h0;obtain ⟨b1,b2⟩:=qbv hq0;have e1:=qbz h0;have e2:=qbz hq0;have:mg (nr q)*2^(ex (nr q)+nd r)=mg (nr r)*2^(ex (nr r)+k+nd q):=by
  rw[Nat.pow_add,←Nat.mul_assoc,e2,h,show ex (nr r)+k+nd q=ex (nr r)+(k+nd q) from om,Nat.pow_add,←Nat.mul_assoc,e1,Nat.pow_add];simp only[Nat.mul_assoc,Nat.mul_comm,Nat.mul_left_comm]
 exact vV b1 b2 a1 a2 this
theorem ywq {r:Nat}:vl r=0↔r=0:=⟨fun h=>vfx (by rw[h,LV]),fun h=>by rw[h,LV]⟩
theorem yok {e m:Nat} (h1:4503599627370496≤m) (h2:m<9007199254740992):ex (e*4503599627370496+m)=e∧mg (e*4503599627370496+m)=m:=by
 unfold ex mg;rw[if_neg om,if_neg om];omega
theorem vev {r s:Nat}:vl r≤vl s↔r≤s:=by
 rcases Nat.lt_trichotomy r s with h | h | h
 · have:=Za h;omega
 · subst h;omega
 · have:=Za h;omega
theorem NA {r s:Nat}:vl r<vl s↔r<s:=by
 have:=@vev s r;omega
theorem ac4 (m k:Nat) (hm:m<9007199254740992):∃d,vl d=m*2^k:=by
 by_cases h0:m=0
 · exact ⟨0,by rw[LV,h0,Nat.zero_mul]⟩
 · have hl:m.log2<53:=(Nat.log2_lt h0).2 hm;by_cases hs:m.log2+k<52
   · have h1:=@Nat.lt_log2_self m;have hp:0<2^k:=Nat.pow_pos de;have h2:m*2^k<2^(m.log2+1)*2^k:=Nat.mul_lt_mul_of_pos_right h1 hp;rw[←Nat.pow_add] at h2;have h3:(2:Nat)^(m.log2+1+k)≤2^52:=Nat.pow_le_pow_right de om;exact ⟨m*2^k,vR (Nat.lt_of_lt_of_le h2 h3)⟩
   · obtain ⟨E,hE⟩:∃E,E=m.log2+k-52:=⟨_,rfl⟩;obtain ⟨M,hM⟩:∃M,M=m*2^(52-m.log2):=⟨_,rfl⟩;have hp:0<2^(52-m.log2):=Nat.pow_pos de;have h1:4503599627370496≤M:=by
      have:=Nat.mul_le_mul_right (2^(52-m.log2)) (Nat.log2_self_le h0);rw[←Nat.pow_add,show m.log2+(52-m.log2)=52 from om,←hM] at this;exact this
     have h2:M<9007199254740992:=by
      have:=Nat.mul_lt_mul_of_pos_right (@Nat.lt_log2_self m) hp;rw[←Nat.pow_add,show m.log2+1+(52-m.log2)=53 from om,←hM] at this;exact this
     obtain ⟨p1,p2⟩:=yok (e:=E) h1 h2;refine ⟨E*4503599627370496+M,?_⟩;rw[vl,p1,p2,hM,hE,Nat.mul_assoc,←Nat.pow_add];congr 2;omega
theorem kK (m k R:Nat) (hm:m<9007199254740992) (h:m*2^k≤vl R):∃d,vl d=m*2^k∧d≤R:=by
 obtain ⟨d,hd⟩:=ac4 m k hm;exact ⟨d,hd,vev.1 (by rw[hd];exact h)⟩
noncomputable def gg (n:Nat):Nat:=@dite Nat (∃d,vl d=n) (Classical.propDecidable _) (fun h=>h.choose) (fun _=>0)
theorem qev {d n:Nat} (h:vl d=n):gg n=d:=by
 have he:∃d,vl d=n:=⟨d,h⟩;rw[gg,dif_pos he];exact vfx (he.choose_spec.trans h.symm)
theorem yex {i j:Nat} (h:i≤j) (m:Nat):m*2^j=m*2^(j-i)*2^i:=by rw[Nat.mul_assoc,←Nat.pow_add];congr 2;omega
theorem TK {r q:Nat} (h1:vl q≤vl r) (h2:vl r<2*vl q):∃d,vl d=vl r-vl q∧d≤r:=by
 have hr:=Nq r;have hq:=Nq q;rcases Nat.le_total (ex r) (ex q) with h | h
 · have e:vl r-vl q=(mg r-mg q*2^(ex q-ex r))*2^ex r:=by
    rw[Nat.mul_sub_right_distrib,←yex h];rfl
   rw[e];refine kK _ _ r om ?_;rw[←e];omega
 · have e:vl r-vl q=(mg r*2^(ex r-ex q)-mg q)*2^ex q:=by
    rw[Nat.mul_sub_right_distrib,←yex h];rfl
   have hp:0<2^ex q:=Nat.pow_pos de;have hlt:(mg r*2^(ex r-ex q)-mg q)*2^ex q<mg q*2^ex q:=by
    rw[←e];show _<vl q
    omega
   have hm:mg r*2^(ex r-ex q)-mg q<mg q:=Nat.lt_of_mul_lt_mul_right hlt;rw[e];refine kK _ _ r om ?_;rw[←e];omega
theorem rD {r q d:Nat} (hr:r<9218868437227405312) (hq:q<9218868437227405312) (hd:d<9218868437227405312) (h:vl d+vl q=vl r):aR .sub r q=some d:=by
 have hrr:rg r=r∧ng r=false:=by have:=vj false r (Nat.lt_trans hr de);exact ⟨this.1,this.2.1⟩
 have hqq:rg q=q∧ng q=false:=by have:=vj false q (Nat.lt_trans hq de);exact ⟨this.1,this.2.1⟩
 have aP1:q<18446744073709551616:=Nat.lt_trans hq de;obtain ⟨n1,n2,n3⟩:=zdk aP1;rw[uW aP1 (decide_eq_false (by rw[hqq.1];omega))];have e1:sv r=(vl r:Int):=by rw[sv,hrr.2,hrr.1];rfl
 have e2:sv (qg q)= -(vl q:Int):=by rw[sv,n2,n1,hqq.2,hqq.1];rfl
 rw[Nr (r:=d) (by rw[hrr.1];exact hr) (by rw[n1,hqq.1];exact hq) hd (by rw[e1,e2];omega)];congr 1
 have:(if sv r+sv (qg q)=0 then ng r&&ng (qg q) else decide (sv r+sv (qg q)<0))=false:=by
  split
  · rw[hrr.2];rfl
  · exact decide_eq_false (by rw[e1,e2];omega)
 rw[this];rfl
theorem GQ {s:Bool} {q r:Nat} (hq:q<9218868437227405312) (hr:r<9218868437227405312) (h:vl q=2*vl r):aR .quo (double.word s q) 4611686018427387904=some (double.word s r):=by
 obtain ⟨w1,w2,_⟩:=vj s q (Nat.lt_trans hq de);have hc:double.read 4611686018427387904= .number false 4503599627370496 (-51):=by decide +kernel
 simp only[aR,Format.div,vd (b:=double.word s q) (by rw[w1];exact hq),hc,w1,w2,Datum.quotient]
 have hfr:double.fractionBits=52:=rfl;have hl2:Nat.log2 4503599627370496=52:=by decide +kernel
 rw[if_neg de,hfr,hl2,Option.map_some];congr 1
 obtain ⟨m,hm⟩:∃m,m=52+2+52-(mg q).log2:=⟨_,rfl⟩;have hml:(mg q).log2≤52:=by
  by_cases h0:mg q=0
  · rw[h0];decide
  · have:=(Nat.log2_lt (k:=53) h0).2 (Nq q);omega
 have hm2:54≤m:=om;rw[←hm,Nat.shiftLeft_eq];have e0:mg q*2^m=mg q*2^(m-52)*4503599627370496:=by
  rw[show (4503599627370496:Nat)=2^52 from rfl,Nat.mul_assoc,←Nat.pow_add];congr 2;omega
 have e1:mg q*2^m/4503599627370496=mg q*2^(m-52):=by rw[e0];exact Nat.mul_div_cancel _ de
 have e2:mg q*2^m%4503599627370496=0:=by rw[e0];exact Nat.mul_mod_left _ _
 rw[e1,e2];rw[Bool.xor_false,zqv (u:=ex q+51) (d:=m+1) hr om ?_];show (2*(mg q*2^(m-52))+0)*2^(ex q+51)=vl r*2^(m+1)
 have e3:vl r*2^(m+1)=2*vl r*2^m:=by rw[Nat.pow_succ,Nat.mul_comm (2^m) 2,←Nat.mul_assoc,Nat.mul_comm (vl r) 2]
 rw[e3,←h,vl,Nat.add_zero,Nat.mul_assoc (mg q),←Nat.pow_add,←Nat.mul_assoc,Nat.mul_comm 2 (mg q),Nat.mul_assoc,Nat.mul_assoc,←Nat.pow_add,←Nat.pow_succ'];congr 2
 omega
theorem Bp {s:Bool} {q r:Nat} (hq:q<9218868437227405312) (hr:r<9218868437227405312) (h:vl r=2*vl q):aR .mul (double.word s q) 4611686018427387904=some (double.word s r):=by
 obtain ⟨w1,w2,_⟩:=vj s q (Nat.lt_trans hq de);have hc:rg 4611686018427387904=4611686018427387904∧ng 4611686018427387904=false∧vl 4611686018427387904=2*2^1074:=by decide +kernel
 have:=qqx (a:=double.word s q) (b:=4611686018427387904) (r:=r) (by rw[w1];exact hq) (by rw[hc.1];decide) hr (fun P hP=>by
  rewrite [w1,hc.1,hc.2.2,←hP,h]
  exact Nat.mul_left_comm _ _ _ |>.trans (Nat.mul_assoc _ _ _).symm)
 rw[this,w2,hc.2.1,Bool.xor_false]
def Bq (r y:Nat):Nat:=(ex (nr r)+nd y)-(ex (nr y)+nd r)-(if mg (nr r)<mg (nr y) then 1 else 0)
theorem vlz {r y:Nat} (hy:y≠0) (h:y≤r) :
 ex (nr y)+nd r+(if mg (nr r)<mg (nr y) then 1 else 0)≤ex (nr r)+nd y∧vl y*2^Bq r y≤vl r∧vl r<2*(vl y*2^Bq r y):=by
 have hr:r≠0:=om;obtain ⟨r1,r2⟩:=qbv hr;obtain ⟨y1,y2⟩:=qbv hy;have er:=qbz hr;have ey:=qbz hy;have hv:vl y≤vl r:=vev.2 h;obtain ⟨R,hR⟩:∃R,R=mg (nr r):=⟨_,rfl⟩;obtain ⟨Y,hY⟩:∃Y,Y=mg (nr y):=⟨_,rfl⟩;obtain ⟨A,hA⟩:∃A,A=ex (nr r)+nd y:=⟨_,rfl⟩;obtain ⟨B,hB⟩:∃B,B=ex (nr y)+nd r:=⟨_,rfl⟩;rw[←hR] at r1 r2 er;rw[←hY] at y1 y2 ey;have e1:vl r*2^(nd r+nd y)=R*2^A:=by rw[Nat.pow_add,←Nat.mul_assoc,←er,Nat.mul_assoc,←Nat.pow_add,hA]
 have e2:vl y*2^(nd r+nd y)=Y*2^B:=by rw[Nat.add_comm,Nat.pow_add,←Nat.mul_assoc,←ey,Nat.mul_assoc,←Nat.pow_add,hB]
 have hp:0<2^(nd r+nd y):=Nat.pow_pos de;have hle:Y*2^B≤R*2^A:=by rw[←e1,←e2];exact Nat.mul_le_mul_right _ hv
 have pA:0<2^A:=Nat.pow_pos de;have pB:0<2^B:=Nat.pow_pos de;have hAB:B+(if R<Y then 1 else 0)≤A:=by
  by_cases hc:R<Y
  · rw[if_pos hc];rcases Nat.lt_or_ge B A with h' | h'
    · omega
    · exfalso
      have h3:2^A≤2^B:=Nat.pow_le_pow_right de h';have h4:R*2^A≤R*2^B:=Nat.mul_le_mul_left _ h3;have h5:R*2^B<Y*2^B:=Nat.mul_lt_mul_of_pos_right hc pB;omega
  · rw[if_neg hc];rcases Nat.lt_or_ge A B with h' | h'
    · exfalso
      have h3:2^(A+1)≤2^B:=Nat.pow_le_pow_right de h';have h4:Y*2^(A+1)≤Y*2^B:=Nat.mul_le_mul_left _ h3;rw[Nat.pow_succ,Nat.mul_comm (2^A) 2,←Nat.mul_assoc] at h4;have h5:R*2^A<Y*2*2^A:=Nat.mul_lt_mul_of_pos_right om pA;omega
    · omega
 have hk:Bq r y=A-B-(if R<Y then 1 else 0):=by rw[Bq,←hR,←hY,←hA,←hB]
 obtain ⟨K,hK⟩:∃K,K=A-B-(if R<Y then 1 else 0):=⟨_,rfl⟩;rw[hk,←hK];refine ⟨by rw[←hA,←hB,←hR,←hY];exact hAB,?_,?_⟩
 · refine Nat.le_of_mul_le_mul_right (c:=2^(nd r+nd y)) ?_ hp;rw[Nat.mul_right_comm,e1,e2,Nat.mul_assoc,←Nat.pow_add];by_cases hc:R<Y
   · rw[if_pos hc] at hK hAB;have e:A=B+K+1:=om;rw[e,Nat.pow_succ,Nat.mul_comm (2^(B+K)) 2,←Nat.mul_assoc];exact Nat.mul_le_mul_right _ om
   · rw[if_neg hc] at hK hAB;have e:A=B+K:=om;rw[e];exact Nat.mul_le_mul_right _ om
 · refine Nat.lt_of_mul_lt_mul_right (a:=2^(nd r+nd y)) ?_;rw[Nat.mul_assoc 2,Nat.mul_right_comm (vl y),e1,e2,Nat.mul_assoc,←Nat.pow_add];have pBK:0<2^(B+K):=Nat.pow_pos de;by_cases hc:R<Y
   · rw[if_pos hc] at hK hAB;have e:A=B+K+1:=om;rw[e,Nat.pow_succ,Nat.mul_comm (2^(B+K)) 2,←Nat.mul_assoc,←Nat.mul_assoc,Nat.mul_comm 2 Y,Nat.mul_comm R 2,Nat.mul_comm Y 2];exact Nat.mul_lt_mul_of_pos_right om pBK
   · rw[if_neg hc] at hK hAB;have e:A=B+K:=om;rw[e,←Nat.mul_assoc];exact Nat.mul_lt_mul_of_pos_right om pBK
theorem kL {r y:Nat} (hr:r<9218868437227405312) (hy:y≠0) (h:y≤r) :
 ∃q d,q≤r∧q≠0∧d≤r∧vl q=vl y*2^Bq r y∧vl d+vl q=vl r∧vl d%vl y=vl r%vl y∧d<r∧Bq r y<4096:=by
 obtain ⟨h1,h2,h3⟩:=vlz hy h;obtain ⟨q,hq,Gp⟩:=kK (mg y) (ex y+Bq r y) r (Nq y) (by rw[Nat.pow_add,←Nat.mul_assoc];exact h2);have hq':vl q=vl y*2^Bq r y:=by rw[hq,Nat.pow_add,←Nat.mul_assoc];rfl
 obtain ⟨d,hd,hdl⟩:=TK (r:=r) (q:=q) (by rw[hq'];exact h2) (by rw[hq'];exact h3);have hyv:0<vl y:=by
  rcases Nat.eq_zero_or_pos (vl y) with h' | h'
  · exact absurd (ywq.1 h') hy
  · exact h'
 have hp:0<2^Bq r y:=Nat.pow_pos de;have hqp:0<vl q:=by rw[hq'];exact Nat.mul_pos hyv hp
 have hsum:vl d+vl q=vl r:=by rw[hd];rw[←hq'] at h2;omega
 have hlt:d<r:=NA.1 om;refine ⟨q,d,Gp,fun e=>by subst e;rw[LV] at hqp;omega,hdl,hq',hsum,?_,hlt,?_⟩
 · rw[←hsum,hq',Nat.mul_comm (vl y),Nat.add_mul_mod_self_right]
 · have hex:ex (nr r)≤2045:=by
    have:=yrx (r:=r) om hr;unfold ex;split<;>omega
   have hnd:nd y≤52:=by unfold nd;split<;>omega
   unfold Bq;omega
end Go.Proofs.YtmnmebdmpigddaaGreatDoor

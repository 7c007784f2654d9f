/- Texts of this claim. -/
import Derived.Test.YtdofcnodhgaedaaGreatDoorG5
import Derived.Laws.Externs
import Derived.Laws.FloatArith
set_option maxRecDepth 100000
namespace Go.Proofs.YtdofcnodhgaedaaGreatDoor
open Go.RowKit
def mO (P:Program) (f:FuncId) (e:Array Value→Sem Value):Prop:=∃fn,P.funcs[f]? =some fn∧(fn.name== "runtime.NumGoroutine")=false∧fn.body.isNone=true∧Extern.findNext fn=none∧Extern.find fn=some e
def eD (r:Nat):Prop:=∃s t,s<2∧t<4503599627370495∧r=s*9223372036854775808+9218868437227405312+1+t
def gI (z:Option Nat) (r:Nat) (w w':World):Prop:=(z=some r∧w'=w)∨(z=none∧eD r∧w'=w.drew)
theorem gI.ext {z:Option Nat} {r:Nat} {w w':World} (h:gI z r w w'):Ext No w w':=by
 rcases h with ⟨_,rfl⟩ | ⟨_,_,rfl⟩
 · exact Ext.refl _ _
 · exact ⟨rfl,rfl,rfl,Nat.le_refl _,fun _ _ _=>rfl⟩
theorem eD.lt {r:Nat} (h:eD r):r<18446744073709551616:=by obtain ⟨s,t,h1,h2,rfl⟩:=h;omega
section
variable {P:Program} {N:Nat} {ops:Array Oper} {Q:Exit→Act→World→Prop} {σ:Env} {w:World} {ty:TypeId} {pos:String} {af:Array Edge} {dst:Option Nat} {Post:Value→World→Prop}
theorem iR {xs:List Operand} {ts:Array TypeId} {f:FuncId} {args:List Value} {e:Array Value→Sem Value} {v:Value} {w':World} (hf:mO P f e) (ha:evs σ xs=some args)
 (hr:(e args.toArray).run P w= .ok v w') (k:Post v w'):OW P N ops Q ⟨dst,.call ⟨.value (.func f),xs.toArray,ts⟩,ty,pos,af,none⟩ σ w Post:=by
 intro a hat;rw[if_pos (by simp[Region.wanted])];unfold Oper.wp;have hargs:xs.toArray.map a.eval=args.toArray:=by
  apply Array.toList_inj.1
  rw[Array.toList_map];exact qB hat ha
 obtain ⟨fn,h1,h2,h3,h4,h5⟩:=hf;have hc:=run_callFunc_extern h1 h2 h3 h4 h5 args.toArray w;rw[hr] at hc;have hrun:(execOp a.eval ⟨dst,.call ⟨.value (.func f),xs.toArray,ts⟩,ty,pos,af,none⟩).run P w= .ok (.value v) w':=by
  simp only[execOp,resolve,hargs,Deferred.ofValue,Act.eval,invoke,Sem.run_bind,Sem.run_pure,Result.andThen_ok]
  rw[Array.empty_append];exact hc
 rw[hrun];exact ⟨v,rfl,k⟩
def fq (op:BinOp) (a b:Nat):Option Nat:=match op with
 | .add=>Ieee.double.add a b
 | .sub=>Ieee.double.sub a b
 | .mul=>Ieee.double.mul a b
 | .quo=>Ieee.double.div a b
 | _=>none
theorem Qj (x y t:Nat):eD (Question.cut (.nanBits .f64 x y) t):=⟨t%2,(t/2)%4503599627370495,Nat.mod_lt _ de,Nat.mod_lt _ de,rfl⟩
theorem iT {op:BinOp} {T U:TypeId} {x y:Operand} {m n:Nat} (ho:op= .add∨op= .sub∨op= .mul∨op= .quo) (hx:ev σ x=some (.float .f64 m)) (hy:ev σ y=some (.float .f64 n))
 (k:∀r w',gI (fq op m n) r w w'→Post (.float .f64 r) w'):OW P N ops Q ⟨dst,.binOp op T x y U,ty,pos,af,none⟩ σ w Post:=by
 have key:∃r w',gI (fq op m n) r w w'∧ ∀ρ:Operand→Value,(∀ {x v},ev σ x=some v→ρ x=v)→(execOp ρ ⟨dst,.binOp op T x y U,ty,pos,af,none⟩).run P w= .ok (.value (.float .f64 r)) w':=by
  cases hz:fq op m n with
  | some r=>
   refine ⟨r,w,.inl ⟨rfl,rfl⟩,fun ρ ha=>?_⟩;rcases ho with rfl | rfl | rfl | rfl<;>simp only[fq] at hz<;>simp[execOp,ha hx,ha hy,binOp,eqGuard,Op.floatArith,FloatKind.format,hz,go_sem]
  | none=>
   refine ⟨_,w.drew,.inr ⟨rfl,Qj m n (w.tape w.drawn (.nanBits .f64 m n)),rfl⟩,fun ρ ha=>?_⟩;rcases ho with rfl | rfl | rfl | rfl<;>simp only[fq] at hz<;>simp[execOp,ha hx,ha hy,binOp,eqGuard,Op.floatArith,FloatKind.format,hz,choose,go_sem]<;>rfl
 obtain ⟨r,w',h1,h2⟩:=key;exact zt h2 (k r w' h1)
def kd (a b:Nat):Option Ordering:=Ieee.double.order a b
theorem Er {T U:TypeId} {x y:Operand} {m n:Nat} (hx:ev σ x=some (.float .f64 m)) (hy:ev σ y=some (.float .f64 n)) (k:Post (.bool (kd m n==some .eq)) w):OW P N ops Q ⟨dst,.binOp .eql T x y U,ty,pos,af,none⟩ σ w Post:=
 zt (fun ρ ha=>by simp[execOp,ha hx,ha hy,binOp,eqGuard,Op.floatCmp,FloatKind.format,kd,go_sem]) k
theorem Qk {T U:TypeId} {x y:Operand} {m n:Nat} (hx:ev σ x=some (.float .f64 m)) (hy:ev σ y=some (.float .f64 n)) (k:Post (.bool (kd m n !=some .eq)) w):OW P N ops Q ⟨dst,.binOp .neq T x y U,ty,pos,af,none⟩ σ w Post:=
 zt (fun ρ ha=>by simp[execOp,ha hx,ha hy,binOp,eqGuard,Op.floatCmp,FloatKind.format,kd,go_sem]) k
theorem qbx {T U:TypeId} {x y:Operand} {m n:Nat} (hx:ev σ x=some (.float .f64 m)) (hy:ev σ y=some (.float .f64 n)) (k:Post (.bool (kd m n==some .lt)) w):OW P N ops Q ⟨dst,.binOp .lss T x y U,ty,pos,af,none⟩ σ w Post:=
 zt (fun ρ ha=>by simp[execOp,ha hx,ha hy,binOp,eqGuard,Op.floatCmp,FloatKind.format,kd,go_sem]) k
theorem Es {T U:TypeId} {x y:Operand} {m n:Nat} (hx:ev σ x=some (.float .f64 m)) (hy:ev σ y=some (.float .f64 n)) (k:Post (.bool (kd m n==some .gt)) w):OW P N ops Q ⟨dst,.binOp .gtr T x y U,ty,pos,af,none⟩ σ w Post:=
 zt (fun ρ ha=>by simp[execOp,ha hx,ha hy,binOp,eqGuard,Op.floatCmp,FloatKind.format,kd,go_sem]) k
theorem Kt {T e:TypeId} {x y:Operand} {z:Value} {b n base:Nat} {k1 k2:IntKind} {m2:Int} (hd:P.underlying T=some (.slice e)) (hi:iK P e z 1 b) (hz:z.cells= #[z]) (hx:ev σ x=some (.int k1 0)) (hy:ev σ y=some (.int k2 m2)) (e2:m2=(n:Int)) (hb:b*n≤140737488355328) (hn:n≤9223372036854775807)
 (hbase:base≤w.heap.size) (hm:n≤maxLen)
 (k:∀g w',World.ownsRow w' base e 1 (.slice (some ⟨g,0,none⟩) 0 n) 0 []→Ext No w w'→w.heap.size≤g→Post (.slice (some ⟨g,0,none⟩) 0 n) w'):OW P N ops Q ⟨dst,.makeSlice T x y,ty,pos,af,none⟩ σ w Post:=
 zt (v:=.slice (some ⟨w.heap.size,0,none⟩) 0 n) (w':=w.alloc (.cells (madeCells #[z] n) e)) (fun ρ ha=>by
  subst e2;obtain ⟨i,hi1,hi2⟩:=Option.map_eq_some_iff.1 hi;simp only[Prod.mk.injEq] at hi2
  obtain ⟨q1,q2,q3⟩:=hi2;have hb':(i.bytes:Int)*(n:Int)≤281474976710656:=by
   have h:((i.bytes*n:Nat):Int)≤281474976710656:=by rw[q3];omega
   rwa [Int.natCast_mul] at h
  have h:=run_make (P:=P) w T e i z hd hi1 q1 k1 k2 0 n om om hb' om;simp only[Int.toNat_natCast,q2,Nat.mul_one,hz] at h
  simp only[execOp,ha hx,ha hy,Sem.run_bind,Sem.run_pure]
  simp only[Int.toNat_zero] at h
  rw[h];rfl) (by
   refine k w.heap.size (w.alloc (.cells (madeCells #[z] n) e)) ⟨rfl,Or.inr ⟨w.heap.size,n,madeCells #[z] n,rfl,hbase,?_,Nat.zero_le _,hm,?_,?_⟩⟩ ((Ext.refl _ _).alloc _) (Nat.le_refl _)
   · exact aA.new w e (madeCells #[z] n)
   · simp[madeCells]
   · rw[Nat.zero_mul,List.take_zero])
end
end Go.Proofs.YtdofcnodhgaedaaGreatDoor
namespace Go.Proofs.YtdofcnodhgaedaaGreatDoor
open Ieee
theorem KH {P:Prop} (h:P:=by
 obtain ⟨z,h1,rfl⟩:=Option.map_eq_some_iff.1 h;exact yqz (Qv h1)):P:=h
def rg (b:Nat):Nat:=b%9223372036854775808
def ng (b:Nat):Bool:=b/9223372036854775808%2==1
def mg (r:Nat):Nat:=if r<4503599627370496 then r else 4503599627370496+r%4503599627370496
def ex (r:Nat):Nat:=if r<4503599627370496 then 0 else r/4503599627370496-1
def vl (r:Nat):Nat:=mg r*2^ex r
theorem c1:double.signWeight=9223372036854775808:=by decide +kernel
theorem c2:double.binade=4503599627370496:=by decide +kernel
theorem c3:double.infRung=9218868437227405312:=by decide +kernel
theorem c4:double.leastPlace= -1074:=by decide +kernel
theorem xw {b:Nat} (h:rg b<9218868437227405312):double.read b= .number (ng b) (mg (rg b)) (-1074+(ex (rg b):Int)):=by
 unfold Format.read;simp only[c1,c2,c3,c4]
 show (if rg b<4503599627370496 then _ else if rg b<9218868437227405312 then _ else _)=_
 by_cases h1:rg b<4503599627370496
 · rw[if_pos h1,mg,ex,if_pos h1,if_pos h1];rfl
 · rw[if_neg h1,if_pos h,mg,ex,if_neg h1,if_neg h1];rfl
theorem zlz {b:Nat} (h:rg b=9218868437227405312):double.read b= .infinity (ng b):=by
 unfold Format.read;simp only[c1,c2,c3,c4]
 show (if rg b<4503599627370496 then _ else if rg b<9218868437227405312 then _ else if rg b=9218868437227405312 then _ else _)=_
 rw[if_neg (by rw[h];decide),if_neg (by rw[h];decide),if_pos h];rfl
theorem iX {b:Nat} (h:9218868437227405312<rg b):double.read b= .nan (ng b) (rg b-9218868437227405312):=by
 unfold Format.read;simp only[c1,c2,c3,c4]
 show (if rg b<4503599627370496 then _ else if rg b<9218868437227405312 then _ else if rg b=9218868437227405312 then _ else _)=_
 have h0:4503599627370496<9218868437227405312:=de;rw[if_neg om,if_neg om,if_neg om];rfl
def aY (b:Nat):Bool:=decide (9218868437227405312<rg b)
theorem iY {r s:Nat} (h:r<s):vl r<vl s:=by
 have key:∀r,vl r<vl (r+1):=by
  intro r;unfold vl mg ex;by_cases h1:r+1<4503599627370496
  · rw[if_pos h1,if_pos h1,if_pos om,if_pos om];omega
  · by_cases h2:r<4503599627370496
    · have h3:r+1=4503599627370496:=om;rw[if_pos h2,if_pos h2,h3,if_neg om,if_neg om];simp
      omega
    · rw[if_neg h1,if_neg h1,if_neg h2,if_neg h2];by_cases h3:(r+1)%4503599627370496=0
      · have e1:(r+1)/4503599627370496=r/4503599627370496+1:=om;have e2:r%4503599627370496=4503599627370496-1:=om;obtain ⟨k,hk⟩:∃k,r/4503599627370496=k+1:=⟨r/4503599627370496-1,om⟩;rw[h3,e1,e2,hk,show k+1+1-1=k+1 from om,show k+1-1=k from om,Nat.pow_succ,←Nat.mul_assoc,Nat.mul_right_comm];have h0:0<2^k:=Nat.pow_pos de;exact Nat.mul_lt_mul_of_pos_right om h0
      · have e1:(r+1)/4503599627370496=r/4503599627370496:=om;have e2:(r+1)%4503599627370496=r%4503599627370496+1:=om;rw[e1,e2];exact Nat.mul_lt_mul_of_pos_right om (Nat.pow_pos de)
 obtain ⟨d,rfl⟩:∃d,s=r+1+d:=⟨s-r-1,om⟩;clear h;induction d with
 | zero=>exact key r
 | succ d ih=>exact Nat.lt_trans ih (key _)
theorem xt:vl 0=0:=de
theorem iZ {r s:Nat} (h:vl r=vl s):r=s:=by
 rcases Nat.lt_trichotomy r s with h1 | h1 | h1
 · have:=iY h1;omega
 · exact h1
 · have:=iY h1;omega
def pc (b:Nat):Int:=if ng b then -(rg b:Int) else (rg b:Int)
def sv (b:Nat):Int:=if ng b then -(vl (rg b):Int) else (vl (rg b):Int)
theorem ae1 (a b:Nat):(sv a<sv b↔pc a<pc b)∧(sv a=sv b↔pc a=pc b):=by
 have h1:=@iY (rg a) (rg b);have h2:=@iY (rg b) (rg a);have h3:=@iZ (rg a) (rg b);have h4:vl (rg a)=0→rg a=0:=fun h=>iZ (by rw[h,xt]);have h5:vl (rg b)=0→rg b=0:=fun h=>iZ (by rw[h,xt]);have h6:rg a=0→vl (rg a)=0:=fun h=>by rw[h,xt]
 have h7:rg b=0→vl (rg b)=0:=fun h=>by rw[h,xt]
 have h8:rg a=rg b→vl (rg a)=vl (rg b):=fun h=>by rw[h]
 unfold sv pc;generalize vl (rg a)=x at *
 generalize vl (rg b)=y at *
 cases ng a<;>cases ng b<;>simp only[Bool.false_eq_true,if_true,if_false]<;>constructor<;>constructor<;>intro h<;>omega
def mP (x y:Int):Ordering:=if x<y then .lt else if x=y then .eq else .gt
theorem Qw (x y:Int):compare x y=mP x y:=rfl
theorem BJ {x y:Int} {c:Nat} (hc:0<c):mP (x*c) (y*c)=mP x y:=by
 unfold mP;have h:(0:Int)<c:=om;have e1:x*(c:Int)<y*(c:Int)↔x<y:=⟨fun k=>Int.lt_of_mul_lt_mul_right k om,fun k=>Int.mul_lt_mul_of_pos_right k h⟩;have e2:x*(c:Int)=y*(c:Int)↔x=y:=⟨fun k=>Int.eq_of_mul_eq_mul_right om k,fun k=>by rw[k]⟩;simp only[e1,e2]
theorem Qx (a b:Nat):mP (sv a) (sv b)=mP (pc a) (pc b):=by
 obtain ⟨h1,h2⟩:=ae1 a b;unfold mP;simp only[h1,h2]
theorem yjx (s:Bool) (m k l:Nat):signed s m k*((2^l:Nat):Int)=if s then -((m*2^(k+l):Nat):Int) else ((m*2^(k+l):Nat):Int):=by
 unfold signed;rw[Nat.shiftLeft_eq,Nat.pow_add,←Nat.mul_assoc];cases s
 · simp
 · simp[Int.neg_mul]
theorem KI {a b:Nat} (ha:rg a<9218868437227405312) (hb:rg b<9218868437227405312):kd a b=some (mP (pc a) (pc b)):=by
 rw[kd,Format.order,xw ha,xw hb];simp only[Datum.order]
 rw[Qw,←Qx];obtain ⟨c,hc⟩:∃c,c=min (ex (rg a)) (ex (rg b)):=⟨_,rfl⟩;have e1:((-1074+(ex (rg a):Int))-min (-1074+(ex (rg a):Int)) (-1074+(ex (rg b):Int))).toNat=ex (rg a)-c:=om;have e2:((-1074+(ex (rg b):Int))-min (-1074+(ex (rg a):Int)) (-1074+(ex (rg b):Int))).toNat=ex (rg b)-c:=om;rw[e1,e2,←BJ (c:=2^c) (Nat.pow_pos de),yjx,yjx,show ex (rg a)-c+c=ex (rg a) from om,show ex (rg b)-c+c=ex (rg b) from om];unfold sv vl;rfl
theorem ycq {x y:Int} (h:x<y):mP x y= .lt:=if_pos h
theorem yoz {x y:Int} (h:y<x):mP x y= .gt:=by rw[mP,if_neg om,if_neg om]
theorem ycz (x:Int):mP x x= .eq:=by rw[mP,if_neg om,if_pos rfl]
theorem XK (b:Nat):(ng b=true→pc b= -(rg b:Int))∧(ng b=false→pc b=(rg b:Int)):=by
 unfold pc;cases ng b<;>simp
theorem U6 (b:Nat):rg b<9223372036854775808:=Nat.mod_lt _ de
theorem      zmq {a b : Nat} (ha :  aY a = false) (hb :  aY b = false) :   kd a b = some (  mP (pc a) (pc b)) := by
  have ha' : ¬ 9218868437227405312 < rg a := of_decide_eq_false ha
  have hb' : ¬ 9218868437227405312 < rg b := of_decide_eq_false hb
  by_cases h1 : rg a < 9218868437227405312
  · by_cases h2 : rg b < 9218868437227405312
    · exact       KI h1 h2
    · have h3 : rg b = 9218868437227405312 := by omega
      obtain ⟨p1, p2⟩ :=     XK a
      obtain ⟨p3, p4⟩ :=     XK b
      rw [  kd, Format.order,       xw h1,      zlz h3]
      simp only [Datum.order]
      cases hb2 : ng b
      · have h5 := p4 hb2
        rw [    ycq (by rw [h5, h3]; cases ha2 : ng a; · rw [p2 ha2]; omega
                        · rw [p1 ha2]; omega)]
        rfl
      · have h5 := p3 hb2
        rw [    yoz (by rw [h5, h3]; cases ha2 : ng a; · rw [p2 ha2]; omega
                        · rw [p1 ha2]; omega)]
        rfl
  · have h3 : rg a = 9218868437227405312 := by omega
    obtain ⟨p1, p2⟩ :=     XK a
    obtain ⟨p3, p4⟩ :=     XK b
    by_cases h2 : rg b < 9218868437227405312
    · rw [  kd, Format.order,      zlz h3,       xw h2]
      simp only [Datum.order]
      cases ha2 : ng a
      · have h5 := p2 ha2
        rw [    yoz (by rw [h5, h3]; cases hb2 : ng b; · rw [p4 hb2]; omega
                        · rw [p3 hb2]; omega)]
        rfl
      · have h5 := p1 ha2
        rw [    ycq (by rw [h5, h3]; cases hb2 : ng b; · rw [p4 hb2]; omega
                        · rw [p3 hb2]; omega)]
        rfl
    · have h4 : rg b = 9218868437227405312 := by omega
      rw [  kd, Format.order,      zlz h3,      zlz h4]
      simp only [Datum.order]
      cases ha2 : ng a <;> cases hb2 : ng b
      · rw [p2 ha2, p4 hb2, h3, h4,       ycz]; rfl
      · rw [p2 ha2, p3 hb2, h3, h4,     yoz (by omega)]; rfl
      · rw [p1 ha2, p4 hb2, h3, h4,     ycq (by omega)]; rfl
      · rw [p1 ha2, p3 hb2, h3, h4,       ycz]; rfl
theorem U7 {a b:Nat} (h:aY a=true∨aY b=true):kd a b=none:=by
 rw[kd,Format.order];rcases h with h | h
 · rw[iX (of_decide_eq_true h)];rfl
 · rw[iX (of_decide_eq_true h)];cases double.read a<;>rfl
theorem ji (n:Bool) (r:Nat) (h:r<9223372036854775808):rg (double.word n r)=r∧ng (double.word n r)=n∧double.word n r<18446744073709551616:=by
 unfold Format.word rg ng;rw[c1];cases n
 · simp only[Bool.false_eq_true,if_false]
   refine ⟨Nat.mod_eq_of_lt h,?_,om⟩;rw[Nat.div_eq_of_lt h];rfl
 · simp only[if_true]
   refine ⟨om,?_,om⟩;rw[show (9223372036854775808+r)/9223372036854775808=1 from om];rfl
theorem yqz {d:Datum} (h:d.isNaN=false):aY (double.write d)=false∧double.write d<18446744073709551616:=by
 have h0:9218868437227405312<9223372036854775808:=de;have key:∀n r,r≤9218868437227405312→aY (double.word n r)=false∧double.word n r<18446744073709551616:=fun n r hr=>by
  obtain ⟨h1,_,h3⟩:=ji n r om;exact ⟨decide_eq_false (by rw[h1];omega),h3⟩
 cases d with
 | number n m p=>
  show aY (double.nearest n m p)=false∧double.nearest n m p<18446744073709551616
  unfold Format.nearest;split
  · exact key _ _ (Nat.zero_le _)
  · simp only[]
    exact key _ _ (Nat.le_trans (Nat.min_le_right _ _) (by rw[c3];exact Nat.le_refl _))
 | infinity n=>exact key _ _ (by rw[c3];exact Nat.le_refl _)
 | nan n f=>cases h
theorem Qv {x y z:Datum} (h:x.sum y=some z):z.isNaN=false:=by
 cases x<;>cases y<;>simp only[Datum.sum] at h
 all_goals first | cases h;rfl | (split at h<;>cases h;rfl) | cases h
theorem uI {x y z:Datum} (h:x.product y=some z):z.isNaN=false:=by
 cases x<;>cases y<;>simp only[Datum.product] at h
 all_goals first | cases h;rfl | (split at h<;>cases h;rfl) | cases h
theorem qO {k:Nat} {x y z:Datum} (h:x.quotient k y=some z):z.isNaN=false:=by
 cases x<;>cases y<;>simp only[Datum.quotient] at h
 all_goals first | cases h;rfl | (split at h<;>first | cases h;rfl | (split at h<;>cases h;rfl) | cases h) | cases h
theorem Qy {op:BinOp} {a b r:Nat} (h:fq op a b=some r):aY r=false∧r<18446744073709551616:=by
 unfold fq at h;cases op<;>simp only[reduceCtorEq] at h
 · exact KH
 · exact KH
 · obtain ⟨z,h1,rfl⟩:=Option.map_eq_some_iff.1 h;exact yqz (uI h1)
 · obtain ⟨z,h1,rfl⟩:=Option.map_eq_some_iff.1 h;exact yqz (qO h1)
theorem Eu {r:Nat} (h:eD r):aY r=true:=by
 obtain ⟨s,t,h1,h2,rfl⟩:=h;apply decide_eq_true
 unfold rg;omega
def Ev (b:Nat):Nat:=b ^^^ 9223372036854775808
theorem sub_self {a:Nat} (hn:aY a=false):fq .sub a a=if rg a=9218868437227405312 then none else some 0:=by
 have hn':¬9218868437227405312<rg a:=of_decide_eq_false hn;by_cases h3:rg a<9218868437227405312
 · rw[if_neg om];simp only[fq,Format.sub,xw h3,Datum.opposite,Datum.sum]
   have e:signed (ng a) (mg (rg a)) ((-1074+(ex (rg a):Int))-min (-1074+(ex (rg a):Int)) (-1074+(ex (rg a):Int))).toNat+signed (!ng a) (mg (rg a)) ((-1074+(ex (rg a):Int))-min (-1074+(ex (rg a):Int)) (-1074+(ex (rg a):Int))).toNat=0:=by
    unfold signed;cases ng a<;>simp
    all_goals omega
   rw[e];cases ng a<;>rfl
 · have h4:rg a=9218868437227405312:=om;rw[if_pos h4];simp only[fq,Format.sub,zlz h4,Datum.opposite,Datum.sum]
   cases ng a<;>rfl
theorem Ew {b:Nat} (h:b<18446744073709551616):ng b=decide (9223372036854775808≤b):=by
 unfold ng;rcases Nat.lt_or_ge b 9223372036854775808 with h1 | h1
 · rw[Nat.div_eq_of_lt h1,decide_eq_false om];rfl
 · rw[show b/9223372036854775808=1 from om,decide_eq_true h1];rfl
theorem Gy {a b:Nat} (ha:a<18446744073709551616) (hb:b<18446744073709551616) (h1:rg a=rg b) (h2:ng a=ng b):a=b:=by
 rw[Ew ha,Ew hb] at h2;have h3:=decide_eq_decide.1 h2;unfold rg at h1;omega
theorem ob {m k:Nat} (h:m≠0):(m*2^k).log2=m.log2+k:=by
 have hp:0<2^k:=Nat.pow_pos de;have h1:=Nat.log2_self_le h;have h2:=@Nat.lt_log2_self m;refine (Nat.log2_eq_iff (by exact Nat.mul_ne_zero h om)).2 ⟨?_,?_⟩
 · rw[Nat.pow_add];exact Nat.mul_le_mul_right _ h1
 · rw[show m.log2+k+1=(m.log2+1)+k from om,Nat.pow_add];exact Nat.mul_lt_mul_of_pos_right h2 hp
theorem zjq {m k:Nat} (h1:2^k≤m) (h2:m<2^(k+1)):m.log2=k:=(Nat.log2_eq_iff (by have:0<2^k:=Nat.pow_pos de;omega)).2 ⟨h1,h2⟩
theorem nR (s:Bool) (n t:Nat) (hn:n≠0):Toward.even.cut s (n*2^t) t=n:=by
 have hl:=ob (k:=t) hn;unfold Toward.cut;rw[hl,show min t (n.log2+t+2)=t from om,Nat.shiftLeft_eq,Nat.one_mul];have hp:0<2^t:=Nat.pow_pos de;have e1:n*2^t/2^t=n:=Nat.mul_div_cancel _ hp;have e2:n*2^t%2^t=0:=Nat.mul_mod_left _ _;simp only[e1,e2]
 have h3:¬(2^t<2*0):=om;have h4:(2^t==2*0)=false:=beq_false_of_ne om;rw[h4,decide_eq_false h3];rfl
theorem uT (r:Nat):mg r<9007199254740992:=by
 unfold mg;split
 · omega
 · omega
theorem KT {r:Nat} (h:4503599627370496≤r):4503599627370496≤mg r:=by unfold mg;rw[if_neg om];omega
theorem XU {r:Nat} (h:r≠0):mg r≠0:=by
 unfold mg;split<;>omega
theorem EG {r:Nat}:ex r*4503599627370496+mg r=r:=by
 unfold ex mg;split
 · omega
 · omega
theorem yvv {s:Bool} {m u d r:Nat} {p:Int} (hr:r<9218868437227405312) (hp:p= -1074+(u:Int)-(d:Int)) (h:m*2^u=vl r*2^d):double.write (.number s m p)=double.word s r:=by
 show double.nearest s m p=_
 unfold Format.nearest;have hpu:0<2^u:=Nat.pow_pos de;have hpd:0<2^d:=Nat.pow_pos de;by_cases hm:m=0
 · rw[if_pos hm];subst hm;have hv:vl r=0:=by
    rw[Nat.zero_mul] at h;rcases Nat.eq_zero_or_pos (vl r) with h' | h'
    · exact h'
    · have:=Nat.mul_pos h' hpd;omega
   have:r=0:=iZ (by rw[hv,xt]);rw[this]
 · rw[if_neg hm];have hr0:r≠0:=by
    intro e;subst e;rw[xt,Nat.zero_mul] at h;have:=Nat.mul_pos (Nat.pos_of_ne_zero hm) hpu;omega
   have hM:=XU hr0;have hML:=uT r;have h':m*2^u=mg r*2^(ex r+d):=by rw[h,vl,Nat.pow_add,Nat.mul_assoc]
   have ax5:m.log2+u=(mg r).log2+(ex r+d):=by rw[←ob hm,←ob hM,h']
   have hfr:double.fractionBits=52:=rfl;have hlast:max (p+(m.log2:Int)-(double.fractionBits:Int)) double.leastPlace= -1074+(ex r:Int):=by
    rw[c4,hfr];rcases Nat.lt_or_ge r 4503599627370496 with hs | hs
    · have he:ex r=0:=by unfold ex;rw[if_pos hs]
      have hms:(mg r).log2<52:=(Nat.log2_lt hM).2 (by unfold mg;rw[if_pos hs];exact hs);omega
    · have hl:(mg r).log2=52:=zjq (k:=52) (KT hs) (uT r);omega
   simp only[hlast]
   have hkept:Toward.even.cut s (m <<< (p-(-1074+(ex r:Int))).toNat) ((-1074+(ex r:Int))-p).toNat=mg r:=by
    rcases Nat.lt_or_ge u (ex r+d) with hc | hc
    · rw[show (p-(-1074+(ex r:Int))).toNat=0 from om,show ((-1074+(ex r:Int))-p).toNat=ex r+d-u from om];have e:m=mg r*2^(ex r+d-u):=by
       have:m*2^u=mg r*2^(ex r+d-u)*2^u:=by rw[h',Nat.mul_assoc,←Nat.pow_add];congr 2;omega
       exact Nat.eq_of_mul_eq_mul_right hpu this
      rw[Nat.shiftLeft_zero,e];exact nR s (mg r) _ hM
    · rw[show (p-(-1074+(ex r:Int))).toNat=u-(ex r+d) from om,show ((-1074+(ex r:Int))-p).toNat=0 from om,Nat.shiftLeft_eq];have e:m*2^(u-(ex r+d))=mg r:=by
       have hpe:0<2^(ex r+d):=Nat.pow_pos de;have:m*2^(u-(ex r+d))*2^(ex r+d)=mg r*2^(ex r+d):=by rw[←h',Nat.mul_assoc,←Nat.pow_add];congr 2;omega
       exact Nat.eq_of_mul_eq_mul_right hpe this
      rw[e];have:=nR s (mg r) 0 hM;rwa [Nat.pow_zero,Nat.mul_one] at this
   rw[hkept,c4,c2,c3,show ((-1074+(ex r:Int))-(-1074)).toNat=ex r from om,EG,Nat.min_eq_left om]
theorem nS {a b r:Nat} (ha:rg a<9218868437227405312) (hb:rg b<9218868437227405312) (hr:r<9218868437227405312) (h:vl (rg a)*vl (rg b)=vl r*2^1074):fq .mul a b=some (double.word (ng a ^^ ng b) r):=by
 simp only[fq,Format.mul,xw ha,xw hb,Datum.product,Option.map_some]
 rw[yvv (u:=ex (rg a)+ex (rg b)) (d:=1074) hr om (by rw[←h,vl,vl,Nat.pow_add];simp only[Nat.mul_comm,Nat.mul_assoc,Nat.mul_left_comm])]
def nr (r:Nat):Nat:=if r<4503599627370496 then r.log2*4503599627370496+r*2^(52-r.log2) else r
theorem zkz {r:Nat} (h0:r≠0) (h:r<4503599627370496):r.log2≤51∧4503599627370496≤r*2^(52-r.log2)∧r*2^(52-r.log2)<9007199254740992:=by
 have hl:r.log2<52:=(Nat.log2_lt h0).2 h;have h1:=Nat.log2_self_le h0;have h2:=@Nat.lt_log2_self r;have hp:0<2^(52-r.log2):=Nat.pow_pos de;refine ⟨om,?_,?_⟩
 · have:=Nat.mul_le_mul_right (2^(52-r.log2)) h1;rw[←Nat.pow_add,show r.log2+(52-r.log2)=52 from om] at this;exact this
 · have:=Nat.mul_lt_mul_of_pos_right h2 hp;rw[←Nat.pow_add,show r.log2+1+(52-r.log2)=53 from om] at this;exact this
theorem XV {r:Nat} (h0:r≠0) (h:r<4503599627370496):ex (nr r)=r.log2∧mg (nr r)=r*2^(52-r.log2)∧4503599627370496≤nr r∧nr r<9218868437227405312:=by
 obtain ⟨h1,h2,h3⟩:=zkz h0 h;obtain ⟨M,hM⟩:∃M,M=r*2^(52-r.log2):=⟨_,rfl⟩;have e:nr r=r.log2*4503599627370496+M:=by rw[nr,if_pos h,hM]
 rw[←hM] at h2 h3 ⊢;rw[e];unfold ex mg;rw[if_neg om,if_neg om];refine ⟨?_,?_,?_,?_⟩<;>omega
theorem qV {r:Nat} (h0:r≠0):4503599627370496≤nr r:=by
 rcases Nat.lt_or_ge r 4503599627370496 with h | h
 · exact (XV h0 h).2.2.1
 · rw[nr,if_neg om];exact h
theorem yak {r:Nat} (h0:r≠0) (hr:r<9218868437227405312):nr r<9218868437227405312:=by
 rcases Nat.lt_or_ge r 4503599627370496 with h | h
 · exact (XV h0 h).2.2.2
 · rw[nr,if_neg om];exact hr
theorem qW {r:Nat} (h:r<4503599627370496):vl r=r:=by unfold vl mg ex;rw[if_pos h,if_pos h,Nat.pow_zero,Nat.mul_one]
theorem KU {r:Nat} (h0:r≠0) (h:r<4503599627370496):vl (nr r)=r*2^52:=by
 obtain ⟨h1,h2,_⟩:=XV h0 h;have hl:=(zkz h0 h).1;rw[vl,h1,h2,Nat.mul_assoc,←Nat.pow_add,show 52-r.log2+r.log2=52 from om]
theorem ysz {p q s:Nat} (h:p=q+s) (r:Nat):r*2^p=r*2^q*2^s:=by rw[h,Nat.pow_add,Nat.mul_assoc]
theorem mR {a:Nat} (h0:rg a≠0) (h:rg a<4503599627370496):fq .mul a 4841369599423283200=some (double.word (ng a) (nr (rg a))):=by
 have hc:rg 4841369599423283200=4841369599423283200∧ng 4841369599423283200=false∧vl 4841369599423283200=2^1126:=by decide +kernel
 have:=nS (a:=a) (b:=4841369599423283200) (r:=nr (rg a)) om (by rw[hc.1];decide) (XV h0 h).2.2.2 (by
  rewrite [hc.1,hc.2.2,KU h0 h,qW h]
  exact ysz (p:=1126) (q:=52) (s:=1074) de (rg a))
 rw[this,hc.2.1,Bool.xor_false]
def gW (a:Nat):Nat:=double.word (ng a) (4602678819172646912+(mg (nr (rg a))-4503599627370496))
def mU (a:Nat):Int:=(ex (nr (rg a)):Int)-1021-(if rg a<4503599627370496 then 52 else 0)
def fm (a:Nat):Nat:=mg (nr (rg a))
theorem Vg (m k q:Nat):(m*2^(k+31*q))%2147483647=(m*2^k)%2147483647:=by
 induction q with
 | zero=>rfl
 | succ q ih=>
  rw[show k+31*(q+1)=(k+31*q)+31 from om,Nat.pow_add,←Nat.mul_assoc,←ih];obtain ⟨x,hx⟩:∃x,x=m*2^(k+31*q):=⟨_,rfl⟩;rw[←hx,show (2:Nat)^31=2147483648 from rfl];omega
theorem KV {m j k:Nat} (h:j%31=k%31):(m*2^j)%2147483647=(m*2^k)%2147483647:=by
 have h1:=Vg m (j%31) (j/31);have h2:=Vg m (k%31) (k/31);rw[show j%31+31*(j/31)=j from om] at h1;rw[show k%31+31*(k/31)=k from om] at h2;rw[h1,h2,h]
def JU (r:Nat):Nat:=(mg r*2^(((ex r:Int)-1074)%31).toNat)%2147483647
theorem GI {a:Nat} (h0:rg a≠0):(fm a*2^((mU a-53)%31).toNat)%2147483647=JU (rg a):=by
 unfold fm mU JU;rcases Nat.lt_or_ge (rg a) 4503599627370496 with h | h
 · obtain ⟨h1,h2,_⟩:=XV h0 h;have hl:=(zkz h0 h).1;rw[if_pos h,h1,h2,Nat.mul_assoc,←Nat.pow_add,show mg (rg a)=rg a by unfold mg;rw[if_pos h],show ex (rg a)=0 by unfold ex;rw[if_pos h]];exact KV om
 · rw[if_neg om,show nr (rg a)=rg a by rw[nr,if_neg om],show ((ex (rg a):Int)-1021-0-53)=(ex (rg a):Int)-1074 from om]
theorem ypx {m n:Nat} (hm:m<2^64) (j:Nat):(BitVec.ofNat 64 m &&& ~~~BitVec.ofNat 64 n).toNat.testBit j=(m.testBit j&&decide (j<64)&& !n.testBit j):=by
 rw[BitVec.toNat_and,Nat.testBit_and,BitVec.testBit_toNat,BitVec.testBit_toNat,BitVec.getLsbD_not,BitVec.getLsbD_ofNat,BitVec.getLsbD_ofNat];by_cases hj:j<64
 · simp[hj]
 · have:m.testBit j=false:=Nat.testBit_lt_two_pow (Nat.lt_of_lt_of_le hm (Nat.pow_le_pow_right de om));simp[this]
theorem gJ {m:Nat} (hm:m<18446744073709551616):(BitVec.ofNat 64 m &&& ~~~BitVec.ofNat 64 9223372036854775808).toNat=rg m:=by
 apply Nat.eq_of_testBit_eq
 intro j;rw[ypx hm,show rg m=m%2^63 from rfl,Nat.testBit_mod_two_pow,show (9223372036854775808:Nat)=2^63 from rfl,Nat.testBit_two_pow];by_cases h1:j<63
 · have h2:¬63=j:=om;have h3:j<64:=om;simp[h1,h2,h3]
 · by_cases h2:j=63
   · subst h2;simp
   · have h3:¬j<64:=om;simp[h1,h3]
theorem jF {m:Nat} (hm:m<18446744073709551616):(BitVec.ofNat 64 m &&& ~~~BitVec.ofNat 64 9218868437227405312).toNat=m/9223372036854775808*9223372036854775808+m%4503599627370496:=by
 apply Nat.eq_of_testBit_eq
 intro j;have hlt:m%2^52<2^63:=Nat.lt_of_lt_of_le (Nat.mod_lt _ de) de;rw[ypx hm,show m/9223372036854775808*9223372036854775808+m%4503599627370496=2^63*(m/2^63)+m%2^52 from by rw[Nat.mul_comm],Nat.testBit_two_pow_mul_add _ hlt,Nat.testBit_mod_two_pow,Nat.testBit_div_two_pow,
  show (9218868437227405312:Nat)=2^52*(2^11-1) from rfl,Nat.testBit_two_pow_mul,Nat.testBit_two_pow_sub_one]
 by_cases h1:j<52
 · have h2:¬52≤j:=om;have h3:j<63:=om;have h4:j<64:=om;simp[h1,h2,h3,h4]
 · by_cases h2:j<63
   · have h3:52≤j:=om;have h4:j-52<11:=om;simp[h1,h2,h3,h4]
   · have h3:52≤j:=om;have h4:¬j-52<11:=om;have h5:j-63+63=j:=om;by_cases h6:j<64
     · simp[h2,h3,h4,h5,h6]
     · have:m.testBit j=false:=Nat.testBit_lt_two_pow (Nat.lt_of_lt_of_le (show m<2^64 from hm) (Nat.pow_le_pow_right de om));simp[h2,h5,h6,this]
theorem jG {a b:Nat} (k:Nat) (hb:b<2^k) (ha:a%2^k=0):a ||| b=a+b:=by
 have e:a=2^k*(a/2^k):=by have:=Nat.div_add_mod a (2^k);omega
 rw[e];exact (Nat.two_pow_add_eq_or_of_lt hb _).symm
theorem GJ (m k n:Nat):m &&& (2^n*(2^k-1))=2^n*(m/2^n%2^k):=by
 apply Nat.eq_of_testBit_eq
 intro j;rw[Nat.testBit_and,Nat.testBit_two_pow_mul,Nat.testBit_two_pow_mul,Nat.testBit_two_pow_sub_one,Nat.testBit_mod_two_pow,Nat.testBit_div_two_pow];by_cases h:n≤j
 · have h5:j-n+n=j:=om;simp[h,h5,Bool.and_comm]
 · simp[h]
theorem qX (m:Nat) (hm:m<18446744073709551616):m &&& 9223372036854775808=if ng m then 9223372036854775808 else 0:=by
 have:=GJ m 1 63;rw[show (2:Nat)^63*(2^1-1)=9223372036854775808 from rfl] at this;rw[this,Ew hm];show 9223372036854775808*(m/9223372036854775808%2)=_
 by_cases h:9223372036854775808≤m
 · rw[if_pos (decide_eq_true h),show m/9223372036854775808%2=1 from om]
 · rw[if_neg (by simpa using h),show m/9223372036854775808%2=0 from om]
theorem jK {a b r:Nat} (ha:rg a<9218868437227405312) (hb:rg b<9218868437227405312) (hr:r<9218868437227405312) (h:∀P,P=2^1074→vl (rg a)*vl (rg b)=vl r*P):fq .mul a b=some (double.word (ng a ^^ ng b) r):=nS ha hb hr (h _ rfl)
theorem qZ {m m' i j:Nat} (h1:4503599627370496≤m) (h2:m<9007199254740992) (h3:4503599627370496≤m') (h4:m'<9007199254740992) (h:m*2^i=m'*2^j):m=m'∧i=j:=by
 have l1:m.log2=52:=zjq (k:=52) h1 h2;have l2:m'.log2=52:=zjq (k:=52) h3 h4;have hm:m≠0:=om;have hm':m'≠0:=om;have hl:=ob (k:=i) hm;rw[h,ob hm',l1,l2] at hl;have:i=j:=om;subst this;exact ⟨Nat.eq_of_mul_eq_mul_right (Nat.pow_pos de) h,rfl⟩
def nd (r:Nat):Nat:=if r<4503599627370496 then 52 else 0
theorem jL {r:Nat} (h0:r≠0):mg (nr r)*2^ex (nr r)=vl r*2^nd r:=by
 show vl (nr r)=_
 unfold nd;rcases Nat.lt_or_ge r 4503599627370496 with h | h
 · rw[if_pos h,KU h0 h,qW h]
 · rw[if_neg om,Nat.pow_zero,Nat.mul_one,show nr r=r by rw[nr,if_neg om]]
theorem jM {r:Nat} (h0:r≠0):4503599627370496≤mg (nr r)∧mg (nr r)<9007199254740992:=⟨KT (qV h0),uT _⟩
theorem yxk {r q k:Nat} (h0:r≠0) (hq0:q≠0) (h:vl q=vl r*2^k):mg (nr q)=mg (nr r)∧ex (nr q)+nd r=ex (nr r)+k+nd q:=by
 obtain ⟨a1,a2⟩:=jM h0;obtain ⟨b1,b2⟩:=jM hq0;have e1:=jL h0;have e2:=jL hq0;have:mg (nr q)*2^(ex (nr q)+nd r)=mg (nr r)*2^(ex (nr r)+k+nd q):=by
  rw[Nat.pow_add,←Nat.mul_assoc,e2,h,show ex (nr r)+k+nd q=ex (nr r)+(k+nd q) from om,Nat.pow_add,←Nat.mul_assoc,e1,Nat.pow_add];simp only[Nat.mul_assoc,Nat.mul_comm,Nat.mul_left_comm]
 exact qZ b1 b2 a1 a2 this
theorem ywz {r:Nat}:vl r=0↔r=0:=⟨fun h=>iZ (by rw[h,xt]),fun h=>by rw[h,xt]⟩
theorem zpq {e m:Nat} (h1:4503599627370496≤m) (h2:m<9007199254740992):ex (e*4503599627370496+m)=e∧mg (e*4503599627370496+m)=m:=by
 unfold ex mg;rw[if_neg om,if_neg om];omega
theorem GU {r s:Nat}:vl r≤vl s↔r≤s:=by
 rcases Nat.lt_trichotomy r s with h | h | h
 · have:=iY h;omega
 · subst h;omega
 · have:=iY h;omega
theorem QO (m k:Nat) (hm:m<9007199254740992):∃d,vl d=m*2^k:=by
 by_cases h0:m=0
 · exact ⟨0,by rw[xt,h0,Nat.zero_mul]⟩
 · have hl:m.log2<53:=(Nat.log2_lt h0).2 hm;by_cases hs:m.log2+k<52
   · have h1:=@Nat.lt_log2_self m;have hp:0<2^k:=Nat.pow_pos de;have h2:m*2^k<2^(m.log2+1)*2^k:=Nat.mul_lt_mul_of_pos_right h1 hp;rw[←Nat.pow_add] at h2;have h3:(2:Nat)^(m.log2+1+k)≤2^52:=Nat.pow_le_pow_right de om;exact ⟨m*2^k,qW (Nat.lt_of_lt_of_le h2 h3)⟩
   · obtain ⟨E,hE⟩:∃E,E=m.log2+k-52:=⟨_,rfl⟩;obtain ⟨M,hM⟩:∃M,M=m*2^(52-m.log2):=⟨_,rfl⟩;have hp:0<2^(52-m.log2):=Nat.pow_pos de;have h1:4503599627370496≤M:=by
      have:=Nat.mul_le_mul_right (2^(52-m.log2)) (Nat.log2_self_le h0);rw[←Nat.pow_add,show m.log2+(52-m.log2)=52 from om,←hM] at this;exact this
     have h2:M<9007199254740992:=by
      have:=Nat.mul_lt_mul_of_pos_right (@Nat.lt_log2_self m) hp;rw[←Nat.pow_add,show m.log2+1+(52-m.log2)=53 from om,←hM] at this;exact this
     obtain ⟨p1,p2⟩:=zpq (e:=E) h1 h2;refine ⟨E*4503599627370496+M,?_⟩;rw[vl,p1,p2,hM,hE,Nat.mul_assoc,←Nat.pow_add];congr 2;omega
theorem XZ (m k R:Nat) (hm:m<9007199254740992) (h:m*2^k≤vl R):∃d,vl d=m*2^k∧d≤R:=by
 obtain ⟨d,hd⟩:=QO m k hm;exact ⟨d,hd,GU.1 (by rw[hd];exact h)⟩
noncomputable def Ya (n:Nat):Nat:=@dite Nat (∃d,vl d=n) (Classical.propDecidable _) (fun h=>h.choose) (fun _=>0)
theorem qaz {i j:Nat} (h:i≤j) (m:Nat):m*2^j=m*2^(j-i)*2^i:=by rw[Nat.mul_assoc,←Nat.pow_add];congr 2;omega
def ax6 (r y:Nat):Nat:=(ex (nr r)+nd y)-(ex (nr y)+nd r)-(if mg (nr r)<mg (nr y) then 1 else 0)
end Go.Proofs.YtdofcnodhgaedaaGreatDoor

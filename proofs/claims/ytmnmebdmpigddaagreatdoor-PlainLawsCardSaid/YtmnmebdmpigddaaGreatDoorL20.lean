/- Texts of this claim. -/
import Derived.Test.YtmnmebdmpigddaaGreatDoorL19
import Derived.Lib.ItoaNum
set_option maxRecDepth 100000
set_option maxHeartbeats 20000000
namespace Go.Proofs.YtmnmebdmpigddaaGreatDoor
open Go.RowKit
attribute [local irreducible] OW RS CW EW
def shown (ds:List Nat) (k:Nat):List Value:=(List.range k).map fun j=>.int .u8 (48+nth ds (ds.length-1-j))
section
variable (i:Int) (A:Option Addr) (c:Nat) (w:World) (hi:i.natAbs<au^30) (hx:aY w A (bC i))
include hi hx
end
end Go.Proofs.YtmnmebdmpigddaaGreatDoor
namespace Go.Proofs.YtmnmebdmpigddaaGreatDoor
theorem zwx {n:Nat} (h:10≤n):Lib.decDigits n=Lib.decDigits (n/10)++ [UInt8.ofNat (48+n%10)]:=by
 rw[Lib.decDigits,dif_neg om]
theorem ybx {n:Nat} (h:n<10):Lib.decDigits n= [UInt8.ofNat (48+n)]:=Lib.decDigits_one h
def TP (k l:Nat):List UInt8:=List.replicate (k-Lib.nDigits l) 48++Lib.decDigits l
theorem Mt {k l:Nat} (hk:1≤k):TP (k+1) l=TP k (l/10)++ [UInt8.ofNat (48+l%10)]:=by
 unfold TP;rcases Nat.lt_or_ge l 10 with h | h
 · rw[Nat.div_eq_of_lt h,Nat.mod_eq_of_lt h,Lib.nDigits_small h,Lib.nDigits_small (by decide:0<10),ybx h,ybx (by decide:0<10)];obtain ⟨j,rfl⟩:∃j,k=j+1:=⟨k-1,om⟩;rw[show j+1+1-1=j+1 from om,show j+1-1=j from om,List.replicate_succ'];rfl
 · rw[Lib.nDigits_big om,zwx h,←List.append_assoc,show k+1-(Lib.nDigits (l/10)+1)=k-Lib.nDigits (l/10) from om]
theorem Cx {a:Nat} (ha:0<a):∀(k l:Nat),l<10^(k+1)→Lib.decDigits (a*10^(k+1)+l)=Lib.decDigits a++TP (k+1) l
 | 0,l,hl=>by
  have h9:l<10:=by simpa using hl
  rw[zwx om,show (a*10^(0+1)+l)/10=a from om,show (a*10^(0+1)+l)%10=l from om,TP,Lib.nDigits_small h9,ybx h9];rfl
 | k+1,l,hl=>by
  have e:a*10^(k+1+1)+l=10*(a*10^(k+1))+l:=by rw[Nat.pow_succ 10 (k+1),←Nat.mul_assoc,Nat.mul_comm _ 10]
  have h0:0<a*10^(k+1):=Nat.mul_pos ha (Nat.pow_pos de);have key:∀X l:Nat,(10*X+l)/10=X+l/10∧(10*X+l)%10=l%10∧(0<X→10≤10*X+l):=om;have hd:(a*10^(k+1+1)+l)/10=a*10^(k+1)+l/10:=by rw[e,(key _ _).1]
  have hm:(a*10^(k+1+1)+l)%10=l%10:=by rw[e,(key _ _).2.1]
  have hl2:l/10<10^(k+1):=by rw[Nat.pow_succ 10 (k+1)] at hl;omega
  rw[zwx (by rw[e];exact (key _ _).2.2 h0),hd,hm,Cx ha k (l/10) hl2,Mt (k:=k+1) (l:=l) om,List.append_assoc]
theorem Gh {a l:Nat} (ha:0<a) (hl:l<au):Lib.decDigits (a*au+l)=Lib.decDigits a++(List.replicate (18-Lib.nDigits l) 48++Lib.decDigits l):=
 Cx ha 17 l (by simpa [au] using hl)
theorem nu {l:Nat} (hl:l<au):Lib.nDigits l≤18:=by
 rcases Nat.lt_or_ge l 10 with h | h
 · rw[Lib.nDigits_small h];omega
 · rcases Nat.lt_or_ge 18 (Lib.nDigits l) with h1 | h1
   · exfalso
     have h2:∀(k u:Nat),k+1<Lib.nDigits u→10^(k+1)≤u:=by
      intro k;induction k with
      | zero=>
       intro u hu;rcases Nat.lt_or_ge u 10 with h | h
       · rw[Lib.nDigits_small h] at hu;omega
       · simpa using h
      | succ k ih=>
       intro u hu;rcases Nat.lt_or_ge u 10 with h | h
       · rw[Lib.nDigits_small h] at hu;omega
       · rw[Lib.nDigits_big om] at hu;have:=ih (u/10) om;rw[Nat.pow_succ 10 (k+1)];omega
     have h3:=h2 17 l h1;have:(10:Nat)^(17+1)=au:=de;omega
   · exact h1
def kf (i:Int) (k:Nat):List UInt8:=(if i<0 then [45] else [])++(if k=0 then [] else Lib.decDigits (i.natAbs/au^((limbs i).length-k)))
theorem YA (i:Int) {k:Nat}:(limbs i).getD k 0=i.natAbs/au^k%au:=by
 rw[qn,jX (by unfold au;omega) (gr qg _),gm qg]
theorem TQ (i:Int) (k:Nat):nth (limbs i) k=((i.natAbs/au^k%au:Nat):Int):=by
 unfold nth;rw[YA]
theorem Mv {i:Int} {k:Nat} (hk:k<(limbs i).length):0<i.natAbs/au^k:=by
 rcases Nat.eq_zero_or_pos (i.natAbs/au^k) with h | h
 · exfalso
   have h0:0<au^k:=Nat.pow_pos (by unfold au;omega);have h1:i.natAbs<au^k:=by
    rcases Nat.lt_or_ge i.natAbs (au^k) with h1 | h1
    · exact h1
    · have:=Nat.div_pos h1 h0;omega
   have:=(qp qg i.natAbs k).2 h1;rw[←qn] at this;omega
 · exact h
theorem yfx (i:Int):kf i 0=if i<0 then [45] else []:=by simp[kf]
theorem ny {i:Int} (h:0<(limbs i).length):kf i 0++Lib.decDigits (i.natAbs/au^((limbs i).length-1-0)%au)=kf i 1:=by
 have h1:i.natAbs<au^(limbs i).length:=(qp qg i.natAbs _).1 (by rw[←qn];exact Nat.le_refl _);have h2:i.natAbs/au^((limbs i).length-1)<au:=by
  rw[Nat.div_lt_iff_lt_mul (Nat.pow_pos (by unfold au;omega)),←Nat.pow_succ',Nat.succ_eq_add_one,show (limbs i).length-1+1=(limbs i).length from om];exact h1
 rw[Nat.sub_zero,Nat.mod_eq_of_lt h2];simp[kf]
theorem qqv {i:Int} {k:Nat} (hk0:0<k) (hk:k<(limbs i).length) :
 kf i k++(List.replicate (18-Lib.nDigits (i.natAbs/au^((limbs i).length-1-k)%au)) 48++Lib.decDigits (i.natAbs/au^((limbs i).length-1-k)%au))=kf i (k+1):=by
 have e:i.natAbs/au^((limbs i).length-k)=i.natAbs/au^((limbs i).length-1-k)/au:=by
  rw[Nat.div_div_eq_div_mul,←Nat.pow_succ,Nat.succ_eq_add_one,show (limbs i).length-1-k+1=(limbs i).length-k from om]
 have hp:=Mv (i:=i) (k:=(limbs i).length-k) om;have hj:=Gh (a:=i.natAbs/au^((limbs i).length-k)) (l:=i.natAbs/au^((limbs i).length-1-k)%au) hp (Nat.mod_lt _ (by unfold au;omega));rw[kf,kf,if_neg (show ¬k=0 from om),if_neg (show ¬k+1=0 from om),List.append_assoc,←hj,e,Nat.mul_comm,Nat.div_add_mod,show (limbs i).length-(k+1)=(limbs i).length-1-k from om]
theorem Gi {i:Int} (h:0<(limbs i).length):kf i (limbs i).length=Lib.itoa i:=by
 rw[kf,if_neg (show ¬(limbs i).length=0 from om),Nat.sub_self,Nat.pow_zero,Nat.div_one,Lib.itoa];split
 · rfl
 · rw[show i.toNat=i.natAbs from om];rfl
theorem Gj {i:Int} {k:Nat} (hk:k≤(limbs i).length) (hl:(limbs i).length≤30):(kf i k).length≤1+18*k:=by
 have h1:∀k,k≤(limbs i).length→(kf i k).length≤1+18*k:=by
  intro k;induction k with
  | zero=>intro _;rw[yfx];split<;>simp
  | succ k ih=>
   intro hk1;have h2:=ih om;have h3:i.natAbs/au^((limbs i).length-1-k)%au<au:=Nat.mod_lt _ (by unfold au;omega);have h4:=nu h3;rcases Nat.eq_zero_or_pos k with rfl | h0
   · rw[←ny om,List.length_append,Lib.decDigits_length];rw[Nat.sub_zero] at h4 ⊢;omega
   · rw[←qqv h0 om,List.length_append,List.length_append,List.length_replicate,Lib.decDigits_length];omega
 exact h1 k hk
def strip:List UInt8→List UInt8
 | []=>[]
 | b::r=>if b=48 then strip r else b::r
end Go.Proofs.YtmnmebdmpigddaaGreatDoor

/- Texts of this claim. -/
import Derived.Test.YtmnmebdmpigddaaGreatDoorB18
import Derived.Lib.Bytealg
set_option maxRecDepth 100000
set_option maxHeartbeats 20000000
namespace Go.Proofs.YtmnmebdmpigddaaGreatDoor
open Go.RowKit Proofs.Tryz
def og (k:Int):Bool:=decide (1≤k)&&decide (k≤3)
def PV.cn (v:PV):Bool:=if v.k=1 then false else v.neg
def PV.cx (v:PV):List Nat:=if v.k=1 then (if v.yes then [1] else []) else v.xs
noncomputable def Ie (a b:PV):Int:=
 if a.k=3 then (if b.k=3 then kE a.bits b.bits else yR a.bits b.cn b.cx)
 else if b.k=3 then 0-yR b.bits a.cn a.cx else gZ (zm a.cn a.cx&&zm b.cn b.cx) (num a.cn a.cx) (num b.cn b.cx)
def wY (a b:PV):Bool:=if a.k=3 then (if b.k=3 then Nj a.bits b.bits else wX a.bits b.cn b.cx) else if b.k=3 then wX b.bits a.cn a.cx else true
def eqS (a b:PV):Bool:=if a.k==b.k then (a.s.toList==b.s.toList) else false
noncomputable def NW (a b:PV):Bool:=if a.good&&b.good then (if og a.k&&og b.k then (if wY a b then (Ie a b==0) else false) else eqS a b) else false
noncomputable def bg3 (a b:PV):Int×Bool×Int:=
 if a.good&&b.good then (if og a.k&&og b.k then (Ie a b,wY a b,0) else if (a.k==4)&&(b.k==4) then (Lib.compareBytes a.s.data.toList b.s.data.toList,true,0) else (0,false,9)) else (0,false,3)
noncomputable def bd4 (a b:PV):Bool:=
 if (a.good&&b.good)&&(a.k==b.k) then (if a.k=2 then (gZ (zm a.neg a.xs&&zm b.neg b.xs) (num a.neg a.xs) (num b.neg b.xs)==0) else if a.k=3 then (((qu (qg a.bits):Nat):Int)==((qu (qg b.bits):Nat):Int)) else (if a.yes==b.yes then (a.s.toList==b.s.toList) else false)) else false
def Ig (w:World) (A1:Option Addr) (n:Bool) (xs ys:List Nat) (e:Ending) (w':World):Prop:=∃A c,e= .returned (.agg #[.bool n,.slice A ys.length c])∧((A=A1∧ys=xs)∨Own w' w.heap.size A c ys)∧Below w.heap.size w w'
def dW (w:World) (A1 A:Option Addr) (xs ys:List Nat):Prop:=(A=A1∧ys=xs)∨aA w A ys
theorem dW.nums {w:World} {A1 A:Option Addr} {xs ys:List Nat} (h:dW w A1 A xs ys) (hx:aA w A1 xs):aA w A ys:=by
 rcases h with ⟨rfl,rfl⟩ | h
 · exact hx
 · exact h
theorem Zm {X:Nat→Prop} {w w':World} {A1 A:Option Addr} {c:Nat} {xs ys:List Nat} (h:(A=A1∧ys=xs)∨Own w' w.heap.size A c ys) (hX:∀k,X k→k<w.heap.size):Per X w' (fun b=>dW b A1 A xs ys):=fun b hb=>by
 rcases h with h | h
 · exact Or.inl h
 · exact Or.inr (Per.own h hX b hb)
theorem PV.wZ {v:PV} (h:v.xs.length≤9223372036854775807):v.cx.length≤9223372036854775807:=by
 unfold PV.cx;split
 · split<;>simp
 · exact h
theorem af8 (i j:Int):-1≤jS i j∧jS i j≤1:=by unfold jS;split<;>(try split)<;>omega
theorem af9 (a:Nat) (n1:Bool) (xs:List Nat):-1≤yR a n1 xs∧yR a n1 xs≤1:=by
 unfold yR;split
 · split
   · unfold af7;split<;>omega
   · unfold UR;split
     · exact af8 _ _
     · split
       · split<;>omega
       · omega
 · omega
theorem ykk {w:World} {A:Option Addr}:aA w A []:=⟨fun k=>by unfold nth;simp,fun h=>absurd h de⟩
theorem vfk {w:World} {g o:Nat} {v0 v1:Value} (h0:w.cell? ⟨g,o,none⟩=some v0) (h1:w.cell? ⟨g,o+1,none⟩=some v1):∀(j:Nat) (v:Value),#[v0,v1][j]? =some v→w.cell? ⟨g,o+j,none⟩=some v:=fun j v hj=>by
 have hj2:=(Array.getElem?_eq_some_iff.1 hj).1;match j,hj2 with
 | 0,_=>exact h0.trans hj
 | 1,_=>exact h1.trans hj
theorem vtq {w:World} {base:Nat}:Own w base none 0 []:=⟨⟨rfl,Or.inl ⟨rfl,rfl⟩⟩,fun _ h=>(by cases h)⟩
theorem ykx {w1 w2:World} {lo base c g:Nat} {A:Option Addr} {xs:List Nat} (h:Own w1 base A c xs) (E:Ext (aj [some g]) w1 w2) (hg:g<base) (hb:lo≤base):Own w2 lo A c xs:=
 ⟨viv (ZY h.1 E (fun q hq hm=>by have:=oO hm;have:=uG h.1 q hq;omega)) hb,h.2⟩
theorem yzv:limbs 1= [1]:=by
 have h:limbs 1= [(1:Int).natAbs]:=MR de de;exact h
theorem U6:num false [1]=1:=by
 have h:=jr 1;rw[yzv] at h;exact h
theorem aPx:num false []=0:=by
 have h:=jr 0;rwa [show limbs 0= [] from qt] at h
theorem Ij {w1 w2:World} {lo base c g:Nat} {A:Option Addr} {xs:List Nat} (h:aM w1 base A c xs) (E:Ext (aj [some g]) w1 w2) (hg:g<base) (hb:lo≤base):aM w2 lo A c xs:=
 ⟨viv (ZY h.1 E (fun q hq hm=>by have:=oO hm;have:=uG h.1 q hq;omega)) hb,h.2⟩
theorem qhq {k:Int} (h:og k=true):1≤k∧k≤3:=by
 unfold og at h;simp only[Bool.and_eq_true,decide_eq_true_eq] at h
 exact h
theorem PV.aqj {v:PV} (h:v.good=true) (hk:v.k=2):zm v.neg v.xs=true:=by
 unfold PV.good at h;rw[if_neg om,if_neg om,if_pos hk] at h;simp only[Bool.and_eq_true] at h
 exact h.2.1.1.1
theorem PV.canon {v:PV} (h:v.good=true) (hk:v.k=1∨v.k=2):v.cn=decide (num v.cn v.cx<0)∧v.cx=limbs (num v.cn v.cx)∧(num v.cn v.cx).natAbs<av^30:=by
 have hg:zm v.cn v.cx=true:=by
  unfold PV.cn PV.cx;by_cases h1:v.k=1
  · rw[if_pos h1,if_pos h1];split
    · have:=vh (i:=1) de;rwa [yzv] at this
    · have:=vh (i:=0) de;rwa [qt] at this
  · rw[if_neg h1,if_neg h1];exact PV.aqj h om
 obtain ⟨i,e1,e2,e3⟩:=vaz hg;have e:num v.cn v.cx=i:=by rw[e1,e2,jr]
 rw[e];exact ⟨e1,e2,e3⟩
theorem PV.dX {v:PV} (h:v.good=true) (hk:v.k=4):v.s.size≤20000:=by
 unfold PV.good at h;simp[hk] at h
 omega
section
variable {u v:PV} (g1:u.good=true) (g2:v.good=true) (h3:(u.k==v.k)=true) (h5:u.k≠3)
include g1 g2 h3 h5
end
section
attribute [local irreducible] OW RS CW EW
theorem Cr {P Q:Prop} (k:Q) (h:(Unit→Q)→P:=by
 intro zK;refine zn ?_;refine za rfl (qaq (cs:=#[.bool ua.neg,.slice A1 ua.xs.length c1]) u24 rfl oc rfl rfl (vfk (KD.cell 2) (KD.cell 3)) ?_);exact zK ()):P:=h fun _=>k
theorem Vl {P:Prop} (h:P:=by
 exact ⟨by refine congrArg (fun z=>Ending.returned (.bool z)) ?_;unfold og;first | (simp_all;done) | (refine Bool.eq_iff_iff.2 ?_;simp_all;done) | (refine Bool.eq_iff_iff.2 ?_;simp_all;omega),aP LW E ak⟩):P:=h
theorem Vm {P:Prop} (h:P:=by
 refine ks (rs:=[.cell 2 48]) (vs:=[_]) rfl ⟨⟨_,rfl,ypq u48 rfl qK Ii rfl⟩,trivial⟩ ?_;exact ⟨A3,c3,by rw[e2];rfl,by rw[e2];exact Ij hO E4 BY.lt hs,((eT.trans E3).step E4 (fun q hq=>Or.inr (by have:=oO hq;have:=E1.size;omega))).toBelow⟩):P:=h
section
variable (w:World) (ua ub:PV) (A1 B1 A2 B2:Option Addr) (c1 d1 c2 d2:Nat) (hx:aA w A1 ua.xs) (hl:ua.xs.length≤9223372036854775807) (ha:ua.bits<18446744073709551616) (hy:aA w A2 ub.xs) (hl':ub.xs.length≤9223372036854775807) (hb0:ub.bits<18446744073709551616) (g1:ua.good=true) (g2:ub.good=true)
theorem Oj:Calls prog 36 #[bG ua A1 c1 B1 d1] w (aF w (.bool (og ua.k))):=by
 refine zj func36 ntmps36 fun HF LW ak E=>?_;refine zi ?_;refine zg HF LW E ak fun aO w2 HF LW E=>?_;refine qc ?_;refine zy 6 rfl (fun h1=>?_) (fun h1=>?_)
 ·
  replace h1:=eq_of_beq h1;refine kh ?_;exact Vl
 ·
  replace h1:=beq_eq_false_iff_ne.1 h1;refine zn ?_;refine zy 11 rfl (fun h2=>?_) (fun h2=>?_)
  ·
   replace h2:=eq_of_beq h2;refine qc ?_;exact Vl
  ·
   replace h2:=beq_eq_false_iff_ne.1 h2;refine qc ?_;exact Vl
theorem qoz (r:Bool) (hr:og ua.k=r):Calls prog 36 #[bG ua A1 c1 B1 d1] w (aF w (.bool r)):=by
 subst hr;exact Oj w ua A1 B1 c1 d1
include hx g1
theorem yyv (I:Int) (hI:I=num ua.cn ua.cx) (hk:ua.k=1∨ua.k=2):Calls prog 39 #[bG ua A1 c1 B1 d1] w (Zh w I):=by
 subst hI;refine zd func39 rfl ntmps39 rfl (od ?_);rintro gA wA BX E1 G1;refine za rfl (kt yL ?_);rintro gB wB BY E2 G2;have KD:=BX.ext E2 (fun h=>h.elim);have eT:=E1.trans E2;have hs:=eT.size;refine zv ?_;refine zf rfl (fun hk=>?_) (fun hk=>?_)
 ·
  have hk1:ua.k=1:=by simpa using hk
  refine zp ?_;refine zf rfl (fun hyes=>?_) (fun hyes=>?_)
  ·
   have e2:num ua.cn ua.cx=1:=by unfold PV.cn PV.cx;rw[if_pos hk1,if_pos hk1,if_pos hyes];exact U6
   refine zi ?_;refine za rfl (ze Z5 rfl ((qwz 1 _ de de).mono ?_));rintro e w1 ⟨A3,c3,rfl,hO,hb⟩;refine ⟨_,rfl,?_⟩;have E3:=Ext.of_below hb No;have N7:=BY.ext E3 (fun h=>h.elim);refine yj (qx qK rfl rfl N7 rfl rfl rfl ?_);rintro wC Ii E4;refine zn ?_;exact Vm
  ·
   have e2:num ua.cn ua.cx=0:=by unfold PV.cn PV.cx;rw[if_pos hk1,if_pos hk1,if_neg (by rw[hyes];decide)];exact aPx
   refine ye ?_;refine za rfl (ze Z5 rfl ((qwz 0 _ de de).mono ?_));rintro e w2 ⟨A3,c3,rfl,hO,hb⟩;refine ⟨_,rfl,?_⟩;have E3:=Ext.of_below hb No;have N7:=BY.ext E3 (fun h=>h.elim);refine yj (qx qK rfl rfl N7 rfl rfl rfl ?_);rintro wC Ii E4;refine ye ?_;exact Vm
 ·
  have hk1:ua.k≠1:=by simpa using hk
  have hk2:ua.k=2:=om;have e2:num ua.cn ua.cx=num ua.neg ua.xs:=by unfold PV.cn PV.cx;rw[if_neg hk1,if_neg hk1]
  have hx3:=Per.aD hx _ eT;refine Cr ?_;refine za rfl (ze aI1 rfl ((J2 ua.neg A1 c1 ua.xs _ hx3 (PV.aqj g1 hk2)).mono ?_));rintro e w3 ⟨A3,c3,rfl,hO,hb⟩;refine ⟨_,rfl,?_⟩;have E3:=Ext.of_below hb No;have N7:=BY.ext E3 (fun h=>h.elim);refine yj (qx qK rfl rfl N7 rfl rfl rfl ?_);rintro wC Ii E4;refine zr ?_;exact Vm
include hl ha hy hl' hb0 g2
end
end
end Go.Proofs.YtmnmebdmpigddaaGreatDoor

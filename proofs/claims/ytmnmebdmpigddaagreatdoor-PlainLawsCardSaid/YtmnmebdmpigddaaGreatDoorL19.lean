/- Texts of this claim. -/
import Derived.Test.YtmnmebdmpigddaaGreatDoorL18
import Derived.Lib.Bytealg
set_option maxRecDepth 100000
set_option maxHeartbeats 20000000
namespace Go.Proofs.YtmnmebdmpigddaaGreatDoor
open Go.RowKit
def qd (k:Int):Bool:=decide (1≤k)&&decide (k≤3)
def PV.cn (v:PV):Bool:=if v.k=1 then false else v.neg
def PV.cx (v:PV):List Nat:=if v.k=1 then (if v.yes then [1] else []) else v.xs
noncomputable def Fq (a b:PV):Int:=
 if a.k=3 then (if b.k=3 then kJ a.bits b.bits else wW a.bits b.cn b.cx)
 else if b.k=3 then 0-wW b.bits a.cn a.cx else gJ (zm a.cn a.cx&&zm b.cn b.cx) (num a.cn a.cx) (num b.cn b.cx)
def vD (a b:PV):Bool:=if a.k=3 then (if b.k=3 then xw a.bits b.bits else vC a.bits b.cn b.cx) else if b.k=3 then vC b.bits a.cn a.cx else true
def eqS (a b:PV):Bool:=if a.k==b.k then (a.s.toList==b.s.toList) else false
noncomputable def La (a b:PV):Bool:=if a.good&&b.good then (if qd a.k&&qd b.k then (if vD a b then (Fq a b==0) else false) else eqS a b) else false
noncomputable def aQ1 (a b:PV):Int×Bool×Int:=
 if a.good&&b.good then (if qd a.k&&qd b.k then (Fq a b,vD a b,0) else if (a.k==4)&&(b.k==4) then (Lib.compareBytes a.s.data.toList b.s.data.toList,true,0) else (0,false,9)) else (0,false,3)
noncomputable def Fu (a b:PV):Bool:=
 if (a.good&&b.good)&&(a.k==b.k) then (if a.k=2 then (gJ (zm a.neg a.xs&&zm b.neg b.xs) (num a.neg a.xs) (num b.neg b.xs)==0) else if a.k=3 then (((qz (qa a.bits):Nat):Int)==((qz (qa b.bits):Nat):Int)) else (if a.yes==b.yes then (a.s.toList==b.s.toList) else false)) else false
def Fv (w:World) (A1:Option Addr) (n:Bool) (xs ys:List Nat) (e:Ending) (w':World):Prop:=∃A c,e= .returned (.agg #[.bool n,.slice A ys.length c])∧((A=A1∧ys=xs)∨Own w' w.heap.size A c ys)∧Below w.heap.size w w'
def eH (w:World) (A1 A:Option Addr) (xs ys:List Nat):Prop:=(A=A1∧ys=xs)∨aA w A ys
theorem eH.nums {w:World} {A1 A:Option Addr} {xs ys:List Nat} (h:eH w A1 A xs ys) (hx:aA w A1 xs):aA w A ys:=by
 rcases h with ⟨rfl,rfl⟩ | h
 · exact hx
 · exact h
theorem QJ {X:Nat→Prop} {w w':World} {A1 A:Option Addr} {c:Nat} {xs ys:List Nat} (h:(A=A1∧ys=xs)∨Own w' w.heap.size A c ys) (hX:∀k,X k→k<w.heap.size):Per X w' (fun b=>eH b A1 A xs ys):=fun b hb=>by
 rcases h with h | h
 · exact Or.inl h
 · exact Or.inr (Per.own h hX b hb)
theorem PV.lF {v:PV} (h:v.xs.length≤9223372036854775807):v.cx.length≤9223372036854775807:=by
 unfold PV.cx;split
 · split<;>simp
 · exact h
theorem Xo (i j:Int):-1≤iH i j∧iH i j≤1:=by unfold iH;split<;>(try split)<;>omega
theorem Xp (a:Nat) (n1:Bool) (xs:List Nat):-1≤wW a n1 xs∧wW a n1 xs≤1:=by
 unfold wW;split
 · split
   · unfold Xn;split<;>omega
   · unfold QH;split
     · exact Xo _ _
     · split
       · split<;>omega
       · omega
 · omega
theorem xo {w:World} {A:Option Addr}:aA w A []:=⟨fun k=>by unfold nth;simp,fun h=>absurd h de⟩
theorem qjk {w:World} {g o:Nat} {v0 v1:Value} (h0:w.cell? ⟨g,o,none⟩=some v0) (h1:w.cell? ⟨g,o+1,none⟩=some v1):∀(j:Nat) (v:Value),#[v0,v1][j]? =some v→w.cell? ⟨g,o+j,none⟩=some v:=fun j v hj=>by
 have hj2:=(Array.getElem?_eq_some_iff.1 hj).1;match j,hj2 with
 | 0,_=>exact h0.trans hj
 | 1,_=>exact h1.trans hj
theorem qvx {w:World} {base:Nat}:Own w base none 0 []:=⟨⟨rfl,Or.inl ⟨rfl,rfl⟩⟩,fun _ h=>(by cases h)⟩
theorem ztv {w1 w2:World} {lo base c g:Nat} {A:Option Addr} {xs:List Nat} (h:Own w1 base A c xs) (E:Ext (ak [some g]) w1 w2) (hg:g<base) (hb:lo≤base):Own w2 lo A c xs:=
 ⟨pW (ZT h.1 E (fun q hq hm=>by have:=ug hm;have:=GV h.1 q hq;omega)) hb,h.2⟩
theorem Xq:limbs 1= [1]:=by
 have h:limbs 1= [(1:Int).natAbs]:=Ko de de;exact h
theorem QX {P:Prop} (h:P:=by
 unfold PV.good at h;rcases PV.kinds h with e | e | e | e | e<;>simp[e] at h<;>first | exact absurd e hk | simp[h]):P:=h
theorem ad2:num false [1]=1:=by
 have h:=jz 1;rw[Xq] at h;exact h
theorem QY {k:Int} (h:qd k=true):1≤k∧k≤3:=by
 unfold qd at h;simp only[Bool.and_eq_true,decide_eq_true_eq] at h
 exact h
theorem PV.ad3 {v:PV} (h:v.good=true) (hk:v.k=2):zm v.neg v.xs=true:=by
 unfold PV.good at h;rw[if_neg om,if_neg om,if_pos hk] at h;simp only[Bool.and_eq_true] at h
 exact h.2.1.1.1
theorem PV.canon {v:PV} (h:v.good=true) (hk:v.k=1∨v.k=2):v.cn=decide (num v.cn v.cx<0)∧v.cx=limbs (num v.cn v.cx)∧(num v.cn v.cx).natAbs<au^30:=by
 have hg:zm v.cn v.cx=true:=by
  unfold PV.cn PV.cx;by_cases h1:v.k=1
  · rw[if_pos h1,if_pos h1];split
    · have:=qy (i:=1) de;rwa [Xq] at this
    · have:=qy (i:=0) de;rwa [qj] at this
  · rw[if_neg h1,if_neg h1];exact PV.ad3 h om
 obtain ⟨i,e1,e2,e3⟩:=qxk hg;have e:num v.cn v.cx=i:=by rw[e1,e2,jz]
 rw[e];exact ⟨e1,e2,e3⟩
theorem PV.kinds {v:PV} (h:v.good=true):v.k=0∨v.k=1∨v.k=2∨v.k=3∨v.k=4:=by
 unfold PV.good at h;by_cases h0:v.k=0
 · exact Or.inl h0
 by_cases h1:v.k=1
 · exact Or.inr (Or.inl h1)
 by_cases h2:v.k=2
 · exact Or.inr (Or.inr (Or.inl h2))
 by_cases h3:v.k=3
 · exact Or.inr (Or.inr (Or.inr (Or.inl h3)))
 by_cases h4:v.k=4
 · exact Or.inr (Or.inr (Or.inr (Or.inr h4)))
 rw[if_neg h0,if_neg h1,if_neg h2,if_neg h3,if_neg h4] at h;simp at h
theorem PV.s0 {v:PV} (h:v.good=true) (hk:v.k=0∨v.k=1∨v.k=2∨v.k=3):v.s.toList=(⟨#[]⟩:ByteArray).toList:=by
 unfold PV.good at h;rcases hk with e | e | e | e<;>simp[e] at h<;>simp[h]
theorem PV.fq {v:PV} (h:v.good=true) (hk:v.k=4):v.s.size≤20000:=by
 unfold PV.good at h;simp[hk] at h
 omega
theorem PV.y0 {v:PV} (h:v.good=true) (hk:v.k≠1):v.yes=false:=by
 exact QX
theorem PV.b0 {v:PV} (h:v.good=true) (hk:v.k≠2):v.neg=false∧v.xs= []:=by
 exact QX
section
variable {u v:PV} (g1:u.good=true) (g2:v.good=true) (h3:(u.k==v.k)=true) (h5:u.k≠3)
include g1 g2 h3 h5
end
end Go.Proofs.YtmnmebdmpigddaaGreatDoor
namespace Go.Proofs.YtmnmebdmpigddaaGreatDoor
open Go.RowKit
attribute [local irreducible] OW RS CW EW
section
variable (w:World) (ua ub:PV) (A1 B1 A2 B2:Option Addr) (c1 d1 c2 d2:Nat) (hx:aA w A1 ua.xs) (hl:ua.xs.length≤9223372036854775807) (ha:ua.bits<18446744073709551616) (hy:aA w A2 ub.xs) (hl':ub.xs.length≤9223372036854775807) (hb0:ub.bits<18446744073709551616) (g1:ua.good=true) (g2:ub.good=true)
include hx g1
include hl ha hy hl' hb0 g2
end
end Go.Proofs.YtmnmebdmpigddaaGreatDoor

/- Texts of this claim. -/
import Derived.Test.YtdofcnodhgaedaaGreatDoorG18
import Derived.Lib.Bytealg
set_option maxRecDepth 100000
set_option maxHeartbeats 20000000
namespace Go.Proofs.YtdofcnodhgaedaaGreatDoor
open Go.RowKit Proofs.Tryz
def eZ (k:Int):Bool:=decide (1≤k)&&decide (k≤3)
def PV.cn (v:PV):Bool:=if v.k=1 then false else v.neg
def PV.cx (v:PV):List Nat:=if v.k=1 then (if v.yes then [1] else []) else v.xs
noncomputable def Dx (a b:PV):Int:=
 if a.k=3 then (if b.k=3 then jE a.bits b.bits else tQ a.bits b.cn b.cx)
 else if b.k=3 then 0-tQ b.bits a.cn a.cx else yZ (zm a.cn a.cx&&zm b.cn b.cx) (num a.cn a.cx) (num b.cn b.cx)
def sQ (a b:PV):Bool:=if a.k=3 then (if b.k=3 then ko a.bits b.bits else oc a.bits b.cn b.cx) else if b.k=3 then oc b.bits a.cn a.cx else true
def eqS (a b:PV):Bool:=if a.k==b.k then (a.s.toList==b.s.toList) else false
noncomputable def Jb (a b:PV):Bool:=if a.good&&b.good then (if eZ a.k&&eZ b.k then (if sQ a b then (Dx a b==0) else false) else eqS a b) else false
noncomputable def az8 (a b:PV):Int×Bool×Int:=
 if a.good&&b.good then (if eZ a.k&&eZ b.k then (Dx a b,sQ a b,0) else if (a.k==4)&&(b.k==4) then (Lib.compareBytes a.s.data.toList b.s.data.toList,true,0) else (0,false,9)) else (0,false,3)
noncomputable def aw6 (a b:PV):Bool:=
 if (a.good&&b.good)&&(a.k==b.k) then (if a.k=2 then (yZ (zm a.neg a.xs&&zm b.neg b.xs) (num a.neg a.xs) (num b.neg b.xs)==0) else if a.k=3 then (((BK (Ev a.bits):Nat):Int)==((BK (Ev b.bits):Nat):Int)) else (if a.yes==b.yes then (a.s.toList==b.s.toList) else false)) else false
def N8 (w:World) (A1:Option Addr) (n:Bool) (xs ys:List Nat) (e:Ending) (w':World):Prop:=∃A c,e= .returned (.agg #[.bool n,.slice A ys.length c])∧((A=A1∧ys=xs)∨Own w' w.heap.size A c ys)∧Below w.heap.size w w'
def lV (w:World) (A1 A:Option Addr) (xs ys:List Nat):Prop:=(A=A1∧ys=xs)∨ay w A ys
theorem lV.nums {w:World} {A1 A:Option Addr} {xs ys:List Nat} (h:lV w A1 A xs ys) (hx:ay w A1 xs):ay w A ys:=by
 rcases h with ⟨rfl,rfl⟩ | h
 · exact hx
 · exact h
theorem ykz {X:Nat→Prop} {w w':World} {A1 A:Option Addr} {c:Nat} {xs ys:List Nat} (h:(A=A1∧ys=xs)∨Own w' w.heap.size A c ys) (hX:∀k,X k→k<w.heap.size):Per X w' (fun b=>lV b A1 A xs ys):=fun b hb=>by
 rcases h with h | h
 · exact Or.inl h
 · exact Or.inr (Per.own h hX b hb)
theorem PV.Dy {v:PV} (h:v.xs.length≤9223372036854775807):v.cx.length≤9223372036854775807:=by
 unfold PV.cx;split
 · split<;>simp
 · exact h
theorem SK (i j:Int):-1≤xR i j∧xR i j≤1:=by unfold xR;split<;>(try split)<;>omega
theorem SL (a:Nat) (n1:Bool) (xs:List Nat):-1≤tQ a n1 xs∧tQ a n1 xs≤1:=by
 unfold tQ;split
 · split
   · unfold SI;split<;>omega
   · unfold NY;split
     · exact SK _ _
     · split
       · split<;>omega
       · omega
 · omega
theorem zwv {w:World} {A:Option Addr}:ay w A []:=⟨fun k=>by unfold nth;simp,fun h=>absurd h de⟩
theorem yrx {w:World} {g o:Nat} {v0 v1:Value} (h0:w.cell? ⟨g,o,none⟩=some v0) (h1:w.cell? ⟨g,o+1,none⟩=some v1):∀(j:Nat) (v:Value),#[v0,v1][j]? =some v→w.cell? ⟨g,o+j,none⟩=some v:=fun j v hj=>by
 have hj2:=(Array.getElem?_eq_some_iff.1 hj).1;match j,hj2 with
 | 0,_=>exact h0.trans hj
 | 1,_=>exact h1.trans hj
theorem SN {w:World} {base:Nat}:Own w base none 0 []:=⟨⟨rfl,Or.inl ⟨rfl,rfl⟩⟩,fun _ h=>(by cases h)⟩
theorem zlq {w1 w2:World} {lo base c g:Nat} {A:Option Addr} {xs:List Nat} (h:Own w1 base A c xs) (E:Ext (ah [some g]) w1 w2) (hg:g<base) (hb:lo≤base):Own w2 lo A c xs:=
 ⟨ysq (vw h.1 E (fun q hq hm=>by have:=nD hm;have:=qav h.1 q hq;omega)) hb,h.2⟩
theorem Ws:limbs 1= [1]:=by
 have h:limbs 1= [(1:Int).natAbs]:=IC de de;exact h
theorem Wx {P:Prop} (h:P:=by
 unfold PV.good at h;rcases PV.kinds h with e | e | e | e | e<;>simp[e] at h<;>first | exact absurd e hk | simp[h]):P:=h
theorem Oi:num false [1]=1:=by
 have h:=gu 1;rw[Ws] at h;exact h
theorem al2:num false []=0:=by
 have h:=gu 0;rwa [show limbs 0= [] from qn] at h
theorem DI {w1 w2:World} {lo base c g:Nat} {A:Option Addr} {xs:List Nat} (h:aJ w1 base A c xs) (E:Ext (ah [some g]) w1 w2) (hg:g<base) (hb:lo≤base):aJ w2 lo A c xs:=
 ⟨ysq (vw h.1 E (fun q hq hm=>by have:=nD hm;have:=qav h.1 q hq;omega)) hb,h.2⟩
theorem PV.Wy {v:PV} (h:v.good=true) (hk:v.k=2):zm v.neg v.xs=true:=by
 unfold PV.good at h;rw[if_neg om,if_neg om,if_pos hk] at h;simp only[Bool.and_eq_true] at h
 exact h.2.1.1.1
theorem PV.canon {v:PV} (h:v.good=true) (hk:v.k=1∨v.k=2):v.cn=decide (num v.cn v.cx<0)∧v.cx=limbs (num v.cn v.cx)∧(num v.cn v.cx).natAbs<au^30:=by
 have hg:zm v.cn v.cx=true:=by
  unfold PV.cn PV.cx;by_cases h1:v.k=1
  · rw[if_pos h1,if_pos h1];split
    · have:=qo (i:=1) de;rwa [Ws] at this
    · have:=qo (i:=0) de;rwa [qn] at this
  · rw[if_neg h1,if_neg h1];exact PV.Wy h om
 obtain ⟨i,e1,e2,e3⟩:=sD hg;have e:num v.cn v.cx=i:=by rw[e1,e2,gu]
 rw[e];exact ⟨e1,e2,e3⟩
theorem PV.kinds {v:PV} (h:v.good=true):v.k=0∨v.k=1∨v.k=2∨v.k=3∨v.k=4:=by
 unfold PV.good at h;by_cases h0:v.k=0
 · exact Or.inl h0
 by_cases h1:v.k=1
 · exact Or.inr (Or.inl h1)
 by_cases h2:v.k=2
 · exact Or.inr (Or.inr (Or.inl h2))
 by_cases h3:v.k=3
 · exact Or.inr (Or.inr (Or.inr (Or.inl h3)))
 by_cases h4:v.k=4
 · exact Or.inr (Or.inr (Or.inr (Or.inr h4)))
 rw[if_neg h0,if_neg h1,if_neg h2,if_neg h3,if_neg h4] at h;simp at h
theorem PV.s0 {v:PV} (h:v.good=true) (hk:v.k=0∨v.k=1∨v.k=2∨v.k=3):v.s.toList=(⟨#[]⟩:ByteArray).toList:=by
 unfold PV.good at h;rcases hk with e | e | e | e<;>simp[e] at h<;>simp[h]
theorem PV.F8 {v:PV} (h:v.good=true) (hk:v.k=4):v.s.size≤20000:=by
 unfold PV.good at h;simp[hk] at h
 omega
theorem PV.y0 {v:PV} (h:v.good=true) (hk:v.k≠1):v.yes=false:=by
 exact Wx
theorem PV.b0 {v:PV} (h:v.good=true) (hk:v.k≠2):v.neg=false∧v.xs= []:=by
 exact Wx
section
variable {u v:PV} (g1:u.good=true) (g2:v.good=true) (h3:(u.k==v.k)=true) (h5:u.k≠3)
include g1 g2 h3 h5
end
section
attribute [local irreducible] OW RS CW EW
theorem zR {P Q:Prop} (k:Q) (h:(Unit→Q)→P:=by
 intro zK;refine ya ?_;refine za rfl (zwz (cs:=#[.bool ua.neg,.slice A1 ua.xs.length c1]) u24 rfl xn rfl rfl (yrx (F7.cell 2) (F7.cell 3)) ?_);exact zK ()):P:=h fun _=>k
theorem OT {P:Prop} (h:P:=by
 refine oq (rs:=[.cell 2 48]) (vs:=[_]) rfl ⟨⟨_,rfl,zzq u48 rfl uD DC rfl⟩,trivial⟩ ?_;exact ⟨A3,c3,by rw[e2];rfl,by rw[e2];exact DI hO E4 BY.lt hs,((dV.trans E3).step E4 (fun q hq=>Or.inr (by have:=nD hq;have:=E1.size;omega))).toBelow⟩):P:=h
section
variable (w:World) (ua ub:PV) (A1 B1 A2 B2:Option Addr) (c1 d1 c2 d2:Nat) (hx:ay w A1 ua.xs) (hl:ua.xs.length≤9223372036854775807) (ha:ua.bits<18446744073709551616) (hy:ay w A2 ub.xs) (hl':ub.xs.length≤9223372036854775807) (hb0:ub.bits<18446744073709551616) (g1:ua.good=true) (g2:ub.good=true)
include hx g1
theorem OU (I:Int) (hI:I=num ua.cn ua.cx) (hk:ua.k=1∨ua.k=2):Calls prog 43 #[bI ua A1 c1 B1 d1] w (sJ w I):=by
 subst hI;refine zd func43 rfl ntmps43 rfl (jr ?_);rintro gA wA BX E1 G1;refine za rfl (xi XB ?_);rintro gB wB BY E2 G2;have F7:=BX.ext E2 (fun h=>h.elim);have dV:=E1.trans E2;have hs:=dV.size;refine yd ?_;refine zg rfl (fun hk=>?_) (fun hk=>?_)
 ·
  have hk1:ua.k=1:=by simpa using hk
  refine zn ?_;refine zg rfl (fun hyes=>?_) (fun hyes=>?_)
  ·
   have e2:num ua.cn ua.cx=1:=by unfold PV.cn PV.cx;rw[if_pos hk1,if_pos hk1,if_pos hyes];exact Oi
   refine zo ?_;refine za rfl (zc Qp rfl ((yjk 1 _ de de).mono ?_));rintro e w1 ⟨A3,c3,rfl,hO,hb⟩;refine ⟨_,rfl,?_⟩;have E3:=Ext.of_below hb No;have Je:=BY.ext E3 (fun h=>h.elim);refine yx (qz uD rfl rfl Je rfl rfl rfl ?_);rintro wC DC E4;refine ya ?_;exact OT
  ·
   have e2:num ua.cn ua.cx=0:=by unfold PV.cn PV.cx;rw[if_pos hk1,if_pos hk1,if_neg (by rw[hyes];decide)];exact al2
   refine yf ?_;refine za rfl (zc Qp rfl ((yjk 0 _ de de).mono ?_));rintro e w2 ⟨A3,c3,rfl,hO,hb⟩;refine ⟨_,rfl,?_⟩;have E3:=Ext.of_below hb No;have Je:=BY.ext E3 (fun h=>h.elim);refine yx (qz uD rfl rfl Je rfl rfl rfl ?_);rintro wC DC E4;refine yf ?_;exact OT
 ·
  have hk1:ua.k≠1:=by simpa using hk
  have hk2:ua.k=2:=om;have e2:num ua.cn ua.cx=num ua.neg ua.xs:=by unfold PV.cn PV.cx;rw[if_neg hk1,if_neg hk1]
  have hx3:=Per.aF hx _ dV;refine zR ?_;refine za rfl (zc Qr rfl ((FE ua.neg A1 c1 ua.xs _ hx3 (PV.Wy g1 hk2)).mono ?_));rintro e w3 ⟨A3,c3,rfl,hO,hb⟩;refine ⟨_,rfl,?_⟩;have E3:=Ext.of_below hb No;have Je:=BY.ext E3 (fun h=>h.elim);refine yx (qz uD rfl rfl Je rfl rfl rfl ?_);rintro wC DC E4;refine yl ?_;exact OT
include hl ha hy hl' hb0 g2
end
end
end Go.Proofs.YtdofcnodhgaedaaGreatDoor

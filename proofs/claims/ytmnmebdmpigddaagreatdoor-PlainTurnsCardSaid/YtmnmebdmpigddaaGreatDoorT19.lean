/- Texts of this claim. -/
import Derived.Test.YtmnmebdmpigddaaGreatDoorT18
import Derived.Lib.Bytealg
set_option maxRecDepth 100000
set_option maxHeartbeats 20000000
namespace Go.Proofs.YtmnmebdmpigddaaGreatDoor
open Go.RowKit
def gg (k:Int):Bool:=decide (1≤k)&&decide (k≤3)
def PV.cn (v:PV):Bool:=if v.k=1 then false else v.neg
def PV.cx (v:PV):List Nat:=if v.k=1 then (if v.yes then [1] else []) else v.xs
noncomputable def H6 (a b:PV):Int:=
 if a.k=3 then (if b.k=3 then kQ a.bits b.bits else yG a.bits b.cn b.cx)
 else if b.k=3 then 0-yG b.bits a.cn a.cx else AY (zr a.cn a.cx&&zr b.cn b.cx) (num a.cn a.cx) (num b.cn b.cx)
def wL (a b:PV):Bool:=if a.k=3 then (if b.k=3 then ob a.bits b.bits else wH a.bits b.cn b.cx) else if b.k=3 then wH b.bits a.cn a.cx else true
def eqS (a b:PV):Bool:=if a.k==b.k then (a.s.toList==b.s.toList) else false
noncomputable def NZ (a b:PV):Bool:=if a.good&&b.good then (if gg a.k&&gg b.k then (if wL a b then (H6 a b==0) else false) else eqS a b) else false
noncomputable def aV9 (a b:PV):Int×Bool×Int:=
 if a.good&&b.good then (if gg a.k&&gg b.k then (H6 a b,wL a b,0) else if (a.k==4)&&(b.k==4) then (Lib.compareBytes a.s.data.toList b.s.data.toList,true,0) else (0,false,9)) else (0,false,3)
noncomputable def aSx (a b:PV):Bool:=
 if (a.good&&b.good)&&(a.k==b.k) then (if a.k=2 then (AY (zr a.neg a.xs&&zr b.neg b.xs) (num a.neg a.xs) (num b.neg b.xs)==0) else if a.k=3 then (((yy (qf a.bits):Nat):Int)==((yy (qf b.bits):Nat):Int)) else (if a.yes==b.yes then (a.s.toList==b.s.toList) else false)) else false
def Uj (w:World) (A1:Option Addr) (n:Bool) (xs ys:List Nat) (e:Ending) (w':World):Prop:=∃A c,e= .returned (.agg #[.bool n,.slice A ys.length c])∧((A=A1∧ys=xs)∨Own w' w.heap.size A c ys)∧Below w.heap.size w w'
def lV (w:World) (A1 A:Option Addr) (xs ys:List Nat):Prop:=(A=A1∧ys=xs)∨aC w A ys
theorem lV.nums {w:World} {A1 A:Option Addr} {xs ys:List Nat} (h:lV w A1 A xs ys) (hx:aC w A1 xs):aC w A ys:=by
 rcases h with ⟨rfl,rfl⟩ | h
 · exact hx
 · exact h
theorem ztv {X:Nat→Prop} {w w':World} {A1 A:Option Addr} {c:Nat} {xs ys:List Nat} (h:(A=A1∧ys=xs)∨Own w' w.heap.size A c ys) (hX:∀k,X k→k<w.heap.size):Per X w' (fun b=>lV b A1 A xs ys):=fun b hb=>by
 rcases h with h | h
 · exact Or.inl h
 · exact Or.inr (Per.own h hX b hb)
theorem PV.iy {v:PV} (h:v.xs.length≤9223372036854775807):v.cx.length≤9223372036854775807:=by
 unfold PV.cx;split
 · split<;>simp
 · exact h
theorem ab3 (i j:Int):-1≤zY i j∧zY i j≤1:=by unfold zY;split<;>(try split)<;>omega
theorem ab4 (a:Nat) (n1:Bool) (xs:List Nat):-1≤yG a n1 xs∧yG a n1 xs≤1:=by
 unfold yG;split
 · split
   · unfold ab2;split<;>omega
   · unfold Ui;split
     · exact ab3 _ _
     · split
       · split<;>omega
       · omega
 · omega
theorem xt {w:World} {A:Option Addr}:aC w A []:=⟨fun k=>by unfold nth;simp,fun h=>absurd h de⟩
theorem qrx {w:World} {g o:Nat} {v0 v1:Value} (h0:w.cell? ⟨g,o,none⟩=some v0) (h1:w.cell? ⟨g,o+1,none⟩=some v1):∀(j:Nat) (v:Value),#[v0,v1][j]? =some v→w.cell? ⟨g,o+j,none⟩=some v:=fun j v hj=>by
 have hj2:=(Array.getElem?_eq_some_iff.1 hj).1;match j,hj2 with
 | 0,_=>exact h0.trans hj
 | 1,_=>exact h1.trans hj
theorem Yf {w:World} {base:Nat}:Own w base none 0 []:=⟨⟨rfl,Or.inl ⟨rfl,rfl⟩⟩,fun _ h=>(by cases h)⟩
theorem zyq {w1 w2:World} {lo base c g:Nat} {A:Option Addr} {xs:List Nat} (h:Own w1 base A c xs) (E:Ext (aj [some g]) w1 w2) (hg:g<base) (hb:lo≤base):Own w2 lo A c xs:=
 ⟨quz (xz h.1 E (fun q hq hm=>by have:=pV hm;have:=uE h.1 q hq;omega)) hb,h.2⟩
theorem ymx:limbs 1= [1]:=by
 have h:limbs 1= [(1:Int).natAbs]:=Nc de de;exact h
theorem Uv {P:Prop} (h:P:=by
 unfold PV.good at h;rcases PV.kinds h with e | e | e | e | e<;>simp[e] at h<;>first | exact absurd e hk | simp[h]):P:=h
theorem Uw:num false [1]=1:=by
 have h:=ji 1;rw[ymx] at h;exact h
theorem aI3:num false []=0:=by
 have h:=ji 0;rwa [show limbs 0= [] from vi] at h
theorem Ia {w1 w2:World} {lo base c g:Nat} {A:Option Addr} {xs:List Nat} (h:aQ w1 base A c xs) (E:Ext (aj [some g]) w1 w2) (hg:g<base) (hb:lo≤base):aQ w2 lo A c xs:=
 ⟨quz (xz h.1 E (fun q hq hm=>by have:=pV hm;have:=uE h.1 q hq;omega)) hb,h.2⟩
theorem qkk {k:Int} (h:gg k=true):1≤k∧k≤3:=by
 unfold gg at h;simp only[Bool.and_eq_true,decide_eq_true_eq] at h
 exact h
theorem PV.al2 {v:PV} (h:v.good=true) (hk:v.k=2):zr v.neg v.xs=true:=by
 unfold PV.good at h;rw[if_neg om,if_neg om,if_pos hk] at h;simp only[Bool.and_eq_true] at h
 exact h.2.1.1.1
theorem PV.canon {v:PV} (h:v.good=true) (hk:v.k=1∨v.k=2):v.cn=decide (num v.cn v.cx<0)∧v.cx=limbs (num v.cn v.cx)∧(num v.cn v.cx).natAbs<au^30:=by
 have hg:zr v.cn v.cx=true:=by
  unfold PV.cn PV.cx;by_cases h1:v.k=1
  · rw[if_pos h1,if_pos h1];split
    · have:=vb (i:=1) de;rwa [ymx] at this
    · have:=vb (i:=0) de;rwa [vi] at this
  · rw[if_neg h1,if_neg h1];exact PV.al2 h om
 obtain ⟨i,e1,e2,e3⟩:=qlv hg;have e:num v.cn v.cx=i:=by rw[e1,e2,ji]
 rw[e];exact ⟨e1,e2,e3⟩
theorem PV.kinds {v:PV} (h:v.good=true):v.k=0∨v.k=1∨v.k=2∨v.k=3∨v.k=4:=by
 unfold PV.good at h;by_cases h0:v.k=0
 · exact Or.inl h0
 by_cases h1:v.k=1
 · exact Or.inr (Or.inl h1)
 by_cases h2:v.k=2
 · exact Or.inr (Or.inr (Or.inl h2))
 by_cases h3:v.k=3
 · exact Or.inr (Or.inr (Or.inr (Or.inl h3)))
 by_cases h4:v.k=4
 · exact Or.inr (Or.inr (Or.inr (Or.inr h4)))
 rw[if_neg h0,if_neg h1,if_neg h2,if_neg h3,if_neg h4] at h;simp at h
theorem PV.s0 {v:PV} (h:v.good=true) (hk:v.k=0∨v.k=1∨v.k=2∨v.k=3):v.s.toList=(⟨#[]⟩:ByteArray).toList:=by
 unfold PV.good at h;rcases hk with e | e | e | e<;>simp[e] at h<;>simp[h]
theorem PV.Cg {v:PV} (h:v.good=true) (hk:v.k=4):v.s.size≤20000:=by
 unfold PV.good at h;simp[hk] at h
 omega
theorem PV.y0 {v:PV} (h:v.good=true) (hk:v.k≠1):v.yes=false:=by
 exact Uv
theorem PV.b0 {v:PV} (h:v.good=true) (hk:v.k≠2):v.neg=false∧v.xs= []:=by
 exact Uv
section
variable {u v:PV} (g1:u.good=true) (g2:v.good=true) (h3:(u.k==v.k)=true) (h5:u.k≠3)
include g1 g2 h3 h5
end
end Go.Proofs.YtmnmebdmpigddaaGreatDoor
namespace Go.Proofs.YtmnmebdmpigddaaGreatDoor
open Go.RowKit Proofs.Tryz
theorem BU {P Q:Prop} (k:Q) (h:(Unit→Q)→P:=by
 intro zK;refine zu ?_;refine za rfl (ymk (cs:=#[.bool ua.neg,.slice A1 ua.xs.length c1]) u24 rfl kw rfl rfl (qrx (KW.cell 2) (KW.cell 3)) ?_);exact zK ()):P:=h fun _=>k
theorem UL {P:Prop} (h:P:=by
 exact ⟨by refine congrArg (fun z=>Ending.returned (.bool z)) ?_;unfold gg;first | (simp_all;done) | (refine Bool.eq_iff_iff.2 ?_;simp_all;done) | (refine Bool.eq_iff_iff.2 ?_;simp_all;omega),(LW.step E ak).toBelow⟩):P:=h
theorem UM {P:Prop} (h:P:=by
 refine gr (rs:=[.cell 2 48]) (vs:=[_]) rfl ⟨⟨_,rfl,ycv u48 rfl pX H9 rfl⟩,trivial⟩ ?_;exact ⟨A3,c3,by rw[e2];rfl,by rw[e2];exact Ia hO E4 BY.lt hs,((fH.trans E3).step E4 (fun q hq=>Or.inr (by have:=pV hq;have:=E1.size;omega))).toBelow⟩):P:=h
attribute [local irreducible] OW RS CW EW
section
variable (w:World) (ua ub:PV) (A1 B1 A2 B2:Option Addr) (c1 d1 c2 d2:Nat) (hx:aC w A1 ua.xs) (hl:ua.xs.length≤9223372036854775807) (ha:ua.bits<18446744073709551616) (hy:aC w A2 ub.xs) (hl':ub.xs.length≤9223372036854775807) (hb0:ub.bits<18446744073709551616) (g1:ua.good=true) (g2:ub.good=true)
theorem Om:Calls prog 36 #[bK ua A1 c1 B1 d1] w (aI w (.bool (gg ua.k))):=by
 refine zc func36 rfl ntmps36 rfl ?_;obtain ⟨HF,LW,ak,E⟩:=bg w;refine zi ?_;intro aG w2 aA aK aP;obtain ⟨HF,LW,E⟩:=bD HF LW E ak aA aK;refine qd ?_;refine zj 6 rfl (fun h1=>?_) (fun h1=>?_)
 ·
  replace h1:=eq_of_beq h1;refine jm ?_;exact UL
 ·
  replace h1:=beq_eq_false_iff_ne.1 h1;refine zu ?_;refine zj 11 rfl (fun h2=>?_) (fun h2=>?_)
  ·
   replace h2:=eq_of_beq h2;refine qd ?_;exact UL
  ·
   replace h2:=beq_eq_false_iff_ne.1 h2;refine qd ?_;exact UL
theorem wN (r:Bool) (hr:gg ua.k=r):Calls prog 36 #[bK ua A1 c1 B1 d1] w (aI w (.bool r)):=by
 subst hr;exact Om w ua A1 B1 c1 d1
include hx g1
theorem qix (I:Int) (hI:I=num ua.cn ua.cx) (hk:ua.k=1∨ua.k=2):Calls prog 39 #[bK ua A1 c1 B1 d1] w (ypv w I):=by
 subst hI;refine zc func39 rfl ntmps39 rfl (zi ?_);rintro gA wA BX E1 G1;refine gj ?_;rintro gB wB BY E2 G2;have KW:=BX.ext E2 (fun h=>h.elim);have fH:=E1.trans E2;have hs:=fH.size;refine zz ?_;refine zg rfl (fun hk=>?_) (fun hk=>?_)
 ·
  have hk1:ua.k=1:=by simpa using hk
  refine zp ?_;refine zg rfl (fun hyes=>?_) (fun hyes=>?_)
  ·
   have e2:num ua.cn ua.cx=1:=by unfold PV.cn PV.cx;rw[if_pos hk1,if_pos hk1,if_pos hyes];exact Uw
   refine zm ?_;refine za rfl (zb FU rfl ((zpx 1 _ de de).mono ?_));rintro e w1 ⟨A3,c3,rfl,hO,hb⟩;refine ⟨_,rfl,?_⟩;have E3:=Ext.of_below hb No;have N9:=BY.ext E3 (fun h=>h.elim);refine zk (zw pX rfl rfl N9 rfl rfl rfl ?_);rintro wC H9 E4;refine zu ?_;exact UM
  ·
   have e2:num ua.cn ua.cx=0:=by unfold PV.cn PV.cx;rw[if_pos hk1,if_pos hk1,if_neg (by rw[hyes];decide)];exact aI3
   refine zx ?_;refine za rfl (zb FU rfl ((zpx 0 _ de de).mono ?_));rintro e w2 ⟨A3,c3,rfl,hO,hb⟩;refine ⟨_,rfl,?_⟩;have E3:=Ext.of_below hb No;have N9:=BY.ext E3 (fun h=>h.elim);refine zk (zw pX rfl rfl N9 rfl rfl rfl ?_);rintro wC H9 E4;refine zx ?_;exact UM
 ·
  have hk1:ua.k≠1:=by simpa using hk
  have hk2:ua.k=2:=om;have e2:num ua.cn ua.cx=num ua.neg ua.xs:=by unfold PV.cn PV.cx;rw[if_neg hk1,if_neg hk1]
  have hx3:=Per.aH hx _ fH;refine BU ?_;refine za rfl (zb aA7 rfl ((Km ua.neg A1 c1 ua.xs _ hx3 (PV.al2 g1 hk2)).mono ?_));rintro e w3 ⟨A3,c3,rfl,hO,hb⟩;refine ⟨_,rfl,?_⟩;have E3:=Ext.of_below hb No;have N9:=BY.ext E3 (fun h=>h.elim);refine zk (zw pX rfl rfl N9 rfl rfl rfl ?_);rintro wC H9 E4;refine zn ?_;exact UM
include hl ha hy hl' hb0 g2
end
end Go.Proofs.YtmnmebdmpigddaaGreatDoor

/- Texts of this claim. -/
import Derived.Test.YtmnmebdmpigddaaGreatDoorB23
import Derived.Lib.RepeatB
set_option maxRecDepth 100000
set_option maxHeartbeats 20000000
namespace Go.Proofs.YtmnmebdmpigddaaGreatDoor
open Go.RowKit Proofs.Tryz
noncomputable def gD (op i j:Int):Int×Int:=
 if op=1 then (bE true (i+j),bg true (i+j))
 else if op=2 then (bE true (i-j),bg true (i-j))
 else if op=3 then (bE true (i*j),bg true (i*j))
 else if op=7 then (if j<0 then (0,1) else (bE true (i^j.toNat),bg true (i^j.toNat)))
 else if j=0 then (0,6)
 else if op=5 then (dq (decide (i<0)) (decide (j<0)) i.natAbs j.natAbs,0)
 else (dr (decide (i<0)) (decide (j<0)) i.natAbs j.natAbs,0)
noncomputable def tT (op:Int) (x y:Nat):Nat×Int:=
 if op=1 then (ji (aR .add x y),0)
 else if op=2 then (ji (aR .sub x y),0)
 else if op=3 then (ji (aR .mul x y),0)
 else if op=4 then (pz x y,iH y)
 else if op=5 then (Zz x y,iH y)
 else (pV x y,iH y)
noncomputable def ZA (op:Int) (x y:Nat×Int):PV×Int:=
 if x.2≠0 then (vZ,x.2) else if y.2≠0 then (vZ,y.2) else if (tT op x.1 y.1).2≠0 then (vZ,(tT op x.1 y.1).2) else (vFl (qu (tT op x.1 y.1).1),0)
noncomputable def pW (op:Int) (a b:PV):PV×Int:=
 if a.k=3∨b.k=3 then (if op=7 then (vZ,9) else ZA op (fZ a) (fZ b))
 else if op≠4 then (if (gD op (vb a) (vb b)).2=0 then (vI (gD op (vb a) (vb b)).1,0) else (vZ,(gD op (vb a) (vb b)).2))
 else if vb b=0 then (vZ,6) else ZA op (fZ a) (fZ b)
noncomputable def fA (s:ByteArray) (n:Int):PV×Int:=
 if n≤0∨s.size=0 then (vT ⟨#[]⟩,0) else if 20000<n*s.size then (vZ,2) else (vT ⟨(Lib.repeatL s.data.toList n.toNat).toArray⟩,0)
def WhC (op:Int):Prop:=∀(w:World) (A B:Option Addr) (c d:Nat) (i j:Int),i.natAbs<av^30→j.natAbs<av^30→aA w A (limbs i)→aA w B (limbs j)→
 Calls prog 67 #[.int .i64 op,.agg #[.bool (decide (i<0)),.slice A (limbs i).length c],.agg #[.bool (decide (j<0)),.slice B (limbs j).length d]] w (ya w (gD op i j).1 (gD op i j).2)
def ZB (op:Int):Prop:=∀(w:World) (x y:Nat),x<18446744073709551616→y<18446744073709551616→
 Calls prog 68 #[.int .i64 op,.int .u64 ((x:Nat):Int),.int .u64 ((y:Nat):Int)] w fun e w'=>e= .returned (.tuple #[.int .u64 (((tT op x y).1:Nat):Int),.int .i64 (tT op x y).2])∧Below w.heap.size w w'
theorem Pp {op:Int} (h:WhC op) (w:World) (A B:Option Addr) (c d:Nat) (i j:Int) (hi:i.natAbs<av^30) (hj:j.natAbs<av^30) (hx:aA w A (limbs i)) (hy:aA w B (limbs j)) (V f:Int) (hV:V=(gD op i j).1) (hf:f=(gD op i j).2) :
 Calls prog 67 #[.int .i64 op,.agg #[.bool (decide (i<0)),.slice A (limbs i).length c],.agg #[.bool (decide (j<0)),.slice B (limbs j).length d]] w (ya w V f):=by
 subst hV hf;exact h w A B c d i j hi hj hx hy
theorem tV {op:Int} (h:ZB op) (w:World) (x y:Nat) (hx:x<18446744073709551616) (hy:y<18446744073709551616) (V:Nat) (f:Int) (hV:V=(tT op x y).1) (hf:f=(tT op x y).2) :
 Calls prog 68 #[.int .i64 op,.int .u64 ((x:Nat):Int),.int .u64 ((y:Nat):Int)] w fun e w'=>e= .returned (.tuple #[.int .u64 ((V:Nat):Int),.int .i64 f])∧Below w.heap.size w w':=by
 subst hV hf;exact h w x y hx hy
def isC (v:PV):Bool:=decide (v.k=1) || decide (v.k=2)
noncomputable def gP (op:Int) (a b:PV):PV×Int:=
 if a.good&&b.good then (if op<1∨7<op then (vZ,9)
  else if og a.k&&og b.k then pW op a b
  else if op=1∧a.k=4∧b.k=4 then (if 20000<a.s.size+b.s.size then (vZ,2) else (vT (a.s++b.s),0))
  else if op=3∧a.k=4∧(b.k=1∨b.k=2) then fA a.s (vb b)
  else if op=3∧b.k=4∧(a.k=1∨a.k=2) then fA b.s (vb a)
  else (vZ,9)) else (vZ,3)
theorem Pq {a:PV} (h:a.k=1∨a.k=2):a.k≠3:=om
section
variable {a b:PV} (ha:a.k=1∨a.k=2) (hb:b.k=1∨b.k=2)
include ha hb
theorem qzq {op:Int} (h4:op≠4):pW op a b=if (gD op (vb a) (vb b)).2=0 then (vI (gD op (vb a) (vb b)).1,0) else (vZ,(gD op (vb a) (vb b)).2):=by
 unfold pW;rw[if_neg (fun h=>h.elim (Pq ha) (Pq hb)),if_pos h4]
theorem Ld {op:Int} (h1:op≠1) (h2:op≠2) (h3:op≠3) (h7:op≠7) (h:vb b=0):pW op a b=(vZ,6):=by
 by_cases h4:op=4
 · unfold pW;rw[if_neg (fun h=>h.elim (Pq ha) (Pq hb)),if_neg (not_not_intro h4),if_pos h]
 · have e:gD op (vb a) (vb b)=(0,6):=by
    unfold gD;rw[if_neg h1,if_neg h2,if_neg h3,if_neg h7,if_pos h]
   rw[qzq ha hb h4,e,if_neg de]
theorem XO (h:vb b≠0):pW 4 a b=ZA 4 (fZ a) (fZ b):=by
 unfold pW;rw[if_neg (fun h=>h.elim (Pq ha) (Pq hb)),if_neg de,if_neg h]
end
theorem Ji {a b:PV} {op:Int} (h:a.k=3∨b.k=3):pW op a b=if op=7 then (vZ,9) else ZA op (fZ a) (fZ b):=by
 unfold pW;rw[if_pos h]
theorem Le {v:PV} (h:v.k=1∨v.k=2):og v.k=true:=by rcases h with h | h<;>rw[h]<;>rfl
theorem Lf {k:Int} (h:1≤k∧k≤3):og k=true:=by unfold og;rw[decide_eq_true h.1,decide_eq_true h.2];rfl
theorem qpq {k:Int} (h:¬(1≤k∧k≤3)):og k=false:=by
 unfold og;by_cases h1:1≤k
 · rw[decide_eq_true h1,decide_eq_false (fun e=>h ⟨h1,e⟩)];rfl
 · rw[decide_eq_false h1];rfl
theorem Lg {v:PV} (h:v.k=1∨v.k=2):isC v=true:=by unfold isC;rcases h with h | h<;>rw[h]<;>rfl
theorem nD {v:PV} (h:¬(v.k=1∨v.k=2)):isC v=false:=by unfold isC;rw[decide_eq_false (fun e=>h (Or.inl e)),decide_eq_false (fun e=>h (Or.inr e))];rfl
section
variable {op:Int} {a b:PV} (ga:a.good=true) (gb:b.good=true) (ho:1≤op∧op≤7)
include ga gb ho
theorem yC (ka:1≤a.k∧a.k≤3) (kb:1≤b.k∧b.k≤3):gP op a b=pW op a b:=by
 unfold gP;rw[ga,gb,if_pos (show (true&&true)=true from rfl),if_neg (show ¬(op<1∨7<op) from om),Lf ka,Lf kb,if_pos (show (true&&true)=true from rfl)]
theorem kc (h:¬((1≤a.k∧a.k≤3)∧(1≤b.k∧b.k≤3))):gP op a b=if op=1∧a.k=4∧b.k=4 then (if 20000<a.s.size+b.s.size then (vZ,2) else (vT (a.s++b.s),0))
 else if op=3∧a.k=4∧(b.k=1∨b.k=2) then fA a.s (vb b)
 else if op=3∧b.k=4∧(a.k=1∨a.k=2) then fA b.s (vb a)
 else (vZ,9):=by
 have hn:¬(og a.k&&og b.k)=true:=fun e=>by
  rw[Bool.and_eq_true] at e;by_cases h1:1≤a.k∧a.k≤3
  · have h2:=qpq (fun q=>h ⟨h1,q⟩);rw[h2] at e;exact absurd e.2 de
  · rw[qpq h1] at e;exact absurd e.1 de
 unfold gP;rw[ga,gb,if_pos (show (true&&true)=true from rfl),if_neg (show ¬(op<1∨7<op) from om),if_neg hn]
end
theorem XP {op:Int} {a b:PV} (ga:a.good=true) (gb:b.good=true) (ho:op<1∨7<op):gP op a b=(vZ,9):=by
 unfold gP;rw[ga,gb,if_pos (show (true&&true)=true from rfl),if_pos ho]
theorem zwk (op:BinOp) {x y:Nat}:ji (aR op x y)<18446744073709551616:=by
 unfold ji;cases h:aR op x y with
 | none=>decide
 | some r=>exact (P8 h).2
theorem tX {a b:Nat} (h:¬kn a b=true):rg a<9218868437227405312∧aW b=false:=by
 have h:=Bool.eq_false_iff.2 h;rw[kn] at h;simp only[Bool.or_eq_false_iff,decide_eq_false_iff_not] at h
 have h1:=of_decide_eq_false h.1.1;exact ⟨om,h.1.2⟩
theorem Pt {a b:Nat} (ha:a<18446744073709551616):Zz a b<18446744073709551616:=by
 unfold Zz;split
 · decide
 rename_i hz
 unfold oo;split
 · decide
 rename_i hc
 obtain ⟨hf,hn⟩:=tX hc;have h0:rg b≠0:=fun e=>hz (by unfold dU;rw[e];rfl);split
 · exact (vj _ _ de).2.2
 unfold vek;split
 · exact zwk _
 · exact (zok (GV ha hf hn h0).1).2
theorem aj2 {a b:Nat}:pV a b<18446744073709551616:=by
 unfold pV;split
 · decide
 rename_i hz
 unfold fB;split
 · decide
 rename_i hc
 obtain ⟨hf,hn⟩:=tX hc;have h0:rg b≠0:=fun e=>hz (by unfold dU;rw[e];rfl);split
 · exact (vj _ _ de).2.2
 split
 · exact zwk _
 · exact (yaq hf h0).2.2
theorem nE (op:Int) {x y:Nat} (hx:x<18446744073709551616) (_:y<18446744073709551616):(tT op x y).1<18446744073709551616:=by
 unfold tT;split
 · exact zwk _
 split
 · exact zwk _
 split
 · exact zwk _
 split
 · show pz x y<_
   unfold pz;split
   · decide
   · exact zwk _
 split
 · exact Pt hx
 · exact aj2
theorem XQ (s:ByteArray):(s.toList==(⟨#[]⟩:ByteArray).toList)=decide (s.size=0):=by
 rw[ByteArray.toList_eq,ByteArray.toList_eq,Bool.eq_iff_iff,beq_iff_eq,decide_eq_true_iff];constructor
 · intro h;have h1:=congrArg List.length h;rw[Array.length_toList] at h1;exact h1
 · intro h;exact List.eq_nil_of_length_eq_zero (by rw[Array.length_toList];exact h)
theorem nG {n:Int}:gZ true n 0≤0↔n≤0:=by
 unfold gZ jS;rw[if_pos rfl];split
 · omega
 · split<;>omega
theorem aD2 {m:Nat} (h:0<m):IntKind.i64.wrap ((20000:Int).tdiv ((m:Nat):Int))=((20000/m:Nat):Int):=by
 have h1:(20000:Int).tdiv ((m:Nat):Int)=((20000/m:Nat):Int):=rfl;have h2:20000/m≤20000:=Nat.div_le_self _ _;rw[h1];generalize 20000/m=q at h2 ⊢
 exact yt om
theorem PV.cnI {v:PV} (h:v.good=true) (hk:v.k=1∨v.k=2):v.cn=decide (vb v<0)∧v.cx=limbs (vb v):=⟨(PV.canon h hk).1,(PV.canon h hk).2.1⟩
theorem jp {i:Int} (h:i.natAbs<av^30):zm (decide (i<0)) (limbs i)=true∧num (decide (i<0)) (limbs i)=i:=⟨vh h,jr _⟩
section
attribute [local irreducible] OW RS CW EW
theorem Ya {P Q:Prop} (k:Q) (h:(Unit→Q)→P:=by
 intro zK;refine zr ?_;refine jm ?_;refine aK ?_;exact zK ()):P:=h fun _=>k
theorem jm {P Q:Prop} (k:Q) (h:(Unit→Q)→P:=by
 intro zK;refine za rfl (qz (cs:=#[.int .i64 0,.bool false,.bool false,.slice none 0 0,.int .u64 0,.string ⟨#[]⟩,.slice none 0 0]) nU ko rfl rfl ?_);exact zK ()):P:=h fun _=>k
theorem asj {P:Prop} (h:P:=by
 refine zr ?_;refine za rfl (qz (cs:=#[.int .i64 0,.bool false,.bool false,.slice none 0 0,.int .u64 0,.string ⟨#[]⟩,.slice none 0 0]) nU ko rfl rfl (aK ?_));refine yi qj ay E aj.head fun w26 ay E=>?_;exact iD):P:=h
theorem vbv {P:Prop} (h:P:=by
 exact ⟨none,0,rfl,vtq,aP LW E ak⟩):P:=h
theorem Yb {P:Prop} (h:P:=by
 refine za rfl (qz (cs:=#[.int .i64 0,.bool false,.bool false,.slice none 0 0,.int .u64 0,.string ⟨#[]⟩,.slice none 0 0]) nU ko rfl rfl (yi qj ay E aj.head fun w9 ay E=>?_));exact iD):P:=h
theorem iD {P:Prop} (h:P:=by
 refine zo ?_;exact ⟨none,0,rfl,vtq,aP LW E ak⟩):P:=h
theorem oG {P:Prop} (h:P:=by
 obtain ⟨HF,LW,ak,E⟩:=d9 HF LW E ak (Y:=No) (aj.skip aj.bI) (Per.bH ay au.nil);refine zn ?_;exact ⟨none,0,rfl,vtq,aP LW E ak⟩):P:=h
theorem EC {w:World} (v:PV) (A B:Option Addr) (c d:Nat) (hg:v.good=true) (hk:v.k=1∨v.k=2) (I:Int) (hI:I=vb v):Calls prog 33 #[bG v A c B d] w (Ig w A (decide (I<0)) v.xs (limbs I)):=by
 have h:=zzk w v A B c d;rw[(PV.cnI hg hk).1,(PV.cnI hg hk).2,←hI] at h;exact h
section
variable (w:World) (ua ub:PV) (A1 B1 A2 B2:Option Addr) (c1 d1 c2 d2:Nat) (hx:aA w A1 ua.xs) (hl:ua.xs.length≤9223372036854775807) (ha:ua.bits<18446744073709551616) (hy:aA w A2 ub.xs) (hl':ub.xs.length≤9223372036854775807) (hb0:ub.bits<18446744073709551616)
variable {bp op cp bf of cf bl ol cl:Nat} (hD:∀b,Below w.heap.size w b→iC b) (aV:bV bp op cp bf of cf bl ol cl w) (hE:∃te pe,w.cell? ⟨4,0,none⟩=some (.iface te pe))
include hx hl ha hy hl' hb0 hD aV hE
theorem Jl (op:Int) (hW:WhC op) (hFl:(ua.k=3∨ub.k=3∨op=4)→ZB op) (ga:ua.good=true) (na:og ua.k=true) (gb:ub.good=true) (nb:og ub.k=true) (p:PV×Int) (hp:p=pW op ua ub):Calls prog 30 #[.int .i64 op,bG ua A1 c1 B1 d1,bG ub A2 c2 B2 d2] w (oz w p):=by
 obtain ⟨te,pe,hE⟩:=hE;obtain ⟨x,hX⟩:∃x,x=(fZ ua).1:=⟨_,rfl⟩;obtain ⟨f,hF⟩:∃f,f=(fZ ua).2:=⟨_,rfl⟩;obtain ⟨y,hY⟩:∃y,y=(fZ ub).1:=⟨_,rfl⟩;obtain ⟨g,hG⟩:∃g,g=(fZ ub).2:=⟨_,rfl⟩;have xl:x<18446744073709551616:=hX▸vwq ha;have yl:y<18446744073709551616:=hY▸vwq hb0;refine zj func30 ntmps30 fun HF LW ak E=>?_;replace HF:=HF.and (Per.aD hx);replace HF:=HF.and (Per.aD hy);replace HF:=HF.and (Per.tabs aV (fun _ h=>h.elim));replace HF:=HF.and (Per.bY hE (fun _ h=>h.elim));refine zi ?_;refine zg HF LW E ak fun aO w2 HF LW E=>(zg HF LW E ak fun bM w4 HF LW E=>(yb ko HF LW E ak fun aJ w6 ay dJ HF E ak=>?_));refine ye ?_;replace HF:=HF.on E;replace LW:=LW.step E ak;replace E:=aC (aj [(some aJ)]) w6;refine yy (ι:=Bool) (fun b=>[(0,.int .i64 op),(4,.pointer (some ⟨aO,0,none⟩)),(5,.pointer (some ⟨bM,0,none⟩)),(6,.pointer (some ⟨aJ,0,none⟩)),(7,.int .i64 0),(8,.bool b)]) (fun b w'=>Ext (aj [(some aJ)]) w6 w'∧aB w' aJ 28 (#[.int .i64 0,.bool false,.bool false,.slice none 0 0,.int .u64 0,.string ⟨#[]⟩,.slice none 0 0])∧((b=true↔(ua.k=3∨ub.k=3)))) ?_ ?_
 ·
  have M7:=aC (aj [(some aJ)]) w6;have G5:=aN (aj [(some aJ)]) w6;refine zn ?_;by_cases h1:ua.k=3
  ·
   refine vf 18 rfl (sw h1) (zo ?_);exact yn true ⟨rfl,rfl,rfl,rfl,rfl,rfl,trivial⟩ ⟨M7.step E G5,(by exact ay),⟨fun _=>Or.inl h1,fun _=>rfl⟩⟩
  ·
   refine yu 18 rfl (sw h1) (zo ?_);exact yn (ub.k==3) ⟨rfl,rfl,rfl,rfl,rfl,rfl,trivial⟩ ⟨M7.step E G5,(by exact ay),by rw[beq_iff_eq];exact ⟨Or.inr,fun h=>h.resolve_left h1⟩⟩
 ·
  have wH:=(zc ay.lt);rintro b w8 ⟨M7,ay,hbf⟩;replace E:=E.trans M7;replace HF:=HF.on E;replace LW:=LW.step E ak;replace E:=aC (aj [(some aJ)]) w8;clear wH;by_cases hf:ua.k=3∨ub.k=3
  ·
   have bt:b=true:=hbf.2 hf;rw[Ji hf] at hp;refine zn ?_;refine vf 24 rfl (by rw[bt]<;>rfl) (zn ?_);by_cases h7:op=7
   ·
    rw[if_pos h7] at hp;subst hp;refine qm 27 rfl (sw h7) (zr ?_);exact Yb
   ·
    rw[if_neg h7] at hp;refine zw 27 rfl (sw h7) (qc ?_);refine yu 31 rfl (by rw[bt];rfl) (kh ?_);refine yu 52 rfl (by rw[bt];rfl) ?_;unfold ZA at hp;rw[←hF,←hG,←hX,←hY] at hp;refine kh ?_;refine zh Z6 (qxv _ ua A1 B1 c1 d1 (HF.on E).here.1.1.1.1.1.2 hl ha (later hD (LW.step E ak).toBelow) (HF.on E).here.1.1.1.2 ⟨te,pe,(HF.on E).here.1.1.2⟩ ga na x f hX hF) E ay fun dI E ay=>(kh ?_);by_cases e1:f=0
    ·
     rw[if_neg (not_not_intro e1)] at hp;refine zw 66 rfl (sw e1) (zo ?_);refine zh Z6 (qxv _ ub A2 B2 c2 d2 (HF.on E).here.1.1.1.1.2 hl' hb0 (later hD (LW.step E ak).toBelow) (HF.on E).here.1.1.1.2 ⟨te,pe,(HF.on E).here.1.1.2⟩ gb nb y g hY hG) E ay fun dV E ay=>(kh ?_);by_cases e2:g=0
     ·
      rw[if_neg (not_not_intro e2)] at hp;obtain ⟨z,hZ⟩:∃z,z=(tT op x y).1:=⟨_,rfl⟩;obtain ⟨e,hK⟩:∃e,e=(tT op x y).2:=⟨_,rfl⟩;have zl:z<18446744073709551616:=hZ▸nE op xl yl;rw[←hZ,←hK] at hp;refine zw 75 rfl (sw e2) (yk ?_);refine zh aH9 (tV (hFl (hf.elim Or.inl (fun h=>Or.inr (Or.inl h)))) _ x y xl yl z e hZ hK) E ay fun dB E ay=>(kh ?_);by_cases e3:e=0
      ·
       rw[if_neg (not_not_intro e3)] at hp;subst hp;refine zw 86 rfl (sw e3) (zo ?_);refine zh aH5 (Lh _ ua ha z zl) E ay fun dS E ay=>(yi qj ay E aj.head fun cZ ay E=>?_);exact oG
      ·
       rw[if_pos e3] at hp;subst hp;refine qm 86 rfl (sw e3) (Ya ?_);refine yi qj ay E aj.head fun dQ ay E=>?_;exact iD
     ·
      rw[if_pos e2] at hp;subst hp;refine qm 75 rfl (sw e2) (Ya ?_);refine yi qj ay E aj.head fun w16 ay E=>?_;exact iD
    ·
     rw[if_pos e1] at hp;subst hp;refine qm 66 rfl (sw e1) (Ya ?_);refine yi qj ay E aj.head fun fI ay E=>?_;exact iD
  ·
   have bt:b=false:=by
    cases b
    · rfl
    · exact absurd (hbf.1 rfl) hf
   have ka:ua.k=1∨ua.k=2:=by have:=qhq na;omega
   have kb:ub.k=1∨ub.k=2:=by have:=qhq nb;omega
   obtain ⟨I,hI⟩:∃I,I=vb ua:=⟨_,rfl⟩;obtain ⟨J,hJ⟩:∃J,J=vb ub:=⟨_,rfl⟩;have Ib:I.natAbs<av^30:=hI▸Qu ga ka;have Jb:J.natAbs<av^30:=hJ▸Qu gb kb;refine zn ?_;refine yu 24 rfl (by rw[bt]<;>rfl) (kh ?_);refine vf 31 rfl (by rw[bt];rfl) (zn ?_);by_cases h4:op=4
   ·
    have hjn:=hJ;refine zw 34 rfl (sw h4) (qc ?_);refine vf 52 rfl (by rw[bt];rfl) (aK ?_);refine bZ rfl (ze gY rfl ((EC ub A2 B2 c2 d2 gb kb J hJ).mono ?_));rintro e rT ⟨A4,q4,rfl,hN4,hb⟩;refine ⟨_,rfl,?_⟩;have Ec:=Ext.of_below hb No;replace ay:=ay.aG Ec au.nil;replace E:=E.trans Ec.no;refine bZ rfl (LD u24 rfl u22 rfl rfl rfl (zn ?_));by_cases h0:J=0
    ·
     have hjl:(limbs J).length=0:=by rw[h0,qt];rfl
     rw[Ld ka kb om om om om (hJ▸h0)] at hp;subst hp;refine qm 58 rfl (by rw[hjl];rfl) (zr ?_);refine jm ?_;refine yi qj ay E aj.head fun fC ay E=>?_;exact iD
    ·
     have hjl:=zwx h0;rw[h4,XO ka kb (hJ▸h0),←h4] at hp;refine zw 58 rfl (by rw[beq_eq_false_iff_ne.2 (show (((limbs J).length:Nat):Int)≠0 from om)]<;>rfl) ?_;unfold ZA at hp;rw[←hF,←hG,←hX,←hY] at hp;refine zo ?_;refine zh Z6 (qxv _ ua A1 B1 c1 d1 (HF.on E).here.1.1.1.1.1.2 hl ha (later hD (LW.step E ak).toBelow) (HF.on E).here.1.1.1.2 ⟨te,pe,(HF.on E).here.1.1.2⟩ ga na x f hX hF) E ay fun wL E ay=>(kh ?_);by_cases e1:f=0
     ·
      rw[if_neg (not_not_intro e1)] at hp;refine zw 66 rfl (sw e1) (zo ?_);refine zh Z6 (qxv _ ub A2 B2 c2 d2 (HF.on E).here.1.1.1.1.2 hl' hb0 (later hD (LW.step E ak).toBelow) (HF.on E).here.1.1.1.2 ⟨te,pe,(HF.on E).here.1.1.2⟩ gb nb y g hY hG) E ay fun wW E ay=>(kh ?_);by_cases e2:g=0
      ·
       rw[if_neg (not_not_intro e2)] at hp;obtain ⟨z,hZ⟩:∃z,z=(tT op x y).1:=⟨_,rfl⟩;obtain ⟨e,hK⟩:∃e,e=(tT op x y).2:=⟨_,rfl⟩;have zl:z<18446744073709551616:=hZ▸nE op xl yl;rw[←hZ,←hK] at hp;refine zw 75 rfl (sw e2) (yk ?_);refine zh aH9 (tV (hFl (Or.inr (Or.inr h4))) _ x y xl yl z e hZ hK) E ay fun NP E ay=>(kh ?_);by_cases e3:e=0
       ·
        rw[if_neg (not_not_intro e3)] at hp;subst hp;refine zw 86 rfl (sw e3) (zo ?_);refine zh aH5 (Lh _ ua ha z zl) E ay fun wN E ay=>(yi qj ay E aj.head fun w24 ay E=>?_);exact oG
       ·
        rw[if_pos e3] at hp;subst hp;refine qm 86 rfl (sw e3) (Ya ?_);refine yi qj ay E aj.head fun Hr ay E=>?_;exact iD
      ·
       rw[if_pos e2] at hp;subst hp;refine qm 75 rfl (sw e2) ?_;exact asj
     ·
      rw[if_pos e1] at hp;subst hp;refine qm 66 rfl (sw e1) (Ya ?_);refine yi qj ay E aj.head fun w27 ay E=>?_;exact iD
   ·
    obtain ⟨v,hV⟩:∃v,v=(gD op I J).1:=⟨_,rfl⟩;obtain ⟨f2,hF2⟩:∃f,f=(gD op I J).2:=⟨_,rfl⟩;rw[qzq ka kb h4,←hI,←hJ,←hF2,←hV] at hp;refine qm 34 rfl (sw h4) (zi ?_);have GL:=((LW.step E ak).toBelow).size;have OY:∀q9,(aj (kf [])) q9→q9<(World.drew w8).heap.size→(aj [(some aJ)]) q9:=fun k h _=>(aj.none_) k h;refine yq (aj [(some aJ)]) (aj.grow aj.none_ (zc ay.lt)) [⟨9,10,24,#[.bool false,.slice none 0 0]⟩] [] (xc [Fx.of (.int .i64 op),
     Fx.of (bG ua A1 c1 B1 d1),
     ⟨(Option Addr×Nat),fun (A3,q3)=>.agg #[.bool (decide (I<0)),.slice A3 (limbs I).length q3],fun (A3,q3) b=>(dW b A1 A3 ua.xs (limbs I))⟩,
     Fx.of (bG ub A2 c2 B2 d2),
     ⟨(Option Addr×Nat),fun (A4,q4)=>.agg #[.bool (decide (J<0)),.slice A4 (limbs J).length q4],fun (A4,q4) b=>(dW b A2 A4 ub.xs (limbs J))⟩,
     ⟨(Option Addr×Nat),fun (A5,q5)=>.tuple #[.agg #[.bool (decide (v<0)),.slice A5 (limbs v).length q5],.int .i64 f2],fun (A5,q5) b=>(Own b w.heap.size A5 q5 (limbs v))⟩,
     ⟨(Option Addr×Nat),fun (A5,q5)=>.tuple #[.agg #[.bool (decide (v<0)),.slice A5 (limbs v).length q5],.int .i64 f2],fun (A5,q5) b=>(Own b w.heap.size A5 q5 (limbs v))⟩,
     ⟨(Option Addr×Nat),fun (A5,q5)=>.agg #[.bool (decide (v<0)),.slice A5 (limbs v).length q5],fun (A5,q5) b=>(Own b w.heap.size A5 q5 (limbs v))⟩,
     Fx.of (.int .i64 f2),
     Fx.of undef,
     Fx.of undef,
     Fx.of (.int .i64 f2)]) mixed rfl trivial (fun _ h=>by cases h) ?_ ?_
    · refine ⟨arm,arm,?_,arm,?_,?_,?_,?_,?_,?_,?_,arm,trivial⟩
      · refine yx ?_;intro vs X wq K;have XN:=K.2.1;refine ze gY rfl ((EC ua A1 B1 c1 d1 ga ka I hI).mono ?_);rintro e w2 ⟨A3,q3,rfl,hN,hb⟩;exact ⟨_,rfl,hb,⟨(A3,q3),rfl,Zm hN XN⟩⟩
      · refine yx ?_;intro vs X wq K;have XN:=K.2.1;refine ze gY rfl ((EC ub A2 B2 c2 d2 gb kb J hJ).mono ?_);rintro e w2 ⟨A4,q4,rfl,hN,hb⟩;exact ⟨_,rfl,hb,⟨(A4,q4),rfl,Zm hN XN⟩⟩
      · refine yx ?_;intro vs X wq K;have LE:=K.1;have XN:=K.2.1;obtain ⟨⟨A3,q3⟩,e2,k2⟩:=K.dep 2 rfl rfl rfl;refine qq 38 _ rfl e2 ?_;obtain ⟨⟨A4,q4⟩,e4,k4⟩:=K.dep 4 rfl rfl rfl;refine qq 40 _ rfl e4 (ze aH8 rfl ((Pp hW _ A3 A4 q3 q4 I J Ib Jb ((k2.here).nums (HF.on (E.drew.trans (LE.mono OY))).here.1.1.1.1.1.2) ((k4.here).nums (HF.on (E.drew.trans (LE.mono OY))).here.1.1.1.1.2) v f2 hV hF2).mono ?_));rintro e w2 ⟨A5,q5,rfl,hO,hb⟩;exact ⟨_,rfl,hb,⟨(A5,q5),rfl,qax hO XN (Nat.le_trans GL LE.size)⟩⟩
      · intro vs X wq K;obtain ⟨⟨A5,q5⟩,e5,k5⟩:=K.dep 5 rfl rfl rfl;refine qq 41 _ rfl e5 ?_;exact qhx rfl ⟨Below.refl _ _,⟨⟨A5,q5⟩,rfl,(k5.map (fun _ h=>h))⟩⟩
      · intro vs X wq K;obtain ⟨⟨A5,q5⟩,e6,k6⟩:=K.dep 6 rfl rfl rfl;refine qq 35 _ rfl e6 ?_;exact kj rfl rfl ⟨Below.refl _ _,⟨⟨A5,q5⟩,rfl,(k6.map (fun _ h=>h))⟩⟩
      · intro vs X wq K;obtain ⟨⟨A5,q5⟩,e6,k6⟩:=K.dep 6 rfl rfl rfl;refine qq 35 _ rfl e6 ?_;exact kY
      · exact kZ
      · refine ⟨_,_,_,_,_,rfl,rfl,rfl,oc,fun vs X wq K=>?_⟩;obtain ⟨⟨A5,q5⟩,e0,_⟩:=K.dep 7 rfl rfl rfl;exact ⟨vs 7,rfl,by rw[e0];rfl,by rw[e0];rfl⟩
    intro vs w28 LE AO AL AF AA;have dx:=ay;replace ay:=ay.drew.aG LE au.nil;replace E:=E.drew.trans (LE.mono OY);obtain ⟨⟨A5,q5⟩,e7,k7⟩:=AL.2.2.2.2.2.2.2.1;obtain ⟨_,e11,k11⟩:=AL.2.2.2.2.2.2.2.2.2.2.2.1;obtain ⟨HF,LW,E⟩:=dG HF LW E ak ((k7.map (fun _ h=>h):Per (aj [(some aJ)]) w28 (fun b=>Own b w.heap.size A5 q5 (limbs v))));obtain ⟨aD5,v0,y0,bc4,bc5,aT0,ey,dR⟩:=AF.1;cases ey
    obtain rfl:vs 7=v0:=Option.some.inj dR;rw[e7] at aT0;have Li:Apart (some aD5) (some aJ):=Apart.of_lt (zc dx.lt) bc5;have aU7:=Li.symm;obtain ⟨HF,LW,E⟩:=dG HF LW E ak ((Per.bH aT0 (au.cons Li au.nil):Per (aj [(some aJ)]) w28 (fun b=>aB b aD5 24 #[.bool (decide (v<0)),.slice A5 (limbs v).length q5])));have e9:=bc4;refine vi (τ:=[(0,_),(4,_),(5,_),(6,_),(7,_),(8,_),(9,.pointer (some ⟨aD5,0,none⟩)),(10,.int .i64 f2)]) ⟨rfl,rfl,rfl,rfl,rfl,rfl,congrArg some e9,congrArg some e11,trivial⟩ ?_;clear AL AF AA LE AO OY e7 e11 e9 k7 k11 dx;refine yk ?_;by_cases he:f2=0
    ·
     rw[if_pos he] at hp;subst hp;refine zw 45 rfl (sw he) (zo ?_);refine zh aH3 (CP _ A5 q5 (decide (v<0)) (limbs v)) E ay fun Qs E ay=>(yi qj ay E aj.head fun w31 ay E=>?_);refine zo ?_;exact ⟨A5,q5,rfl,(HF.on E).here.1.2,aP LW E ak⟩
    ·
     rw[if_neg he] at hp;subst hp;refine qm 45 rfl (sw he) (Ya ?_);refine yi qj ay E aj.head fun w32 ay E=>?_;refine zp ?_;exact vbv
end
theorem ED {P Q:Prop} (k:Q) (h:(Unit→Q)→P:=by
 intro zK;refine zn ?_;refine zw 19 rfl (by rw[XQ,decide_eq_false h0]) (qc ?_);refine yu 23 rfl (by rw[he];rfl) (zi ?_);refine bZ rfl (qyk u9 rfl (bZ rfl (qpz rfl rfl om (aD2 om) (ye ?_))));exact zK ()):P:=h fun _=>k
theorem Yc {P:Prop} (h:P:=by
 refine zh aw6 (yG _ ⟨#[]⟩) E bP fun w7 E bP=>(yi qj bP E aj.head fun w8 bP E=>?_);exact iD):P:=h
theorem at0 {P:Prop} (h:P:=by
 refine za rfl (qz (cs:=#[.int .i64 0,.bool false,.bool false,.slice none 0 0,.int .u64 0,.string ⟨#[]⟩,.slice none 0 0]) nU ko rfl rfl (yi qj bP E aj.head fun w7 bP E=>?_));exact iD):P:=h
section
variable (w:World) (A:Option Addr) (c:Nat) (s:ByteArray) (n:Int) (hn:n.natAbs<av^30) (hx:aA w A (limbs n)) (hs:s.size≤20000)
theorem yG:Calls prog 31 #[.string s] w (aF w (.agg #[.int .i64 4,.bool false,.bool false,.slice none 0 0,.int .u64 0,.string s,.slice none 0 0])):=by
 refine zj func31 ntmps31 fun HF LW ak E=>?_;refine zi ?_;refine yb ko HF LW E ak fun aO w2 aT yQ HF E ak=>(CK ?_);refine yi qj aT E aj.head fun w3 aT E=>?_;obtain ⟨HF,LW,ak,E⟩:=d9 HF LW E ak (Y:=No) (aj.skip aj.bI) (Per.bH aT au.nil);refine EB ?_;exact xq
include hn hx hs
theorem aD6 (h:n≤0):Calls prog 32 #[.string s,.agg #[.bool (decide (n<0)),.slice A (limbs n).length c]] w (oz w (vT ⟨#[]⟩,0)):=by
 have _:=hs;have ln:=zt hn;obtain ⟨gn,nn⟩:=jp hn;obtain ⟨k,hK⟩:∃k,k=mW true n:=⟨_,rfl⟩;obtain ⟨e,hE⟩:∃e,e=iB true n:=⟨_,rfl⟩;refine zj func32 ntmps32 fun HF LW ak E=>?_;replace HF:=HF.and (Per.aD hx);refine zi ?_;refine zg HF LW E ak fun aO w2 HF LW E=>(yb ko HF LW E ak fun bM w4 bP sj HF E ak=>?_);refine zo ?_;have hI:=vax A c (limbs n) w4 (decide (n<0)) (HF.on E).here.1.2 om;rw[gn,nn] at hI;unfold Qt at hI;rw[←hK,←hE] at hI;refine zh Rn (hI) E bP fun w5 E bP=>(yv ?_);have hS:=yyx A c (limbs n) w5 (decide (n<0)) (HF.on E).here.1.2 om;rw[gn,nn] at hS;refine zh Ro (hS) E bP fun w6 E bP=>(zi ?_);refine vf 16 rfl (by rw[decide_eq_true (nG.2 h)]<;>rfl) (yk ?_);exact Yc
theorem aD7 (h:0<n) (h0:s.size=0):Calls prog 32 #[.string s,.agg #[.bool (decide (n<0)),.slice A (limbs n).length c]] w (oz w (vT ⟨#[]⟩,0)):=by
 have _:=hs;have ln:=zt hn;obtain ⟨gn,nn⟩:=jp hn;obtain ⟨k,hK⟩:∃k,k=mW true n:=⟨_,rfl⟩;obtain ⟨e,hE⟩:∃e,e=iB true n:=⟨_,rfl⟩;refine zj func32 ntmps32 fun HF LW ak E=>?_;replace HF:=HF.and (Per.aD hx);refine zi ?_;refine zg HF LW E ak fun aO w2 HF LW E=>(yb ko HF LW E ak fun bM w4 bP sj HF E ak=>?_);refine zo ?_;have hI:=vax A c (limbs n) w4 (decide (n<0)) (HF.on E).here.1.2 om;rw[gn,nn] at hI;unfold Qt at hI;rw[←hK,←hE] at hI;refine zh Rn (hI) E bP fun w5 E bP=>(yv ?_);have hS:=yyx A c (limbs n) w5 (decide (n<0)) (HF.on E).here.1.2 om;rw[gn,nn] at hS;refine zh Ro (hS) E bP fun w6 E bP=>(zi ?_);refine yu 16 rfl (by rw[decide_eq_false (fun q=>by have:=nG.1 q;omega)]<;>rfl) (zn ?_);refine qm 19 rfl (by rw[XQ,decide_eq_true h0]) (zr ?_);exact Yc
theorem aD8 (h:0<n) (h0:s.size≠0) (hr:¬eU n):Calls prog 32 #[.string s,.agg #[.bool (decide (n<0)),.slice A (limbs n).length c]] w (oz w (vZ,2)):=by
 have _:=hs;have ln:=zt hn;obtain ⟨gn,nn⟩:=jp hn;obtain ⟨k,hK⟩:∃k,k=mW true n:=⟨_,rfl⟩;obtain ⟨e,hE⟩:∃e,e=iB true n:=⟨_,rfl⟩;have he:e=7:=by rw[hE];unfold iB;rw[if_pos rfl,if_neg hr]
 refine zj func32 ntmps32 fun HF LW ak E=>?_;replace HF:=HF.and (Per.aD hx);refine zi ?_;refine zg HF LW E ak fun aO w2 HF LW E=>(yb ko HF LW E ak fun bM w4 bP sj HF E ak=>?_);refine zo ?_;have hI:=vax A c (limbs n) w4 (decide (n<0)) (HF.on E).here.1.2 om;rw[gn,nn] at hI;unfold Qt at hI;rw[←hK,←hE] at hI;refine zh Rn (hI) E bP fun w5 E bP=>(yv ?_);have hS:=yyx A c (limbs n) w5 (decide (n<0)) (HF.on E).here.1.2 om;rw[gn,nn] at hS;refine zh Ro (hS) E bP fun w6 E bP=>(zi ?_);refine yu 16 rfl (by rw[decide_eq_false (fun q=>by have:=nG.1 q;omega)]<;>rfl) (zn ?_);refine zw 19 rfl (by rw[XQ,decide_eq_false h0]) (qc ?_);refine vf 23 rfl (by rw[he];rfl) (yv ?_);exact at0
theorem aj8 (h:0<n) (h0:s.size≠0) (hr:eU n) (hl:((20000/s.size:Nat):Int)<n):Calls prog 32 #[.string s,.agg #[.bool (decide (n<0)),.slice A (limbs n).length c]] w (oz w (vZ,2)):=by
 have _:=hs;have ln:=zt hn;obtain ⟨gn,nn⟩:=jp hn;obtain ⟨k,hK⟩:∃k,k=mW true n:=⟨_,rfl⟩;obtain ⟨e,hE⟩:∃e,e=iB true n:=⟨_,rfl⟩;have hk:k=n:=by rw[hK];unfold mW;rw[if_pos rfl,if_pos hr]
 have he:e=0:=by rw[hE];unfold iB;rw[if_pos rfl,if_pos hr]
 refine zj func32 ntmps32 fun HF LW ak E=>?_;replace HF:=HF.and (Per.aD hx);refine zi ?_;refine zg HF LW E ak fun aO w2 HF LW E=>(yb ko HF LW E ak fun bM w4 bP sj HF E ak=>?_);refine zo ?_;have hI:=vax A c (limbs n) w4 (decide (n<0)) (HF.on E).here.1.2 om;rw[gn,nn] at hI;unfold Qt at hI;rw[←hK,←hE] at hI;refine zh Rn (hI) E bP fun w5 E bP=>(yv ?_);have hS:=yyx A c (limbs n) w5 (decide (n<0)) (HF.on E).here.1.2 om;rw[gn,nn] at hS;refine zh Ro (hS) E bP fun w6 E bP=>(zi ?_);refine yu 16 rfl (by rw[decide_eq_false (fun q=>by have:=nG.1 q;omega)]<;>rfl) (ED ?_);refine qm 29 rfl (by rw[hk,decide_eq_true hl]<;>rfl) (zr ?_);exact at0
theorem aT1 (h:0<n) (h0:s.size≠0) (hr:eU n) (hl:¬((20000/s.size:Nat):Int)<n) (m:Nat) (hm:n=(m:Int)) (hlen:s.size*m≤20000):Calls prog 32 #[.string s,.agg #[.bool (decide (n<0)),.slice A (limbs n).length c]] w (oz w (vT ⟨(Lib.repeatL s.data.toList m).toArray⟩,0)):=by
 have _:=hs;have ln:=zt hn;obtain ⟨gn,nn⟩:=jp hn;obtain ⟨k,hK⟩:∃k,k=mW true n:=⟨_,rfl⟩;obtain ⟨e,hE⟩:∃e,e=iB true n:=⟨_,rfl⟩;have hk:k=n:=by rw[hK];unfold mW;rw[if_pos rfl,if_pos hr]
 have he:e=0:=by rw[hE];unfold iB;rw[if_pos rfl,if_pos hr]
 refine zj func32 ntmps32 fun HF LW ak E=>?_;replace HF:=HF.and (Per.aD hx);refine zi ?_;refine zg HF LW E ak fun aO w2 HF LW E=>(yb ko HF LW E ak fun bM w4 bP sj HF E ak=>?_);refine zo ?_;have hI:=vax A c (limbs n) w4 (decide (n<0)) (HF.on E).here.1.2 om;rw[gn,nn] at hI;unfold Qt at hI;rw[←hK,←hE] at hI;refine zh Rn (hI) E bP fun w5 E bP=>(yv ?_);have hS:=yyx A c (limbs n) w5 (decide (n<0)) (HF.on E).here.1.2 om;rw[gn,nn] at hS;refine zh Ro (hS) E bP fun w6 E bP=>(zi ?_);refine yu 16 rfl (by rw[decide_eq_false (fun q=>by have:=nG.1 q;omega)]<;>rfl) (ED ?_);refine zw 29 rfl (by rw[hk,decide_eq_false hl]<;>rfl) (zp ?_);have hm2:=hr.2;refine zk 32 (.int .i64 ((m:Nat):Int)) rfl (by rw[hk,hm]<;>rfl) (zh aW0 (Tryz.strings_Repeat s m _ om om) E bP fun w7 E bP=>(zh aw6 (yG _ ⟨(Lib.repeatL s.data.toList m).toArray⟩) E bP fun w8 E bP=>(yi qj bP E aj.head fun w9 bP E=>?_)));obtain ⟨HF,LW,ak,E⟩:=d9 HF LW E ak (Y:=No) (aj.skip aj.bI) (Per.bH bP au.nil);refine zn ?_;exact vbv
theorem tY (p:PV×Int) (hp:p=fA s n):Calls prog 32 #[.string s,.agg #[.bool (decide (n<0)),.slice A (limbs n).length c]] w (oz w p):=by
 subst hp;unfold fA;by_cases h:n≤0
 · rw[if_pos (Or.inl h)];exact aD6 w A c s n hn hx hs h
 by_cases h0:s.size=0
 · rw[if_pos (Or.inr h0)];exact aD7 w A c s n hn hx hs om h0
 rw[if_neg om];obtain ⟨m,hm⟩:=Int.eq_ofNat_of_zero_le (show 0≤n from om);have hmul:n*(s.size:Int)=((m*s.size:Nat):Int):=by rw[hm,Int.natCast_mul]
 have hm0:0<m:=om;have hge:m≤m*s.size:=Nat.le_mul_of_pos_right m om;by_cases hr:eU n
 · have hd:20000/s.size<m↔20000<m*s.size:=Nat.div_lt_iff_lt_mul om;by_cases hl:20000/s.size<m
   · rw[if_pos (by rw[hmul];have:=hd.1 hl;omega)];exact aj8 w A c s n hn hx hs om h0 hr om
   · have h9:m*s.size≤20000:=by have:=mt hd.2 hl;omega
     rw[if_neg (by rw[hmul];omega),show n.toNat=m from om];exact aT1 w A c s n hn hx hs om h0 hr om m hm (by rw[Nat.mul_comm];exact h9)
 · have h9:9223372036854775807<m:=by
    unfold eU at hr;omega
   rw[if_pos (by rw[hmul];omega)];exact aD8 w A c s n hn hx hs om h0 hr
end
theorem EF {P Q:Prop} (k:Q) (h:(Unit→Q)→P:=by
 intro zK;refine ja ?_;refine yu 19 rfl (by rw[decide_eq_false om]<;>rfl) (zn ?_);refine zw 22 rfl (by rw[decide_eq_false om]<;>rfl) (yk ?_);exact zK ()):P:=h fun _=>k
theorem yjx {P Q:Prop} (k:Q) (h:(Unit→Q)→P:=by
 intro zK;refine yj (qx qj rfl rfl ay rfl rfl rfl ?_);exact zK ()):P:=h fun _=>k
theorem EG {P Q:Prop} (k:Q) (h:(Unit→Q)→P:=by
 intro zK;refine vf 98 rfl (sw b4) (ye ?_);refine yu 102 rfl (by rw[beq_eq_false_iff_ne.2 (show ua.k≠1 from om)]<;>rfl) (yk ?_);refine zw 90 rfl (by rw[beq_eq_false_iff_ne.2 (show ua.k≠2 from om)]<;>rfl) ?_;exact zK ()):P:=h fun _=>k
theorem Yd {P:Prop} (h:P:=by
 rw[kc ga gb ⟨h1,h7⟩ om,if_neg om,if_neg om,if_neg om] at hp;subst hp;refine zo ?_;exact at1):P:=h
theorem Ye {P:Prop} (h:P:=by
 refine yu 98 rfl (sw b4) ?_;rw[kc ga gb ⟨h1,h7⟩ om,if_neg om,if_neg om,if_neg om] at hp;subst hp;refine yN ?_;exact at5):P:=h
theorem at6 {P:Prop} (h:P:=by
 refine za rfl (qz (cs:=#[.int .i64 0,.bool false,.bool false,.slice none 0 0,.int .u64 0,.string ⟨#[]⟩,.slice none 0 0]) nU ko rfl rfl (yi qj ay E aj.head fun w8 ay E=>?_));exact iD):P:=h
theorem at7 {P:Prop} (h:P:=by
 refine za rfl (qz (cs:=#[.int .i64 0,.bool false,.bool false,.slice none 0 0,.int .u64 0,.string ⟨#[]⟩,.slice none 0 0]) nU ko rfl rfl (yi qj ay E aj.head fun wL ay E=>?_));exact oG):P:=h
theorem atq {P:Prop} (h:P:=by
 refine za rfl (qz (cs:=#[.int .i64 0,.bool false,.bool false,.slice none 0 0,.int .u64 0,.string ⟨#[]⟩,.slice none 0 0]) nU ko rfl rfl (yi qj ay E aj.head fun dS ay E=>?_));exact oG):P:=h
theorem Yf {P:Prop} (h:P:=by
 refine za rfl (qz (cs:=#[.int .i64 0,.bool false,.bool false,.slice none 0 0,.int .u64 0,.string ⟨#[]⟩,.slice none 0 0]) nU ko rfl rfl (yi qj ay E aj.head fun wW ay E=>?_));exact oG):P:=h
theorem Yg {P:Prop} (h:P:=by
 refine za rfl (qz (cs:=#[.int .i64 0,.bool false,.bool false,.slice none 0 0,.int .u64 0,.string ⟨#[]⟩,.slice none 0 0]) nU ko rfl rfl (yi qj ay E aj.head fun fC ay E=>?_));exact oG):P:=h
theorem at5 {P:Prop} (h:P:=by
 refine za rfl (qz (cs:=#[.int .i64 0,.bool false,.bool false,.slice none 0 0,.int .u64 0,.string ⟨#[]⟩,.slice none 0 0]) nU ko rfl rfl (yi qj ay E aj.head fun rT ay E=>?_));exact oG):P:=h
theorem at1 {P:Prop} (h:P:=by
 refine za rfl (qz (cs:=#[.int .i64 0,.bool false,.bool false,.slice none 0 0,.int .u64 0,.string ⟨#[]⟩,.slice none 0 0]) nU ko rfl rfl (yi qj ay E aj.head fun fI ay E=>?_));exact oG):P:=h
theorem atz {P:Prop} (h:P:=by
 refine ja ?_;refine yu 68 rfl (sw o1) (Qc ?_);refine yu 93 rfl (sw o1) ?_;rw[kc ga gb ⟨h1,h7⟩ om,if_neg om,if_neg om,if_neg om] at hp;subst hp;refine Qc ?_;refine za rfl (qz (cs:=#[.int .i64 0,.bool false,.bool false,.slice none 0 0,.int .u64 0,.string ⟨#[]⟩,.slice none 0 0]) nU ko rfl rfl (yj (qx qj rfl rfl ay rfl rfl rfl ?_)));intro cZ Bx dw;replace ay:aB cZ aJ 28 #[.int .i64 0,.bool false,.bool false,.slice none 0 0,.int .u64 0,.string ⟨#[]⟩,.slice none 0 0]:=Bx;replace E:=E.step1 dw aj.head;exact oG):P:=h
theorem atx {P:Prop} (h:P:=by
 intro vs w16 LE AO AL AF AA;have dx:=ay;replace E:=E.drew.trans (LE.mono OY);obtain ⟨⟨A5,q5⟩,e5,k5⟩:=AL.2.2.2.2.2.1;obtain ⟨_,e8,k8⟩:=AL.2.2.2.2.2.2.2.2.1;obtain ⟨v0,y0,Bx,ey,dR⟩:=AO.1;cases ey
 obtain rfl:vs 5=v0:=Option.some.inj dR;rw[e5] at Bx;replace ay:aB w16 aJ 28 #[.int .i64 p.1.k,.bool p.1.yes,.bool p.1.neg,.slice A5 p.1.xs.length q5,.int .u64 (p.1.bits:Int),.string p.1.s,.slice none 0 0]:=Bx;obtain ⟨HF,LW,E⟩:=dG HF LW E ak ((k5.map (fun _ h=>h):Per (aj [(some aJ)]) w16 (fun b=>Own b w.heap.size A5 q5 p.1.xs)));refine vi (τ:=[(6,_),(7,.int .i64 p.2)]) ⟨rfl,congrArg some e8,trivial⟩ ?_;clear AL AF AA LE AO OY e5 e8 k5 k8 dx;refine zn ?_;exact ⟨A5,q5,rfl,(HF.on E).here.2,aP LW E ak⟩):P:=h
theorem atj {P:Prop} (h:P:=by
 intro vs dQ LE AO AL AF AA;have dx:=ay;replace E:=E.drew.trans (LE.mono OY);obtain ⟨⟨A5,q5⟩,e5,k5⟩:=AL.2.2.2.2.2.1;obtain ⟨_,e8,k8⟩:=AL.2.2.2.2.2.2.2.2.1;obtain ⟨v0,y0,Bx,ey,dR⟩:=AO.1;cases ey
 obtain rfl:vs 5=v0:=Option.some.inj dR;rw[e5] at Bx;replace ay:aB dQ aJ 28 #[.int .i64 p.1.k,.bool p.1.yes,.bool p.1.neg,.slice A5 p.1.xs.length q5,.int .u64 (p.1.bits:Int),.string p.1.s,.slice none 0 0]:=Bx;obtain ⟨HF,LW,E⟩:=dG HF LW E ak ((k5.map (fun _ h=>h):Per (aj [(some aJ)]) dQ (fun b=>Own b w.heap.size A5 q5 p.1.xs)));refine vi (τ:=[(6,_),(7,.int .i64 p.2)]) ⟨rfl,congrArg some e8,trivial⟩ ?_;clear AL AF AA LE AO OY e5 e8 k5 k8 dx;refine zn ?_;exact ⟨A5,q5,rfl,(HF.on E).here.2,aP LW E ak⟩):P:=h
theorem au0 {P:Prop} (h:P:=by
 refine ⟨arm,arm,arm,?_,?_,?_,?_,?_,arm,trivial⟩
 · refine yx ?_;intro vs X wq K;have XN:=K.2.1;refine ze gY rfl ((EC ub A2 B2 c2 d2 gb cb J hJ).mono ?_);rintro e w2 ⟨A4,q4,rfl,hN,hb⟩;exact ⟨_,rfl,hb,⟨(A4,q4),rfl,Zm hN XN⟩⟩
 · refine yx ?_;intro vs X wq K;have LE:=K.1;have XN:=K.2.1;obtain ⟨⟨A4,q4⟩,e3,k3⟩:=K.dep 3 rfl rfl rfl;refine qq 86 _ rfl e3 (ze aGj rfl ((tY _ A4 q4 ua.s J Jb ((k3.here).nums (HF.on (E.drew.trans (LE.mono OY))).here.1.1.1.1.2) zs p hp).mono ?_));rintro e w2 ⟨A5,q5,rfl,hO,hb⟩;exact ⟨_,rfl,hb,⟨(A5,q5),rfl,qax hO XN (Nat.le_trans GL LE.size)⟩⟩
 · intro vs X wq K;obtain ⟨⟨A5,q5⟩,e4,k4⟩:=K.dep 4 rfl rfl rfl;refine qq 87 _ rfl e4 ?_;exact kj rfl rfl ⟨Below.refl _ _,⟨⟨A5,q5⟩,rfl,(k4.map (fun _ h=>h))⟩⟩
 · intro vs X wq K;obtain ⟨⟨A5,q5⟩,e4,k4⟩:=K.dep 4 rfl rfl rfl;refine qq 87 _ rfl e4 ?_;exact kj rfl rfl ⟨Below.refl _ _,Left.of rfl⟩
 · refine ⟨_,_,_,_,_,rfl,rfl,qj,fun vs X wq K=>⟨rfl,?_⟩⟩;obtain ⟨⟨A5,q5⟩,e0,_⟩:=K.dep 5 rfl rfl rfl;exact ⟨vs 5,rfl,by rw[e0];rfl,by rw[e0];rfl⟩):P:=h
theorem au1 {P:Prop} (h:P:=by
 refine ⟨arm,arm,arm,?_,?_,?_,?_,?_,arm,trivial⟩
 · refine yx ?_;intro vs X wq K;have XN:=K.2.1;refine ze gY rfl ((EC ua A1 B1 c1 d1 ga ca J hJ).mono ?_);rintro e w2 ⟨A4,q4,rfl,hN,hb⟩;exact ⟨_,rfl,hb,⟨(A4,q4),rfl,Zm hN XN⟩⟩
 · refine yx ?_;intro vs X wq K;have LE:=K.1;have XN:=K.2.1;obtain ⟨⟨A4,q4⟩,e3,k3⟩:=K.dep 3 rfl rfl rfl;refine qq 111 _ rfl e3 (ze aGj rfl ((tY _ A4 q4 ub.s J Jb ((k3.here).nums (HF.on (E.drew.trans (LE.mono OY))).here.1.1.1.1.1.2) zs p hp).mono ?_));rintro e w2 ⟨A5,q5,rfl,hO,hb⟩;exact ⟨_,rfl,hb,⟨(A5,q5),rfl,qax hO XN (Nat.le_trans GL LE.size)⟩⟩
 · intro vs X wq K;obtain ⟨⟨A5,q5⟩,e4,k4⟩:=K.dep 4 rfl rfl rfl;refine qq 112 _ rfl e4 ?_;exact kj rfl rfl ⟨Below.refl _ _,⟨⟨A5,q5⟩,rfl,(k4.map (fun _ h=>h))⟩⟩
 · intro vs X wq K;obtain ⟨⟨A5,q5⟩,e4,k4⟩:=K.dep 4 rfl rfl rfl;refine qq 112 _ rfl e4 ?_;exact kj rfl rfl ⟨Below.refl _ _,Left.of rfl⟩
 · refine ⟨_,_,_,_,_,rfl,rfl,qj,fun vs X wq K=>⟨rfl,?_⟩⟩;obtain ⟨⟨A5,q5⟩,e0,_⟩:=K.dep 5 rfl rfl rfl;exact ⟨vs 5,rfl,by rw[e0];rfl,by rw[e0];rfl⟩):P:=h
section
variable (w:World) (ua ub:PV) (A1 B1 A2 B2:Option Addr) (c1 d1 c2 d2:Nat) (hx:aA w A1 ua.xs) (hl:ua.xs.length≤9223372036854775807) (ha:ua.bits<18446744073709551616) (hy:aA w A2 ub.xs) (hl':ub.xs.length≤9223372036854775807) (hb0:ub.bits<18446744073709551616)
variable {bp op cp bf of cf bl ol cl:Nat} (hD:∀b,Below w.heap.size w b→iC b) (aV:bV bp op cp bf of cf bl ol cl w) (hE:∃te pe,w.cell? ⟨4,0,none⟩=some (.iface te pe))
include hx hl ha hy hl' hb0 hD aV hE
theorem aj9 (op:Int) (p:PV×Int) (hp:p=gP op ua ub) (ga:ua.good=false):Calls prog 7 #[.int .i64 op,bG ua A1 c1 B1 d1,bG ub A2 c2 B2 d2] w (oz w p):=by
 have _:=hx;have _:=hl;have _:=ha;have _:=hy;have _:=hl';have _:=hb0;have _:=hD;have _:=aV;have _:=hE;obtain ⟨te,pe,hE⟩:=hE;have e:gP op ua ub=(vZ,3):=by unfold gP;rw[ga];rfl
 rw[e] at hp;subst hp;refine zj func7 ntmps7 fun HF LW ak E=>?_;replace HF:=HF.and (Per.aD hx);replace HF:=HF.and (Per.aD hy);replace HF:=HF.and (Per.tabs aV (fun _ h=>h.elim));replace HF:=HF.and (Per.bY hE (fun _ h=>h.elim));refine zi ?_;refine zg HF LW E ak fun aO w2 HF LW E=>(zg HF LW E ak fun bM w4 HF LW E=>(yb ko HF LW E ak fun aJ w6 ay dJ HF E ak=>?_));refine zp ?_;refine zh gQ (jc _ ua A1 B1 c1 d1 (HF.on E).here.1.1.1.1.1.2 hl false ga) E ay fun w7 E ay=>(yv ?_);exact at6
theorem ajq (op:Int) (p:PV×Int) (hp:p=gP op ua ub) (ga:ua.good=true) (gb:ub.good=false):Calls prog 7 #[.int .i64 op,bG ua A1 c1 B1 d1,bG ub A2 c2 B2 d2] w (oz w p):=by
 have _:=hx;have _:=hl;have _:=ha;have _:=hy;have _:=hl';have _:=hb0;have _:=hD;have _:=aV;have _:=hE;obtain ⟨te,pe,hE⟩:=hE;have e:gP op ua ub=(vZ,3):=by unfold gP;rw[ga,gb];rfl
 rw[e] at hp;subst hp;refine zj func7 ntmps7 fun HF LW ak E=>?_;replace HF:=HF.and (Per.aD hx);replace HF:=HF.and (Per.aD hy);replace HF:=HF.and (Per.tabs aV (fun _ h=>h.elim));replace HF:=HF.and (Per.bY hE (fun _ h=>h.elim));refine zi ?_;refine zg HF LW E ak fun aO w2 HF LW E=>(zg HF LW E ak fun bM w4 HF LW E=>(yb ko HF LW E ak fun aJ w6 ay dJ HF E ak=>?_));refine zp ?_;refine zh gQ (jc _ ua A1 B1 c1 d1 (HF.on E).here.1.1.1.1.1.2 hl true ga) E ay fun w7 E ay=>(zr ?_);refine zh gQ (jc _ ub A2 B2 c2 d2 (HF.on E).here.1.1.1.1.2 hl' false gb) E ay fun w8 E ay=>(zp ?_);exact Yb
theorem aD9 (op:Int) (p:PV×Int) (hp:p=gP op ua ub) (ga:ua.good=true) (gb:ub.good=true) (ho:op<1∨7<op):Calls prog 7 #[.int .i64 op,bG ua A1 c1 B1 d1,bG ub A2 c2 B2 d2] w (oz w p):=by
 have _:=hx;have _:=hl;have _:=ha;have _:=hy;have _:=hl';have _:=hb0;have _:=hD;have _:=aV;have _:=hE;obtain ⟨te,pe,hE⟩:=hE;rw[XP ga gb ho] at hp;subst hp;refine zj func7 ntmps7 fun HF LW ak E=>?_;replace HF:=HF.and (Per.aD hx);replace HF:=HF.and (Per.aD hy);replace HF:=HF.and (Per.tabs aV (fun _ h=>h.elim));replace HF:=HF.and (Per.bY hE (fun _ h=>h.elim));refine zi ?_;refine zg HF LW E ak fun aO w2 HF LW E=>(zg HF LW E ak fun bM w4 HF LW E=>(yb ko HF LW E ak fun aJ w6 ay dJ HF E ak=>?_));refine zp ?_;refine zh gQ (jc _ ua A1 B1 c1 d1 (HF.on E).here.1.1.1.1.1.2 hl true ga) E ay fun w7 E ay=>(zr ?_);refine zh gQ (jc _ ub A2 B2 c2 d2 (HF.on E).here.1.1.1.1.2 hl' true gb) E ay fun w8 E ay=>(ja ?_);by_cases h1:op<1
 ·
  refine vf 19 rfl (by rw[decide_eq_true h1]<;>rfl) (yk ?_);exact Yb
 ·
  refine yu 19 rfl (by rw[decide_eq_false h1]<;>rfl) (zn ?_);refine qm 22 rfl (by rw[decide_eq_true om]<;>rfl) (zr ?_);refine jm ?_;refine yi qj ay E aj.head fun dI ay E=>?_;exact iD
theorem aDq (op:Int) (p:PV×Int) (hp:p=gP op ua ub) (hW:WhC op) (hFl:(ua.k=3∨ub.k=3∨op=4)→ZB op) (ga:ua.good=true) (gb:ub.good=true) (h1:1≤op) (h7:op≤7) (na:1≤ua.k∧ua.k≤3):Calls prog 7 #[.int .i64 op,bG ua A1 c1 B1 d1,bG ub A2 c2 B2 d2] w (oz w p):=by
 have _:=hx;have _:=hl;have _:=ha;have _:=hy;have _:=hl';have _:=hb0;have _:=hD;have _:=aV;have _:=hE;obtain ⟨te,pe,hE⟩:=hE;refine zj func7 ntmps7 fun HF LW ak E=>?_;replace HF:=HF.and (Per.aD hx);replace HF:=HF.and (Per.aD hy);replace HF:=HF.and (Per.tabs aV (fun _ h=>h.elim));replace HF:=HF.and (Per.bY hE (fun _ h=>h.elim));refine zi ?_;refine zg HF LW E ak fun aO w2 HF LW E=>(zg HF LW E ak fun bM w4 HF LW E=>(yb ko HF LW E ak fun aJ w6 ay dJ HF E ak=>?_));refine zp ?_;refine zh gQ (jc _ ua A1 B1 c1 d1 (HF.on E).here.1.1.1.1.1.2 hl true ga) E ay fun w7 E ay=>(zr ?_);refine zh gQ (jc _ ub A2 B2 c2 d2 (HF.on E).here.1.1.1.1.2 hl' true gb) E ay fun w8 E ay=>(EF ?_);refine zh jF (U1 _ ua A1 B1 c1 d1 true (Lf na)) E ay fun w9 E ay=>?_;by_cases nb:1≤ub.k∧ub.k≤3
 ·
  refine zi ?_;refine zh jF (U1 _ ub A2 B2 c2 d2 true (Lf nb)) E ay fun dI E ay=>(zv ?_);have S5:=Nat.le_trans LW.size E.size;refine vv aGx (Jl _ ua ub A1 B1 A2 B2 c1 d1 c2 d2 (HF.on E).here.1.1.1.1.1.2 hl ha (HF.on E).here.1.1.1.1.2 hl' hb0 (later hD (LW.step E ak).toBelow) (HF.on E).here.1.1.1.2 ⟨te,pe,(HF.on E).here.1.1.2⟩ op hW hFl ga (Lf na) gb (Lf nb) p (hp.trans (yC ga gb ⟨h1,h7⟩ na nb))) HF LW E ak (fun o=>Per.bK o (aj.grow aj.none_ (zc ay.lt))) ay fun A5 q5 dV HF LW E ay=>(zi ?_);refine yjx ?_;intro dB Bx dw;replace ay:aB dB aJ 28 #[.int .i64 p.1.k,.bool p.1.yes,.bool p.1.neg,.slice A5 p.1.xs.length q5,.int .u64 (p.1.bits:Int),.string p.1.s,.slice none 0 0]:=Bx;replace E:=E.step1 dw aj.head;refine zp ?_;exact ⟨A5,q5,rfl,((HF.on E).here.2).mono S5,aP LW E ak⟩
 ·
  refine zi ?_;refine zh jF (U1 _ ub A2 B2 c2 d2 false (qpq nb)) E ay fun dS E ay=>(zv ?_);by_cases o1:op=1
  ·
   refine vf 40 rfl (sw o1) (zn ?_);refine yu 45 rfl (by rw[beq_eq_false_iff_ne.2 (show ua.k≠4 from om)]<;>rfl) ?_;exact atz
  ·
   refine yu 40 rfl (sw o1) (yN ?_);by_cases o3:op=3
   ·
    refine vf 68 rfl (sw o3) (zn ?_);refine yu 73 rfl (by rw[beq_eq_false_iff_ne.2 (show ua.k≠4 from om)]<;>rfl) (yN ?_);refine vf 93 rfl (sw o3) (zn ?_);by_cases b4:ub.k=4
    ·
     refine vf 98 rfl (sw b4) (ye ?_);by_cases a1:ua.k=1
     ·
      refine vf 102 rfl (sw a1) ?_;have ca:ua.k=1∨ua.k=2:=Or.inl a1;rw[kc ga gb ⟨h1,h7⟩ om,if_neg om,if_neg om,if_pos om] at hp;have zs:=PV.dX gb b4;obtain ⟨J,hJ⟩:∃J,J=vb ua:=⟨_,rfl⟩;have Jb:J.natAbs<av^30:=hJ▸Qu ga ca;rw[←hJ] at hp;refine zv ?_;have GL:=((LW.step E ak).toBelow).size;have OY:∀q9,(aj (kf [⟨7,aJ,28,#[.int .i64 0,.bool false,.bool false,.slice none 0 0,.int .u64 0,.string ⟨#[]⟩,.slice none 0 0]⟩])) q9→q9<(World.drew dS).heap.size→(aj [(some aJ)]) q9:=fun k h _=>((aj.grow aj.none_ aj.head)) k h;refine yq (aj [(some aJ)]) (aj.grow aj.none_ (zc ay.lt)) [] [⟨7,aJ,28,#[.int .i64 0,.bool false,.bool false,.slice none 0 0,.int .u64 0,.string ⟨#[]⟩,.slice none 0 0]⟩] (xc [Fx.of (.pointer (some ⟨bM,5,none⟩)),
       Fx.of (.string ub.s),
       Fx.of (bG ua A1 c1 B1 d1),
       ⟨(Option Addr×Nat),fun (A4,q4)=>.agg #[.bool (decide (J<0)),.slice A4 (limbs J).length q4],fun (A4,q4) b=>(dW b A1 A4 ua.xs (limbs J))⟩,
       ⟨(Option Addr×Nat),fun (A5,q5)=>.tuple #[.agg #[.int .i64 p.1.k,.bool p.1.yes,.bool p.1.neg,.slice A5 p.1.xs.length q5,.int .u64 (p.1.bits:Int),.string p.1.s,.slice none 0 0],.int .i64 p.2],fun (A5,q5) b=>(Own b w.heap.size A5 q5 p.1.xs)⟩,
       ⟨(Option Addr×Nat),fun (A5,q5)=>.agg #[.int .i64 p.1.k,.bool p.1.yes,.bool p.1.neg,.slice A5 p.1.xs.length q5,.int .u64 (p.1.bits:Int),.string p.1.s,.slice none 0 0],fun (A5,q5) b=>(Own b w.heap.size A5 q5 p.1.xs)⟩,
       Fx.of (.int .i64 p.2),
       Fx.of undef,
       Fx.of (.int .i64 p.2)]) mixed rfl ⟨⟨aj.head _ rfl,ay,fun _ h=>by cases h⟩,trivial⟩ (by intro o ho;simp at ho;rcases ho with rfl<;>simp) ?_ ?_
      · exact au1
      exact atj
     ·
      refine yu 102 rfl (sw a1) (yk ?_);by_cases a2:ua.k=2
      ·
       refine qm 90 rfl (sw a2) ?_;have ca:ua.k=1∨ua.k=2:=Or.inr a2;rw[kc ga gb ⟨h1,h7⟩ om,if_neg om,if_neg om,if_pos om] at hp;have zs:=PV.dX gb b4;obtain ⟨J,hJ⟩:∃J,J=vb ua:=⟨_,rfl⟩;have Jb:J.natAbs<av^30:=hJ▸Qu ga ca;rw[←hJ] at hp;refine zi ?_;have GL:=((LW.step E ak).toBelow).size;have OY:∀q9,(aj (kf [⟨7,aJ,28,#[.int .i64 0,.bool false,.bool false,.slice none 0 0,.int .u64 0,.string ⟨#[]⟩,.slice none 0 0]⟩])) q9→q9<(World.drew dS).heap.size→(aj [(some aJ)]) q9:=fun k h _=>((aj.grow aj.none_ aj.head)) k h;refine yq (aj [(some aJ)]) (aj.grow aj.none_ (zc ay.lt)) [] [⟨7,aJ,28,#[.int .i64 0,.bool false,.bool false,.slice none 0 0,.int .u64 0,.string ⟨#[]⟩,.slice none 0 0]⟩] (xc [Fx.of (.pointer (some ⟨bM,5,none⟩)),
        Fx.of (.string ub.s),
        Fx.of (bG ua A1 c1 B1 d1),
        ⟨(Option Addr×Nat),fun (A4,q4)=>.agg #[.bool (decide (J<0)),.slice A4 (limbs J).length q4],fun (A4,q4) b=>(dW b A1 A4 ua.xs (limbs J))⟩,
        ⟨(Option Addr×Nat),fun (A5,q5)=>.tuple #[.agg #[.int .i64 p.1.k,.bool p.1.yes,.bool p.1.neg,.slice A5 p.1.xs.length q5,.int .u64 (p.1.bits:Int),.string p.1.s,.slice none 0 0],.int .i64 p.2],fun (A5,q5) b=>(Own b w.heap.size A5 q5 p.1.xs)⟩,
        ⟨(Option Addr×Nat),fun (A5,q5)=>.agg #[.int .i64 p.1.k,.bool p.1.yes,.bool p.1.neg,.slice A5 p.1.xs.length q5,.int .u64 (p.1.bits:Int),.string p.1.s,.slice none 0 0],fun (A5,q5) b=>(Own b w.heap.size A5 q5 p.1.xs)⟩,
        Fx.of (.int .i64 p.2),
        Fx.of undef,
        Fx.of (.int .i64 p.2)]) mixed rfl ⟨⟨aj.head _ rfl,ay,fun _ h=>by cases h⟩,trivial⟩ (by intro o ho;simp at ho;rcases ho with rfl<;>simp) ?_ ?_
       · exact au1
       exact atx
      ·
       refine zw 90 rfl (sw a2) ?_;exact Yd
    ·
     exact Ye
   ·
    refine yu 68 rfl (sw o3) (Qc ?_);refine yu 93 rfl (sw o3) ?_;rw[kc ga gb ⟨h1,h7⟩ om,if_neg om,if_neg om,if_neg om] at hp;subst hp;refine Qc ?_;exact Yg
theorem aDz (op:Int) (p:PV×Int) (hp:p=gP op ua ub) (ga:ua.good=true) (gb:ub.good=true) (h1:1≤op) (h7:op≤7) (na:¬(1≤ua.k∧ua.k≤3)):Calls prog 7 #[.int .i64 op,bG ua A1 c1 B1 d1,bG ub A2 c2 B2 d2] w (oz w p):=by
 have _:=hx;have _:=hl;have _:=ha;have _:=hy;have _:=hl';have _:=hb0;have _:=hD;have _:=aV;have _:=hE;obtain ⟨te,pe,hE⟩:=hE;refine zj func7 ntmps7 fun HF LW ak E=>?_;replace HF:=HF.and (Per.aD hx);replace HF:=HF.and (Per.aD hy);replace HF:=HF.and (Per.tabs aV (fun _ h=>h.elim));replace HF:=HF.and (Per.bY hE (fun _ h=>h.elim));refine zi ?_;refine zg HF LW E ak fun aO w2 HF LW E=>(zg HF LW E ak fun bM w4 HF LW E=>(yb ko HF LW E ak fun aJ w6 ay dJ HF E ak=>?_));refine zp ?_;refine zh gQ (jc _ ua A1 B1 c1 d1 (HF.on E).here.1.1.1.1.1.2 hl true ga) E ay fun w7 E ay=>(zr ?_);refine zh gQ (jc _ ub A2 B2 c2 d2 (HF.on E).here.1.1.1.1.2 hl' true gb) E ay fun w8 E ay=>(EF ?_);refine zh jF (U1 _ ua A1 B1 c1 d1 false (qpq na)) E ay fun w9 E ay=>(ja ?_);by_cases o1:op=1
 ·
  refine vf 40 rfl (sw o1) (zn ?_);by_cases a4:ua.k=4
  ·
   refine vf 45 rfl (sw a4) (zp ?_);by_cases b4:ub.k=4
   ·
    refine qm 37 rfl (sw b4) ?_;have z1:=PV.dX ga a4;have z2:=PV.dX gb b4;refine zo ?_;refine vm ?_;refine zi ?_;refine vm ?_;refine yw ?_;refine zr ?_;by_cases hc:20000<ua.s.size+ub.s.size
    ·
     rw[kc ga gb ⟨h1,h7⟩ om,if_pos om,if_pos hc] at hp;subst hp;refine qm 57 rfl (by rw[decide_eq_true om]<;>rfl) (zr ?_);refine jm ?_;refine yi qj ay E aj.head fun dI ay E=>?_;refine yk ?_;exact vbv
    ·
     rw[kc ga gb ⟨h1,h7⟩ om,if_pos om,if_neg hc] at hp;subst hp;refine zw 57 rfl (by rw[decide_eq_false om]<;>rfl) (qc ?_);refine za rfl (qhz rfl rfl om (zh aw6 (yG _ (ua.s++ub.s)) E ay fun dV E ay=>(yi qj ay E aj.head fun dB ay E=>?_)));refine zp ?_;exact vbv
   ·
    refine zw 37 rfl (sw b4) (zo ?_);refine yu 68 rfl (sw o1) (Qc ?_);refine yu 93 rfl (sw o1) ?_;rw[kc ga gb ⟨h1,h7⟩ om,if_neg om,if_neg om,if_neg om] at hp;subst hp;refine Qc ?_;exact atq
  ·
   refine yu 45 rfl (sw a4) ?_;exact atz
 ·
  refine yu 40 rfl (sw o1) (yN ?_);by_cases o3:op=3
  ·
   refine vf 68 rfl (sw o3) (zn ?_);by_cases a4:ua.k=4
   ·
    refine vf 73 rfl (sw a4) (ye ?_);by_cases b1:ub.k=1
    ·
     refine vf 77 rfl (sw b1) ?_;have cb:ub.k=1∨ub.k=2:=Or.inl b1;rw[kc ga gb ⟨h1,h7⟩ om,if_neg om,if_pos om] at hp;have zs:=PV.dX ga a4;obtain ⟨J,hJ⟩:∃J,J=vb ub:=⟨_,rfl⟩;have Jb:J.natAbs<av^30:=hJ▸Qu gb cb;rw[←hJ] at hp;refine zv ?_;have GL:=((LW.step E ak).toBelow).size;have OY:∀q9,(aj (kf [⟨7,aJ,28,#[.int .i64 0,.bool false,.bool false,.slice none 0 0,.int .u64 0,.string ⟨#[]⟩,.slice none 0 0]⟩])) q9→q9<(World.drew w9).heap.size→(aj [(some aJ)]) q9:=fun k h _=>((aj.grow aj.none_ aj.head)) k h;refine yq (aj [(some aJ)]) (aj.grow aj.none_ (zc ay.lt)) [] [⟨7,aJ,28,#[.int .i64 0,.bool false,.bool false,.slice none 0 0,.int .u64 0,.string ⟨#[]⟩,.slice none 0 0]⟩] (xc [Fx.of (.pointer (some ⟨aO,5,none⟩)),
      Fx.of (.string ua.s),
      Fx.of (bG ub A2 c2 B2 d2),
      ⟨(Option Addr×Nat),fun (A4,q4)=>.agg #[.bool (decide (J<0)),.slice A4 (limbs J).length q4],fun (A4,q4) b=>(dW b A2 A4 ub.xs (limbs J))⟩,
      ⟨(Option Addr×Nat),fun (A5,q5)=>.tuple #[.agg #[.int .i64 p.1.k,.bool p.1.yes,.bool p.1.neg,.slice A5 p.1.xs.length q5,.int .u64 (p.1.bits:Int),.string p.1.s,.slice none 0 0],.int .i64 p.2],fun (A5,q5) b=>(Own b w.heap.size A5 q5 p.1.xs)⟩,
      ⟨(Option Addr×Nat),fun (A5,q5)=>.agg #[.int .i64 p.1.k,.bool p.1.yes,.bool p.1.neg,.slice A5 p.1.xs.length q5,.int .u64 (p.1.bits:Int),.string p.1.s,.slice none 0 0],fun (A5,q5) b=>(Own b w.heap.size A5 q5 p.1.xs)⟩,
      Fx.of (.int .i64 p.2),
      Fx.of undef,
      Fx.of (.int .i64 p.2)]) mixed rfl ⟨⟨aj.head _ rfl,ay,fun _ h=>by cases h⟩,trivial⟩ (by intro o ho;simp at ho;rcases ho with rfl<;>simp) ?_ ?_
     · exact au0
     exact atj
    ·
     refine yu 77 rfl (sw b1) (yk ?_);by_cases b2:ub.k=2
     ·
      refine qm 65 rfl (sw b2) ?_;have cb:ub.k=1∨ub.k=2:=Or.inr b2;rw[kc ga gb ⟨h1,h7⟩ om,if_neg om,if_pos om] at hp;have zs:=PV.dX ga a4;obtain ⟨J,hJ⟩:∃J,J=vb ub:=⟨_,rfl⟩;have Jb:J.natAbs<av^30:=hJ▸Qu gb cb;rw[←hJ] at hp;refine zi ?_;have GL:=((LW.step E ak).toBelow).size;have OY:∀q9,(aj (kf [⟨7,aJ,28,#[.int .i64 0,.bool false,.bool false,.slice none 0 0,.int .u64 0,.string ⟨#[]⟩,.slice none 0 0]⟩])) q9→q9<(World.drew w9).heap.size→(aj [(some aJ)]) q9:=fun k h _=>((aj.grow aj.none_ aj.head)) k h;refine yq (aj [(some aJ)]) (aj.grow aj.none_ (zc ay.lt)) [] [⟨7,aJ,28,#[.int .i64 0,.bool false,.bool false,.slice none 0 0,.int .u64 0,.string ⟨#[]⟩,.slice none 0 0]⟩] (xc [Fx.of (.pointer (some ⟨aO,5,none⟩)),
       Fx.of (.string ua.s),
       Fx.of (bG ub A2 c2 B2 d2),
       ⟨(Option Addr×Nat),fun (A4,q4)=>.agg #[.bool (decide (J<0)),.slice A4 (limbs J).length q4],fun (A4,q4) b=>(dW b A2 A4 ub.xs (limbs J))⟩,
       ⟨(Option Addr×Nat),fun (A5,q5)=>.tuple #[.agg #[.int .i64 p.1.k,.bool p.1.yes,.bool p.1.neg,.slice A5 p.1.xs.length q5,.int .u64 (p.1.bits:Int),.string p.1.s,.slice none 0 0],.int .i64 p.2],fun (A5,q5) b=>(Own b w.heap.size A5 q5 p.1.xs)⟩,
       ⟨(Option Addr×Nat),fun (A5,q5)=>.agg #[.int .i64 p.1.k,.bool p.1.yes,.bool p.1.neg,.slice A5 p.1.xs.length q5,.int .u64 (p.1.bits:Int),.string p.1.s,.slice none 0 0],fun (A5,q5) b=>(Own b w.heap.size A5 q5 p.1.xs)⟩,
       Fx.of (.int .i64 p.2),
       Fx.of undef,
       Fx.of (.int .i64 p.2)]) mixed rfl ⟨⟨aj.head _ rfl,ay,fun _ h=>by cases h⟩,trivial⟩ (by intro o ho;simp at ho;rcases ho with rfl<;>simp) ?_ ?_
      · exact au0
      exact atx
     ·
      refine zw 65 rfl (sw b2) (zo ?_);refine vf 93 rfl (sw o3) (zn ?_);by_cases b4:ub.k=4
      ·
       refine EG ?_;exact Yd
      ·
       exact Ye
   ·
    refine yu 73 rfl (sw a4) (yN ?_);refine vf 93 rfl (sw o3) (zn ?_);by_cases b4:ub.k=4
    ·
     refine EG ?_;rw[kc ga gb ⟨h1,h7⟩ om,if_neg om,if_neg om,if_neg om] at hp;subst hp;refine zo ?_;exact Yg
    ·
     refine yu 98 rfl (sw b4) ?_;rw[kc ga gb ⟨h1,h7⟩ om,if_neg om,if_neg om,if_neg om] at hp;subst hp;refine yN ?_;exact at7
  ·
   refine yu 68 rfl (sw o3) (Qc ?_);refine yu 93 rfl (sw o3) ?_;rw[kc ga gb ⟨h1,h7⟩ om,if_neg om,if_neg om,if_neg om] at hp;subst hp;refine Qc ?_;exact Yf
theorem Yh (op:Int) (hW:WhC op) (hFl:(ua.k=3∨ub.k=3∨op=4)→ZB op) (p:PV×Int) (hp:p=gP op ua ub):Calls prog 7 #[.int .i64 op,bG ua A1 c1 B1 d1,bG ub A2 c2 B2 d2] w (oz w p):=by
 cases ga:ua.good
 · exact aj9 w ua ub A1 B1 A2 B2 c1 d1 c2 d2 hx hl ha hy hl' hb0 hD aV hE op p hp ga
 cases gb:ub.good
 · exact ajq w ua ub A1 B1 A2 B2 c1 d1 c2 d2 hx hl ha hy hl' hb0 hD aV hE op p hp ga gb
 by_cases ho:op<1∨7<op
 · exact aD9 w ua ub A1 B1 A2 B2 c1 d1 c2 d2 hx hl ha hy hl' hb0 hD aV hE op p hp ga gb ho
 by_cases na:1≤ua.k∧ua.k≤3
 · exact aDq w ua ub A1 B1 A2 B2 c1 d1 c2 d2 hx hl ha hy hl' hb0 hD aV hE op p hp hW hFl ga gb om om na
 · exact aDz w ua ub A1 B1 A2 B2 c1 d1 c2 d2 hx hl ha hy hl' hb0 hD aV hE op p hp ga gb om om na
end
theorem EH {P Q:Prop} (k:Q) (h:(Unit→Q)→P:=by
 intro zK;refine EI ?_;refine yk ?_;refine za rfl (ze ax0 rfl ((Zf _ (HF.on E).here.1.1.1.2 (HF.on E).here.1.1.2).mono ?_));exact zK ()):P:=h fun _=>k
theorem qrk {P Q:Prop} (k:Q) (h:(Unit→Q)→P:=by
 intro zK;refine yj (qx oc rfl rfl aZ rfl rfl rfl ?_);exact zK ()):P:=h fun _=>k
theorem qrv {P Q:Prop} (k:Q) (h:(Unit→Q)→P:=by
 intro zK;refine yj (qx oc rfl rfl aQ rfl rfl rfl ?_);exact zK ()):P:=h fun _=>k
theorem EJ {P Q:Prop} (k:Q) (h:(Unit→Q)→P:=by
 intro zK;refine EI ?_;refine yk ?_;refine za rfl (ze ax0 rfl ((AY A B c d (limbs i) (limbs j) w6 (decide (i<0)) (decide (j<0)) (HF.on E).here.1.1.1.2 (HF.on E).here.1.1.2 gi gj h0).mono ?_));exact zK ()):P:=h fun _=>k
theorem EI {P Q:Prop} (k:Q) (h:(Unit→Q)→P:=by
 intro zK;refine nW ?_;refine zw 12 rfl (sw h1) (zp ?_);refine zw 19 rfl (sw h2) (zp ?_);refine zw 26 rfl (sw h3) (zp ?_);refine zw 33 rfl (sw h7) ?_;exact zK ()):P:=h fun _=>k
theorem au2 {P:Prop} (h:P:=by
 replace ay:=ay.aG bC (au.cons bL au.nil);replace E:=E.step1 bC aj.head;obtain ⟨HF,LW,ak,E⟩:=d9 HF LW E ak (Y:=aj [(some aJ)]) (aj.skip (aj.keep aj.bI)) (Per.bH aQ (au.cons aU au.nil));refine zv ?_;refine qm 48 rfl (sw h5) (zn ?_);refine yi oc ay E aj.head fun cZ ay E=>?_;refine zo ?_;exact ⟨A3,c3,rfl,((HF.on E).here.1.1.1.2).mono S3,aP LW E ak⟩):P:=h
theorem au3 {P:Prop} (h:P:=by
 replace ay:=ay.aG bC (au.cons bL au.nil);replace E:=E.step1 bC aj.head;obtain ⟨HF,LW,ak,E⟩:=d9 HF LW E ak (Y:=aj [(some aJ)]) (aj.skip (aj.keep aj.bI)) (Per.bH aQ (au.cons aU au.nil));refine zv ?_;refine zw 48 rfl (sw h5) (zp ?_);refine yi oc ay E aj.head fun cZ ay E=>?_;obtain ⟨HF,LW,ak,E⟩:=d9 HF LW E ak (Y:=No) (aj.skip aj.bI) (Per.bH ay au.nil);refine zn ?_;exact ⟨A4,c4,rfl,((HF.on E).here.1.1.1.2).mono S3,aP LW E ak⟩):P:=h
theorem EK {P:Prop} (h:P:=by
 refine zi ?_;refine yi oc ay E aj.head fun w8 ay E=>?_;refine zp ?_;exact ⟨A3,c3,rfl,((HF.on E).here.2).mono S3,aP LW E ak⟩):P:=h
section
variable (w:World) (A B:Option Addr) (c d:Nat) (i j:Int) (hi:i.natAbs<av^30) (hj:j.natAbs<av^30) (hx:aA w A (limbs i)) (hy:aA w B (limbs j))
include hi hj hx hy
theorem aDx  :Calls prog 67 #[.int .i64 1,.agg #[.bool (decide (i<0)),.slice A (limbs i).length c],.agg #[.bool (decide (j<0)),.slice B (limbs j).length d]] w (ya w (bE true (i+j)) (bg true (i+j))):=by
 have _:=hx;have _:=hy;have _:=hi;have _:=hj;have li:=zt hi;have lj:=zt hj;obtain ⟨gi,ni⟩:=jp hi;obtain ⟨gj,nj⟩:=jp hj;obtain ⟨V,hV⟩:∃V,V=bE true (i+j):=⟨_,rfl⟩;obtain ⟨f,hf⟩:∃f,f=bg true (i+j):=⟨_,rfl⟩;rw[←hV,←hf];refine zj func67 ntmps67 fun HF LW ak E=>?_;replace HF:=HF.and (Per.aD hx);replace HF:=HF.and (Per.aD hy);refine zi ?_;refine zg HF LW E ak fun aO w2 HF LW E=>(zg HF LW E ak fun bM w4 HF LW E=>(yb u6 HF LW E ak fun aJ w6 ay dJ HF E ak=>?_));refine qN ?_;have hc:=vP A B c d (limbs i) (limbs j) w6 (decide (i<0)) (decide (j<0)) (HF.on E).here.1.1.1.2 (HF.on E).here.1.1.2 om om;rw[gi,gj,ni,nj,Bool.and_true,←hV,←hf] at hc;have S3:=Nat.le_trans LW.size E.size;refine vv an8 (hc) HF LW E ak (fun o=>Per.bK o (aj.grow aj.none_ (zc ay.lt))) ay fun A3 c3 w7 HF LW E ay=>?_;exact EK
theorem aDj  :Calls prog 67 #[.int .i64 2,.agg #[.bool (decide (i<0)),.slice A (limbs i).length c],.agg #[.bool (decide (j<0)),.slice B (limbs j).length d]] w (ya w (bE true (i-j)) (bg true (i-j))):=by
 have _:=hx;have _:=hy;have _:=hi;have _:=hj;have li:=zt hi;have lj:=zt hj;obtain ⟨gi,ni⟩:=jp hi;obtain ⟨gj,nj⟩:=jp hj;obtain ⟨V,hV⟩:∃V,V=bE true (i-j):=⟨_,rfl⟩;obtain ⟨f,hf⟩:∃f,f=bg true (i-j):=⟨_,rfl⟩;rw[←hV,←hf];refine zj func67 ntmps67 fun HF LW ak E=>?_;replace HF:=HF.and (Per.aD hx);replace HF:=HF.and (Per.aD hy);refine zi ?_;refine zg HF LW E ak fun aO w2 HF LW E=>(zg HF LW E ak fun bM w4 HF LW E=>(yb u6 HF LW E ak fun aJ w6 ay dJ HF E ak=>?_));refine aKx ?_;have hc:=ab5 A B c d (limbs i) (limbs j) w6 (decide (i<0)) (decide (j<0)) (HF.on E).here.1.1.1.2 (HF.on E).here.1.1.2 om om;rw[gi,gj,ni,nj,Bool.and_true,←hV,←hf] at hc;have S3:=Nat.le_trans LW.size E.size;refine vv aI4 (hc) HF LW E ak (fun o=>Per.bK o (aj.grow aj.none_ (zc ay.lt))) ay fun A3 c3 w7 HF LW E ay=>?_;exact EK
theorem aE0  :Calls prog 67 #[.int .i64 3,.agg #[.bool (decide (i<0)),.slice A (limbs i).length c],.agg #[.bool (decide (j<0)),.slice B (limbs j).length d]] w (ya w (bE true (i*j)) (bg true (i*j))):=by
 have _:=hx;have _:=hy;have _:=hi;have _:=hj;have li:=zt hi;have lj:=zt hj;obtain ⟨gi,ni⟩:=jp hi;obtain ⟨gj,nj⟩:=jp hj;obtain ⟨V,hV⟩:∃V,V=bE true (i*j):=⟨_,rfl⟩;obtain ⟨f,hf⟩:∃f,f=bg true (i*j):=⟨_,rfl⟩;rw[←hV,←hf];refine zj func67 ntmps67 fun HF LW ak E=>?_;replace HF:=HF.and (Per.aD hx);replace HF:=HF.and (Per.aD hy);refine zi ?_;refine zg HF LW E ak fun aO w2 HF LW E=>(zg HF LW E ak fun bM w4 HF LW E=>(yb u6 HF LW E ak fun aJ w6 ay dJ HF E ak=>?_));refine aL1 ?_;have hc:=J4 (decide (i<0)) (decide (j<0)) A B c d (limbs i) (limbs j) w6 (HF.on E).here.1.1.1.2 (HF.on E).here.1.1.2 om om;rw[gi,gj,ni,nj,Bool.and_true,←hV,←hf] at hc;have S3:=Nat.le_trans LW.size E.size;refine vv awj (hc) HF LW E ak (fun o=>Per.bK o (aj.grow aj.none_ (zc ay.lt))) ay fun A3 c3 w7 HF LW E ay=>?_;exact EK
theorem Yi (op:Int) (h1:op≠1) (h2:op≠2) (h3:op≠3) (h7:op≠7) (h5:op=5) (h:j=0):Calls prog 67 #[.int .i64 op,.agg #[.bool (decide (i<0)),.slice A (limbs i).length c],.agg #[.bool (decide (j<0)),.slice B (limbs j).length d]] w (ya w 0 6):=by
 have _:=hx;have _:=hy;have _:=hi;have _:=hj;have li:=zt hi;have lj:=zt hj;obtain ⟨gi,ni⟩:=jp hi;obtain ⟨gj,nj⟩:=jp hj;have _:=ni;have _:=nj;have _:=li;have _:=lj;have h0:(limbs j).length=0:=by rw[h,qt];rfl
 refine zj func67 ntmps67 fun HF LW ak E=>?_;replace HF:=HF.and (Per.aD hx);replace HF:=HF.and (Per.aD hy);refine zi ?_;refine zg HF LW E ak fun aO w2 HF LW E=>(zg HF LW E ak fun bM w4 HF LW E=>(yb u6 HF LW E ak fun aJ w6 ay dJ HF E ak=>?_));refine EJ ?_;rintro e w7 ⟨A3,c3,A4,c4,rfl,o3,o4,hb,_⟩;refine ⟨_,rfl,?_⟩;have XC:∀q9,(aj [(some aJ)]) q9→q9<w6.heap.size:=(aj.grow aj.none_ (zc ay.lt));have SC:=Nat.le_trans LW.size E.size;have Ec:=Ext.of_below hb No;replace ay:=ay.aG Ec au.nil;replace E:=E.trans Ec.no;have S3:=SC;obtain ⟨HF,LW,E⟩:=dG HF LW E ak (Per.bK o3 XC);obtain ⟨HF,LW,E⟩:=dG HF LW E ak (Per.bK o4 XC);refine ye ?_;refine vu ?_;intro bR w9 aZ dz eD;have bS:Apart (some bR) (some aJ):=Apart.of_lt (zc ay.lt) eD;have dZ:=bS.symm;replace ay:=ay.aG dz au.nil;obtain ⟨eD,HF,E,ak⟩:=gI HF LW E ak dz eD;refine vu ?_;intro aX dV aQ bC bO;have bT:Apart (some aX) (some bR):=Apart.of_lt (zc aZ.lt) bO;have dM:=bT.symm;have aU:Apart (some aX) (some aJ):=Apart.of_lt (zc ay.lt) bO;have bL:=aU.symm;replace aZ:=aZ.aG bC au.nil;replace ay:=ay.aG bC au.nil;obtain ⟨bO,HF,E,ak⟩:=gI HF LW E ak bC bO;refine qrk ?_;intro dB Bx dz;replace aZ:aB dB bR 24 #[.bool (decide ((0:Int)<0)),.slice A3 (limbs (0:Int)).length c3]:=Bx;replace aQ:=aQ.aG dz (au.cons bT au.nil);replace ay:=ay.aG dz (au.cons dZ au.nil);replace E:=E.step1 dz (aj.tail aj.head);obtain ⟨HF,LW,ak,E⟩:=d9 HF LW E ak (Y:=aj [(some aX),(some aJ)]) (aj.keep (aj.skip (aj.keep aj.bI))) (Per.bH aZ (au.cons dM (au.cons bS au.nil)));refine qrv ?_;intro dS Bx bC;replace aQ:aB dS aX 24 #[.bool (decide ((0:Int)<0)),.slice A4 (limbs (0:Int)).length c4]:=Bx;exact au2
theorem ajz (op:Int) (h1:op≠1) (h2:op≠2) (h3:op≠3) (h7:op≠7) (h5:op=5) (h:j≠0):Calls prog 67 #[.int .i64 op,.agg #[.bool (decide (i<0)),.slice A (limbs i).length c],.agg #[.bool (decide (j<0)),.slice B (limbs j).length d]] w (ya w (dq (decide (i<0)) (decide (j<0)) i.natAbs j.natAbs) 0):=by
 have _:=hx;have _:=hy;have _:=hi;have _:=hj;have li:=zt hi;have lj:=zt hj;obtain ⟨gi,ni⟩:=jp hi;obtain ⟨gj,nj⟩:=jp hj;have _:=ni;have _:=nj;have _:=li;have _:=lj;have h0:0<(limbs j).length:=zwx h;have e1:val av (limbs i)=i.natAbs:=ziq i;have e2:val av (limbs j)=j.natAbs:=ziq j;obtain ⟨q,hq⟩:∃q,q=dq (decide (i<0)) (decide (j<0)) i.natAbs j.natAbs:=⟨_,rfl⟩;obtain ⟨r,hr⟩:∃r,r=dr (decide (i<0)) (decide (j<0)) i.natAbs j.natAbs:=⟨_,rfl⟩;have Zf:=fun w hx hy=>vmq A B c d (limbs i) (limbs j) w (decide (i<0)) (decide (j<0)) hx hy gi gj h0;rw[e1,e2,←hq,←hr] at Zf;rw[←hq];refine zj func67 ntmps67 fun HF LW ak E=>?_;replace HF:=HF.and (Per.aD hx);replace HF:=HF.and (Per.aD hy);refine zi ?_;refine zg HF LW E ak fun aO w2 HF LW E=>(zg HF LW E ak fun bM w4 HF LW E=>(yb u6 HF LW E ak fun aJ w6 ay dJ HF E ak=>?_));refine EH ?_;rintro e w7 ⟨A3,c3,A4,c4,rfl,o3,o4,hb,_⟩;refine ⟨_,rfl,?_⟩;have XC:∀q9,(aj [(some aJ)]) q9→q9<w6.heap.size:=(aj.grow aj.none_ (zc ay.lt));have SC:=Nat.le_trans LW.size E.size;have Ec:=Ext.of_below hb No;replace ay:=ay.aG Ec au.nil;replace E:=E.trans Ec.no;have S3:=SC;obtain ⟨HF,LW,E⟩:=dG HF LW E ak (Per.bK o3 XC);obtain ⟨HF,LW,E⟩:=dG HF LW E ak (Per.bK o4 XC);refine ye ?_;refine vu ?_;intro bR w9 aZ dz eD;have bS:Apart (some bR) (some aJ):=Apart.of_lt (zc ay.lt) eD;have dZ:=bS.symm;replace ay:=ay.aG dz au.nil;obtain ⟨eD,HF,E,ak⟩:=gI HF LW E ak dz eD;refine vu ?_;intro aX dV aQ bC bO;have bT:Apart (some aX) (some bR):=Apart.of_lt (zc aZ.lt) bO;have dM:=bT.symm;have aU:Apart (some aX) (some aJ):=Apart.of_lt (zc ay.lt) bO;have bL:=aU.symm;replace aZ:=aZ.aG bC au.nil;replace ay:=ay.aG bC au.nil;obtain ⟨bO,HF,E,ak⟩:=gI HF LW E ak bC bO;refine qrk ?_;intro dB Bx dz;replace aZ:aB dB bR 24 #[.bool (decide (q<0)),.slice A3 (limbs q).length c3]:=Bx;replace aQ:=aQ.aG dz (au.cons bT au.nil);replace ay:=ay.aG dz (au.cons dZ au.nil);replace E:=E.step1 dz (aj.tail aj.head);obtain ⟨HF,LW,ak,E⟩:=d9 HF LW E ak (Y:=aj [(some aX),(some aJ)]) (aj.keep (aj.skip (aj.keep aj.bI))) (Per.bH aZ (au.cons dM (au.cons bS au.nil)));refine qrv ?_;intro dS Bx bC;replace aQ:aB dS aX 24 #[.bool (decide (r<0)),.slice A4 (limbs r).length c4]:=Bx;exact au2
theorem Yj (op:Int) (h1:op≠1) (h2:op≠2) (h3:op≠3) (h7:op≠7) (h5:op≠5) (h:j=0):Calls prog 67 #[.int .i64 op,.agg #[.bool (decide (i<0)),.slice A (limbs i).length c],.agg #[.bool (decide (j<0)),.slice B (limbs j).length d]] w (ya w 0 6):=by
 have _:=hx;have _:=hy;have _:=hi;have _:=hj;have li:=zt hi;have lj:=zt hj;obtain ⟨gi,ni⟩:=jp hi;obtain ⟨gj,nj⟩:=jp hj;have _:=ni;have _:=nj;have _:=li;have _:=lj;have h0:(limbs j).length=0:=by rw[h,qt];rfl
 refine zj func67 ntmps67 fun HF LW ak E=>?_;replace HF:=HF.and (Per.aD hx);replace HF:=HF.and (Per.aD hy);refine zi ?_;refine zg HF LW E ak fun aO w2 HF LW E=>(zg HF LW E ak fun bM w4 HF LW E=>(yb u6 HF LW E ak fun aJ w6 ay dJ HF E ak=>?_));refine EJ ?_;rintro e w7 ⟨A3,c3,A4,c4,rfl,o3,o4,hb,_⟩;refine ⟨_,rfl,?_⟩;have XC:∀q9,(aj [(some aJ)]) q9→q9<w6.heap.size:=(aj.grow aj.none_ (zc ay.lt));have SC:=Nat.le_trans LW.size E.size;have Ec:=Ext.of_below hb No;replace ay:=ay.aG Ec au.nil;replace E:=E.trans Ec.no;have S3:=SC;obtain ⟨HF,LW,E⟩:=dG HF LW E ak (Per.bK o3 XC);obtain ⟨HF,LW,E⟩:=dG HF LW E ak (Per.bK o4 XC);refine ye ?_;refine vu ?_;intro bR w9 aZ dz eD;have bS:Apart (some bR) (some aJ):=Apart.of_lt (zc ay.lt) eD;have dZ:=bS.symm;replace ay:=ay.aG dz au.nil;obtain ⟨eD,HF,E,ak⟩:=gI HF LW E ak dz eD;refine vu ?_;intro aX dV aQ bC bO;have bT:Apart (some aX) (some bR):=Apart.of_lt (zc aZ.lt) bO;have dM:=bT.symm;have aU:Apart (some aX) (some aJ):=Apart.of_lt (zc ay.lt) bO;have bL:=aU.symm;replace aZ:=aZ.aG bC au.nil;replace ay:=ay.aG bC au.nil;obtain ⟨bO,HF,E,ak⟩:=gI HF LW E ak bC bO;refine qrk ?_;intro dB Bx dz;replace aZ:aB dB bR 24 #[.bool (decide ((0:Int)<0)),.slice A3 (limbs (0:Int)).length c3]:=Bx;replace aQ:=aQ.aG dz (au.cons bT au.nil);replace ay:=ay.aG dz (au.cons dZ au.nil);replace E:=E.step1 dz (aj.tail aj.head);obtain ⟨HF,LW,ak,E⟩:=d9 HF LW E ak (Y:=aj [(some aX),(some aJ)]) (aj.keep (aj.skip (aj.keep aj.bI))) (Per.bH aZ (au.cons dM (au.cons bS au.nil)));refine qrv ?_;intro dS Bx bC;replace aQ:aB dS aX 24 #[.bool (decide ((0:Int)<0)),.slice A4 (limbs (0:Int)).length c4]:=Bx;exact au3
theorem ajx (op:Int) (h1:op≠1) (h2:op≠2) (h3:op≠3) (h7:op≠7) (h5:op≠5) (h:j≠0):Calls prog 67 #[.int .i64 op,.agg #[.bool (decide (i<0)),.slice A (limbs i).length c],.agg #[.bool (decide (j<0)),.slice B (limbs j).length d]] w (ya w (dr (decide (i<0)) (decide (j<0)) i.natAbs j.natAbs) 0):=by
 have _:=hx;have _:=hy;have _:=hi;have _:=hj;have li:=zt hi;have lj:=zt hj;obtain ⟨gi,ni⟩:=jp hi;obtain ⟨gj,nj⟩:=jp hj;have _:=ni;have _:=nj;have _:=li;have _:=lj;have h0:0<(limbs j).length:=zwx h;have e1:val av (limbs i)=i.natAbs:=ziq i;have e2:val av (limbs j)=j.natAbs:=ziq j;obtain ⟨q,hq⟩:∃q,q=dq (decide (i<0)) (decide (j<0)) i.natAbs j.natAbs:=⟨_,rfl⟩;obtain ⟨r,hr⟩:∃r,r=dr (decide (i<0)) (decide (j<0)) i.natAbs j.natAbs:=⟨_,rfl⟩;have Zf:=fun w hx hy=>vmq A B c d (limbs i) (limbs j) w (decide (i<0)) (decide (j<0)) hx hy gi gj h0;rw[e1,e2,←hq,←hr] at Zf;rw[←hr];refine zj func67 ntmps67 fun HF LW ak E=>?_;replace HF:=HF.and (Per.aD hx);replace HF:=HF.and (Per.aD hy);refine zi ?_;refine zg HF LW E ak fun aO w2 HF LW E=>(zg HF LW E ak fun bM w4 HF LW E=>(yb u6 HF LW E ak fun aJ w6 ay dJ HF E ak=>?_));refine EH ?_;rintro e w7 ⟨A3,c3,A4,c4,rfl,o3,o4,hb,_⟩;refine ⟨_,rfl,?_⟩;have XC:∀q9,(aj [(some aJ)]) q9→q9<w6.heap.size:=(aj.grow aj.none_ (zc ay.lt));have SC:=Nat.le_trans LW.size E.size;have Ec:=Ext.of_below hb No;replace ay:=ay.aG Ec au.nil;replace E:=E.trans Ec.no;have S3:=SC;obtain ⟨HF,LW,E⟩:=dG HF LW E ak (Per.bK o3 XC);obtain ⟨HF,LW,E⟩:=dG HF LW E ak (Per.bK o4 XC);refine ye ?_;refine vu ?_;intro bR w9 aZ dz eD;have bS:Apart (some bR) (some aJ):=Apart.of_lt (zc ay.lt) eD;have dZ:=bS.symm;replace ay:=ay.aG dz au.nil;obtain ⟨eD,HF,E,ak⟩:=gI HF LW E ak dz eD;refine vu ?_;intro aX dV aQ bC bO;have bT:Apart (some aX) (some bR):=Apart.of_lt (zc aZ.lt) bO;have dM:=bT.symm;have aU:Apart (some aX) (some aJ):=Apart.of_lt (zc ay.lt) bO;have bL:=aU.symm;replace aZ:=aZ.aG bC au.nil;replace ay:=ay.aG bC au.nil;obtain ⟨bO,HF,E,ak⟩:=gI HF LW E ak bC bO;refine qrk ?_;intro dB Bx dz;replace aZ:aB dB bR 24 #[.bool (decide (q<0)),.slice A3 (limbs q).length c3]:=Bx;replace aQ:=aQ.aG dz (au.cons bT au.nil);replace ay:=ay.aG dz (au.cons dZ au.nil);replace E:=E.step1 dz (aj.tail aj.head);obtain ⟨HF,LW,ak,E⟩:=d9 HF LW E ak (Y:=aj [(some aX),(some aJ)]) (aj.keep (aj.skip (aj.keep aj.bI))) (Per.bH aZ (au.cons dM (au.cons bS au.nil)));refine qrv ?_;intro dS Bx bC;replace aQ:aB dS aX 24 #[.bool (decide (r<0)),.slice A4 (limbs r).length c4]:=Bx;exact au3
end
theorem whC (op:Int) (h7:op≠7):WhC op:=by
 intro w A B c d i j hi hj hx hy;obtain ⟨V,hV⟩:∃V,V=(gD op i j).1:=⟨_,rfl⟩;obtain ⟨f,hf⟩:∃f,f=(gD op i j).2:=⟨_,rfl⟩;rw[←hV,←hf];subst hV hf;unfold gD;by_cases h1:op=1
 · subst h1;rw[if_pos rfl];exact aDx w A B c d i j hi hj hx hy
 rw[if_neg h1];by_cases h2:op=2
 · subst h2;rw[if_pos rfl];exact aDj w A B c d i j hi hj hx hy
 rw[if_neg h2];by_cases h3:op=3
 · subst h3;rw[if_pos rfl];exact aE0 w A B c d i j hi hj hx hy
 rw[if_neg h3];rw[if_neg h7];by_cases h:j=0
 · rw[if_pos h];by_cases h5:op=5
   · exact Yi w A B c d i j hi hj hx hy op h1 h2 h3 h7 h5 h
   · exact Yj w A B c d i j hi hj hx hy op h1 h2 h3 h7 h5 h
 rw[if_neg h];by_cases h5:op=5
 · rw[if_pos h5];exact ajz w A B c d i j hi hj hx hy op h1 h2 h3 h7 h5 h
 · rw[if_neg h5];exact ajx w A B c d i j hi hj hx hy op h1 h2 h3 h7 h5 h
theorem Yk {P:Prop} (h:P:=by
 unfold gD;rw[if_neg de,if_neg de,if_neg de,if_pos rfl,if_neg h]):P:=h
theorem Yl {P:Prop} (h:P:=by
 unfold gD;rw[if_neg de,if_neg de,if_neg de,if_pos rfl,if_pos h]):P:=h
section
variable (w:World) (A B:Option Addr) (c d:Nat) (i j:Int) (hi:i.natAbs<av^30) (hj:j.natAbs<av^30) (hx:aA w A (limbs i)) (hy:aA w B (limbs j))
include hi hj hx hy
theorem ajj (h:j<0):Calls prog 67 #[.int .i64 7,.agg #[.bool (decide (i<0)),.slice A (limbs i).length c],.agg #[.bool (decide (j<0)),.slice B (limbs j).length d]] w (ya w 0 1):=by
 have _:=hx;have _:=hy;have _:=hi;have _:=hj;have li:=zt hi;have lj:=zt hj;obtain ⟨gi,ni⟩:=jp hi;obtain ⟨gj,nj⟩:=jp hj;have _:=gi;have _:=gj;have _:=ni;have _:=nj;have _:=li;have _:=lj;refine zj func67 ntmps67 fun HF LW ak E=>?_;replace HF:=HF.and (Per.aD hx);replace HF:=HF.and (Per.aD hy);refine zi ?_;refine zg HF LW E ak fun aO w2 HF LW E=>(zg HF LW E ak fun bM w4 HF LW E=>(yb u6 HF LW E ak fun aJ w6 ay dJ HF E ak=>?_));refine zZ ?_;refine zi ?_;have S3:=Nat.le_trans LW.size E.size;refine vv Z8 (ae2 i j A B c d _ hi hj (HF.on E).here.1.1.1.2 (HF.on E).here.1.1.2 h) HF LW E ak (fun o=>Per.bK o (aj.grow aj.none_ (zc ay.lt))) ay fun A3 c3 w7 HF LW E ay=>?_;exact EK
theorem ak0 (h:0≤j):Calls prog 67 #[.int .i64 7,.agg #[.bool (decide (i<0)),.slice A (limbs i).length c],.agg #[.bool (decide (j<0)),.slice B (limbs j).length d]] w (ya w (bE true (i^j.toNat)) (bg true (i^j.toNat))):=by
 have _:=hx;have _:=hy;have _:=hi;have _:=hj;have li:=zt hi;have lj:=zt hj;obtain ⟨gi,ni⟩:=jp hi;obtain ⟨gj,nj⟩:=jp hj;have _:=gi;have _:=gj;have _:=ni;have _:=nj;have _:=li;have _:=lj;obtain ⟨v,hv⟩:∃v,v=i^j.toNat:=⟨_,rfl⟩;have Jm:=fun A B c d w hx hy=>aP8 i j A B c d w hi hj hx hy h;rw[←hv] at Jm ⊢;obtain ⟨V,hV⟩:∃V,V=bE true v:=⟨_,rfl⟩;obtain ⟨f,hf⟩:∃f,f=bg true v:=⟨_,rfl⟩;rw[←hV,←hf] at Jm ⊢;refine zj func67 ntmps67 fun HF LW ak E=>?_;replace HF:=HF.and (Per.aD hx);replace HF:=HF.and (Per.aD hy);refine zi ?_;refine zg HF LW E ak fun aO w2 HF LW E=>(zg HF LW E ak fun bM w4 HF LW E=>(yb u6 HF LW E ak fun aJ w6 ay dJ HF E ak=>?_));refine zZ ?_;refine zi ?_;have S3:=Nat.le_trans LW.size E.size;refine vv Z8 (Jm A B c d _ (HF.on E).here.1.1.1.2 (HF.on E).here.1.1.2) HF LW E ak (fun o=>Per.bK o (aj.grow aj.none_ (zc ay.lt))) ay fun A3 c3 w7 HF LW E ay=>?_;exact EK
end
theorem bc6:WhC 7:=by
 intro w A B c d i j hi hj hx hy;by_cases h:j<0
 · have e:gD 7 i j=(0,1):=by
    exact Yl
   rw[e];exact ajj w A B c d i j hi hj hx hy h
 · have e:gD 7 i j=(bE true (i^j.toNat),bg true (i^j.toNat)):=by
    exact Yk
   rw[e];exact ak0 w A B c d i j hi hj hx hy om
theorem whA (op:Int):WhC op:=by
 by_cases h:op=7
 · rw[h];exact bc6
 · exact whC op h
section
variable (w:World) (x y:Nat) (hx:x<18446744073709551616) (hy:y<18446744073709551616)
include hx hy
theorem aE1  :Calls prog 68 #[.int .i64 1,.int .u64 ((x:Nat):Int),.int .u64 ((y:Nat):Int)] w (aF w (.tuple #[.int .u64 ((ji (aR .add x y):Nat):Int),.int .i64 (0)])):=by
 have _:=hx;have _:=hy;refine zd func68 rfl ntmps68 rfl ?_;have LW:=aC (No) w;have ak:=aN (No) w;have E:=aC (No) w;refine JN ?_;refine zb aI5 (Nk _ x y) E fun w1 E=>?_;exact ytx
theorem aE2  :Calls prog 68 #[.int .i64 2,.int .u64 ((x:Nat):Int),.int .u64 ((y:Nat):Int)] w (aF w (.tuple #[.int .u64 ((ji (aR .sub x y):Nat):Int),.int .i64 (0)])):=by
 have _:=hx;have _:=hy;refine zd func68 rfl ntmps68 rfl ?_;have LW:=aC (No) w;have ak:=aN (No) w;have E:=aC (No) w;refine aoz ?_;refine zb aI6 (Nl _ x y) E fun w1 E=>?_;exact ytx
theorem aE3  :Calls prog 68 #[.int .i64 3,.int .u64 ((x:Nat):Int),.int .u64 ((y:Nat):Int)] w (aF w (.tuple #[.int .u64 ((ji (aR .mul x y):Nat):Int),.int .i64 (0)])):=by
 have _:=hx;have _:=hy;refine zd func68 rfl ntmps68 rfl ?_;have LW:=aC (No) w;have ak:=aN (No) w;have E:=aC (No) w;refine aL3 ?_;refine zb aI7 (Nn _ x y) E fun w1 E=>?_;exact ytx
theorem aE4  :Calls prog 68 #[.int .i64 4,.int .u64 ((x:Nat):Int),.int .u64 ((y:Nat):Int)] w (aF w (.tuple #[.int .u64 ((pz x y:Nat):Int),.int .i64 (iH y)])):=by
 have _:=hx;have _:=hy;refine zd func68 rfl ntmps68 rfl ?_;have LW:=aC (No) w;have ak:=aN (No) w;have E:=aC (No) w;refine zZ ?_;refine zn ?_;refine zb aI8 (Np _ x y) E fun w1 E=>(zv ?_);exact xq
theorem Ym  :Calls prog 68 #[.int .i64 5,.int .u64 ((x:Nat):Int),.int .u64 ((y:Nat):Int)] w (aF w (.tuple #[.int .u64 ((Zz x y:Nat):Int),.int .i64 (iH y)])):=by
 have _:=hx;have _:=hy;refine zd func68 rfl ntmps68 rfl ?_;have LW:=aC (No) w;have ak:=aN (No) w;have E:=aC (No) w;refine zZ ?_;refine vp ?_;refine zb aI9 (Et _ x y hx hy) E fun w1 E=>(zv ?_);exact xq
theorem aE5 (op:Int) (h1:op≠1) (h2:op≠2) (h3:op≠3) (h4:op≠4) (h5:op≠5):Calls prog 68 #[.int .i64 op,.int .u64 ((x:Nat):Int),.int .u64 ((y:Nat):Int)] w (aF w (.tuple #[.int .u64 ((pV x y:Nat):Int),.int .i64 (iH y)])):=by
 have _:=hx;have _:=hy;refine zd func68 rfl ntmps68 rfl ?_;have LW:=aC (No) w;have ak:=aN (No) w;have E:=aC (No) w;refine jI ?_;refine zw 9 rfl (sw h1) (zp ?_);refine zw 14 rfl (sw h2) (zp ?_);refine zw 19 rfl (sw h3) (zp ?_);refine zw 24 rfl (sw h4) (zp ?_);refine zw 31 rfl (sw h5) (yk ?_);refine zb aIq (Po _ x y hx hy) E fun w1 E=>?_;exact ytx
end
theorem bc7:ZB 1:=fun w x y hx hy=>aE1 w x y hx hy
theorem bc8:ZB 2:=fun w x y hx hy=>aE2 w x y hx hy
theorem bc9:ZB 3:=fun w x y hx hy=>aE3 w x y hx hy
theorem bcq:ZB 4:=fun w x y hx hy=>aE4 w x y hx hy
theorem bcz:ZB 5:=fun w x y hx hy=>Ym w x y hx hy
theorem flA (op:Int):ZB op:=by
 by_cases h1:op=1
 · rw[h1];exact bc7
 by_cases h2:op=2
 · rw[h2];exact bc8
 by_cases h3:op=3
 · rw[h3];exact bc9
 by_cases h4:op=4
 · rw[h4];exact bcq
 by_cases h5:op=5
 · rw[h5];exact bcz
 intro w x y hx hy;unfold tT;rw[if_neg h1,if_neg h2,if_neg h3,if_neg h4,if_neg h5];exact aE5 w x y hx hy op h1 h2 h3 h4 h5
end
noncomputable def pX (v:Int):PV×Int:=if bg true v=0 then (vI (bE true v),0) else (vZ,bg true v)
theorem ak4 {v:Int} (h:v.natAbs<av^30):pX v=(vI v,0):=by
 unfold pX;rw[xh h,if_pos rfl,xa h]
theorem ak5 {v:Int} (h:¬v.natAbs<av^30):pX v=(vZ,7):=by
 have e:bg true v=7:=by unfold bg;rw[if_pos rfl,if_neg h]
 unfold pX;rw[e,if_neg de]
section
variable {a b:PV} (ha:a.k=1∨a.k=2) (hb:b.k=1∨b.k=2)
include ha hb
theorem nm_add:pW 1 a b=pX (vb a+vb b):=qzq ha hb de
theorem aE8:pW 2 a b=pX (vb a-vb b):=qzq ha hb de
theorem aE9:pW 3 a b=pX (vb a*vb b):=qzq ha hb de
theorem ak6 (h:vb b<0):pW 7 a b=(vZ,1):=by
 have e:gD 7 (vb a) (vb b)=(0,1):=by
  exact Yl
 rw[qzq ha hb de,e,if_neg de]
theorem ak7 (h:¬vb b<0):pW 7 a b=pX (vb a^(vb b).toNat):=by
 have e:gD 7 (vb a) (vb b)=(bE true (vb a^(vb b).toNat),bg true (vb a^(vb b).toNat)):=by
  exact Yk
 rw[qzq ha hb de,e];rfl
theorem Yu (h:vb b≠0):pW 5 a b=(vI (dq (decide (vb a<0)) (decide (vb b<0)) (vb a).natAbs (vb b).natAbs),0):=by
 have e:gD 5 (vb a) (vb b)=(dq (decide (vb a<0)) (decide (vb b<0)) (vb a).natAbs (vb b).natAbs,0):=by
  unfold gD;rw[if_neg de,if_neg de,if_neg de,if_neg de,if_neg h,if_pos rfl]
 rw[qzq ha hb de,e,if_pos rfl]
theorem aEq (h:vb b≠0):pW 6 a b=(vI (dr (decide (vb a<0)) (decide (vb b<0)) (vb a).natAbs (vb b).natAbs),0):=by
 have e:gD 6 (vb a) (vb b)=(dr (decide (vb a<0)) (decide (vb b<0)) (vb a).natAbs (vb b).natAbs,0):=by
  unfold gD;rw[if_neg de,if_neg de,if_neg de,if_neg de,if_neg h,if_neg de]
 rw[qzq ha hb de,e,if_pos rfl]
end
theorem Yv {i j:Int} (hi:i.natAbs<av^30) (hj:j≠0):(dq (decide (i<0)) (decide (j<0)) i.natAbs j.natAbs).natAbs<av^30:=dqI hi om
theorem Yw {i j:Int} (hj:j.natAbs<av^30) (h0:j≠0):(dr (decide (i<0)) (decide (j<0)) i.natAbs j.natAbs).natAbs<av^30:=by
 have h3:i.natAbs%j.natAbs<j.natAbs:=Nat.mod_lt _ om;unfold dr;split
 · rw[vw];omega
 · split
   · exact Nat.pow_pos (by unfold av;omega)
   · rw[vw];omega
theorem zrv {v:Int} (h:v.natAbs<av^30):(ah v).length≤540:=(yix v).2 h
theorem Yx {X:Nat→Prop} {W w':World} {A0 A:Option Addr} {xs0:List Nat} {v:Int} (o:aH w' A (ah v)) (p:(∀q,A=some q→W.heap.size≤q.block)∨(A=A0∧ah v=xs0)) (hX:∀k,X k→k<W.heap.size) (k:Per X w' (fun b=>aH b A0 xs0)):Per X w' (fun b=>aH b A (ah v)):=by
 rcases p with p | ⟨rfl,e⟩
 · exact Per.wF o (fun q hq h=>by have h1:=p q hq;have h2:=hX _ h;omega)
 · rw[e];exact k
theorem yH {s:ByteArray} {n:Int} (h:n≤0∨s.size=0):fA s n=(vT ⟨#[]⟩,0):=by unfold fA;rw[if_pos h]
theorem nK {s:ByteArray} {n:Int} (h:¬(n≤0∨s.size=0)) (h2:20000<n*s.size):fA s n=(vZ,2):=by unfold fA;rw[if_neg h,if_pos h2]
theorem aEz {s:ByteArray} {n:Int} {m:Nat} (hm:n=(m:Int)) (h:¬(n≤0∨s.size=0)) (h2:m*s.size≤20000):fA s n=(vT ⟨(Lib.repeatL s.data.toList m).toArray⟩,0):=by
 unfold fA;have e:n*(s.size:Int)=((m*s.size:Nat):Int):=by rw[hm,Int.natCast_mul]
 rw[if_neg h,if_neg (by rw[e];omega),show n.toNat=m from om]
theorem ak8 {s:ByteArray} {n:Int} {m:Nat} (hm:n=(m:Int)):n*(s.size:Int)=((m*s.size:Nat):Int):=by rw[hm,Int.natCast_mul]
theorem aEx (s:ByteArray) (m:Nat):(⟨(Lib.repeatL s.data.toList m).toArray⟩:ByteArray).size=m*s.size:=by
 have h1:∀a:ByteArray,a.size=a.data.toList.length:=fun a=>by rw[Array.length_toList];rfl
 rw[h1,h1,List.toList_toArray,Lib.repeatL_length]
theorem Yy (s:ByteArray) (m:Nat):(⟨(Lib.repeatL s.data.toList m).toArray⟩:ByteArray)++s= ⟨(Lib.repeatL s.data.toList (m+1)).toArray⟩:=by
 have h2:∀ {a b:ByteArray},a.data.toList=b.data.toList→a=b:=fun {a b} h=>by
  cases a
  cases b
  congr
  exact Array.toList_inj.1 h
 refine h2 ?_;rw[ByteArray.data_append,Array.toList_append,List.toList_toArray,List.toList_toArray,Lib.repeatL_add,Lib.repeatL_one]
section
attribute [local irreducible] OW RS CW EW
theorem Yz (w:World) (A:Option Addr) (c:Nat) (v:Int) (hx:aH w A (ah v)) (h:v.natAbs<av^30):Calls prog 73 #[.agg #[.bool (decide (v<0)),.slice A (ah v).length c]] w (oz w (vI v,0)):=by
 have _:=hx;have ht:=zrv h;refine zj func73 ntmps73 fun HF LW ak E=>?_;replace HF:=HF.and (Per.eY hx);refine zi ?_;refine zg HF LW E ak fun aO w2 HF LW E=>(yb ko HF LW E ak fun bM w4 bP sj HF E ak=>?_);refine zp ?_;refine zh Rp (decide_eq_true ht▸vhv A c v _) E bP fun w5 E bP=>(qc ?_);have S5:=Nat.le_trans LW.size E.size;refine vv Me (qfq _ A c v (HF.on E).here.1.2 om) HF LW E ak (fun o=>Per.bK o (aj.grow aj.none_ (zc bP.lt))) bP fun A5 c5 w6 HF LW E bP=>(yi qj bP E aj.head fun w7 bP E=>?_);obtain ⟨HF,LW,ak,E⟩:=d9 HF LW E ak (Y:=No) (aj.skip aj.bI) (Per.bH bP au.nil);refine zn ?_;exact ⟨A5,c5,rfl,((HF.on E).here.1.2).mono S5,aP LW E ak⟩
theorem YA (w:World) (A:Option Addr) (c:Nat) (v:Int) (hx:aH w A (ah v)) (h:¬v.natAbs<av^30):Calls prog 73 #[.agg #[.bool (decide (v<0)),.slice A (ah v).length c]] w (oz w (vZ,7)):=by
 have _:=hx;have ht:¬(ah v).length≤540:=fun e=>h ((yix v).1 e);refine zj func73 ntmps73 fun HF LW ak E=>?_;refine zi ?_;refine zg HF LW E ak fun aO w2 HF LW E=>(yb ko HF LW E ak fun bM w4 bP sj HF E ak=>?_);refine zp ?_;refine zh Rp (decide_eq_false ht▸vhv A c v _) E bP fun w5 E bP=>(zo ?_);refine jm ?_;refine yi qj bP E aj.head fun w6 bP E=>?_;exact iD
theorem yI (w:World) (A:Option Addr) (c:Nat) (v:Int) (hx:aH w A (ah v)) (p:PV×Int) (hp:p=pX v):Calls prog 73 #[.agg #[.bool (decide (v<0)),.slice A (ah v).length c]] w (oz w p):=by
 subst hp;by_cases h:v.natAbs<av^30
 · rw[ak4 h];exact Yz w A c v hx h
 · rw[ak5 h];exact YA w A c v hx h
theorem nL {P Q:Prop} (k:Q) (h:(Unit→Q)→P:=by
 intro zK;refine yv ?_;refine zw 74 rfl ((by simp[e2]:(.bool (g !=0):Value)=_)) (zo ?_);exact zK ()):P:=h fun _=>k
theorem auq {P:Prop} (h:P:=by
 refine za rfl (qz (cs:=#[.int .i64 0,.bool false,.bool false,.slice none 0 0,.int .u64 0,.string ⟨#[]⟩,.slice none 0 0]) nU ko rfl rfl (yi qj ay E aj.head fun w7 ay E=>?_));exact iD):P:=h
section
variable (w:World) (ua ub:PV) (A1 B1 A2 B2:Option Addr) (c1 d1 c2 d2:Nat) (hx:aA w A1 ua.xs) (hl:ua.xs.length≤9223372036854775807) (ha:ua.bits<18446744073709551616) (ga:ua.good=true) (hy:aA w A2 ub.xs) (hl':ub.xs.length≤9223372036854775807) (hb0:ub.bits<18446744073709551616) (gb:ub.good=true)
variable {bp op cp bf of cf bl ol cl:Nat} (aV:bV bp op cp bf of cf bl ol cl w) (hE:∃te pe,w.cell? ⟨4,0,none⟩=some (.iface te pe))
include hx hl ha ga hy hl' hb0 gb aV hE
theorem viz (op:Int) (h1:1≤op) (h8:op≤7) (na:og ua.k=true) (nb:og ub.k=true) (p:PV×Int) (hp:p=if op=7 then (vZ,9) else ZA op (fZ ua) (fZ ub)):Calls prog 37 #[.int .i64 op,bG ua A1 c1 B1 d1,bG ub A2 c2 B2 d2] w (oz w (p)):=by
 have _:=hx;have _:=hl;have _:=ha;have _:=ga;have _:=hy;have _:=hl';have _:=hb0;have _:=gb;have _:=aV;obtain ⟨te,pe,hE⟩:=hE;obtain ⟨x,hX⟩:∃x,x=(fZ ua).1:=⟨_,rfl⟩;obtain ⟨f,hF⟩:∃f,f=(fZ ua).2:=⟨_,rfl⟩;obtain ⟨y,hY⟩:∃y,y=(fZ ub).1:=⟨_,rfl⟩;obtain ⟨g,hG⟩:∃g,g=(fZ ub).2:=⟨_,rfl⟩;have xl:x<18446744073709551616:=hX▸vwq ha;have yl:y<18446744073709551616:=hY▸vwq hb0;refine zj func37 ntmps37 fun HF LW ak E=>?_;replace HF:=HF.and (Per.aD hx);replace HF:=HF.and (Per.aD hy);replace HF:=HF.and (Per.tabs aV (fun _ h=>h.elim));replace HF:=HF.and (Per.bY hE (fun _ h=>h.elim));refine zi ?_;refine zg HF LW E ak fun aO w2 HF LW E=>(zg HF LW E ak fun bM w4 HF LW E=>(yb ko HF LW E ak fun aJ w6 ay dJ HF E ak=>?_));refine zv ?_;by_cases h7:op=7
 ·
  rw[if_pos h7] at hp;subst hp;refine qm 13 rfl (sw h7) (zr ?_);exact auq
 ·
  rw[if_neg h7] at hp;unfold ZA at hp;rw[←hF,←hG,←hX,←hY] at hp;refine zw 13 rfl (sw h7) (zo ?_);refine zh aH6 (Lj _ ua A1 B1 c1 d1 (HF.on E).here.1.1.1.1.1.2 hl ha ga (HF.on E).here.1.1.1.2 ⟨te,pe,(HF.on E).here.1.1.2⟩ na x f hX hF) E ay fun w8 E ay=>(kh ?_);by_cases e1:f=0
  ·
   rw[if_neg (not_not_intro e1)] at hp;refine zw 21 rfl ((by simp[e1]:(.bool (f !=0):Value)=_)) (zo ?_);refine zh aH6 (Lj _ ub A2 B2 c2 d2 (HF.on E).here.1.1.1.1.2 hl' hb0 gb (HF.on E).here.1.1.1.2 ⟨te,pe,(HF.on E).here.1.1.2⟩ nb y g hY hG) E ay fun w9 E ay=>(kh ?_);by_cases e2:g=0
   ·
    rw[if_neg (not_not_intro e2)] at hp;refine zw 30 rfl ((by simp[e2]:(.bool (g !=0):Value)=_)) (qN ?_);by_cases o1:op=1
    ·
     refine qm 34 rfl (sw o1) ?_;rw[show tT op x y=(ji (aR .add x y),0) by rw[o1];rfl,if_neg (not_not_intro rfl)] at hp;subst hp;refine ye ?_;refine zh awq (qok _ x y) E ay fun dI E ay=>(nL ?_);refine zh FW (zhq _ (ji (aR .add x y)) (zwk _)) E ay fun dV E ay=>(yi qj ay E aj.head fun dB ay E=>?_);exact oG
    ·
     refine zw 34 rfl (sw o1) (zp ?_);by_cases o2:op=2
     ·
      refine qm 39 rfl (sw o2) ?_;rw[show tT op x y=(ji (aR .sub x y),0) by rw[o2];rfl,if_neg (not_not_intro rfl)] at hp;subst hp;refine ye ?_;refine zh awz (qox _ x y yl) E ay fun dS E ay=>(nL ?_);refine zh FW (zhq _ (ji (aR .sub x y)) (zwk _)) E ay fun cZ E ay=>(yi qj ay E aj.head fun dQ ay E=>?_);exact oG
     ·
      refine zw 39 rfl (sw o2) (zp ?_);by_cases o3:op=3
      ·
       refine qm 44 rfl (sw o3) ?_;rw[show tT op x y=(ji (aR .mul x y),0) by rw[o3];rfl,if_neg (not_not_intro rfl)] at hp;subst hp;refine ye ?_;refine zh aW2 (GI _ x y) E ay fun w16 E ay=>(nL ?_);refine zh FW (zhq _ (ji (aR .mul x y)) (zwk _)) E ay fun fI E ay=>(yi qj ay E aj.head fun rT ay E=>?_);exact oG
      ·
       refine zw 44 rfl (sw o3) (zp ?_);by_cases o4:op=4
       ·
        refine qm 49 rfl (sw o4) ?_;obtain ⟨z,hZ⟩:∃z,z=pz x y:=⟨_,rfl⟩;obtain ⟨k,hK⟩:∃k,k=iH y:=⟨_,rfl⟩;have zl:z<18446744073709551616:=by rw[hZ];exact nE 4 xl yl
        rw[show tT op x y=(z,k) by rw[hZ,hK,o4];rfl] at hp;refine ye ?_;refine zh aHj (hZ▸hK▸kG _ x y yl) E ay fun fC E ay=>(xf ?_);by_cases e3:k=0
        ·
         rw[if_neg (not_not_intro e3)] at hp;subst hp;refine zw 74 rfl (sw e3) (zo ?_);refine zh FW (zhq _ z zl) E ay fun wL E ay=>(yi qj ay E aj.head fun wW ay E=>?_);exact oG
        ·
         rw[if_pos e3] at hp;subst hp;refine qm 74 rfl (sw e3) (Ya ?_);refine yi qj ay E aj.head fun NP ay E=>?_;exact iD
       ·
        refine zw 49 rfl (sw o4) (zp ?_);by_cases o5:op=5
        ·
         refine qm 57 rfl (sw o5) ?_;obtain ⟨z,hZ⟩:∃z,z=Zz x y:=⟨_,rfl⟩;obtain ⟨k,hK⟩:∃k,k=iH y:=⟨_,rfl⟩;have zl:z<18446744073709551616:=by rw[hZ];exact nE 5 xl yl
         rw[show tT op x y=(z,k) by rw[hZ,hK,o5];rfl] at hp;refine ye ?_;refine zh aW3 (hZ▸hK▸yB _ x y xl yl) E ay fun wN E ay=>(xf ?_);by_cases e3:k=0
         ·
          rw[if_neg (not_not_intro e3)] at hp;subst hp;refine zw 74 rfl (sw e3) (zo ?_);refine zh FW (zhq _ z zl) E ay fun w24 E ay=>(yi qj ay E aj.head fun Hr ay E=>?_);exact oG
         ·
          rw[if_pos e3] at hp;subst hp;refine qm 74 rfl (sw e3) ?_;exact asj
        ·
         refine zw 57 rfl (sw o5) ?_;have o6:op=6:=om;refine zp ?_;refine qm 65 rfl (sw o6) ?_;obtain ⟨z,hZ⟩:∃z,z=pV x y:=⟨_,rfl⟩;obtain ⟨k,hK⟩:∃k,k=iH y:=⟨_,rfl⟩;have zl:z<18446744073709551616:=by rw[hZ];exact nE 6 xl yl
         rw[show tT op x y=(z,k) by rw[hZ,hK,o6];rfl] at hp;refine ye ?_;refine zh aW4 (hZ▸hK▸Jh _ x y xl yl) E ay fun w27 E ay=>(xf ?_);by_cases e3:k=0
         ·
          rw[if_neg (not_not_intro e3)] at hp;subst hp;refine zw 74 rfl (sw e3) (zo ?_);refine zh FW (zhq _ z zl) E ay fun w28 E ay=>(yi qj ay E aj.head fun w29 ay E=>?_);exact oG
         ·
          rw[if_pos e3] at hp;subst hp;refine qm 74 rfl (sw e3) (Ya ?_);refine yi qj ay E aj.head fun Qs ay E=>?_;exact iD
   ·
    rw[if_pos e2] at hp;subst hp;refine qm 30 rfl ((by simp[e2]:(.bool (g !=0):Value)=_)) (Ya ?_);refine yi qj ay E aj.head fun w31 ay E=>?_;exact iD
  ·
   rw[if_pos e1] at hp;subst hp;refine qm 21 rfl ((by simp[e1]:(.bool (f !=0):Value)=_)) (Ya ?_);refine yi qj ay E aj.head fun w32 ay E=>?_;exact iD
end
theorem Jt {P:Prop} (h:P:=by
 replace E:=E.step1 dw aj.head;refine zp ?_;exact uf):P:=h
theorem Ju {P:Prop} (h:P:=by
 exact kj rfl rfl ⟨Below.refl _ _,⟨⟨A6,c6⟩,rfl,(k4.map (fun _ h=>h))⟩⟩):P:=h
theorem Jv {P:Prop} (h:P:=by
 rintro e w2 ⟨A3,c3,rfl,hO,hb⟩;exact ⟨_,rfl,hb,⟨(A3,c3),rfl,Per.eO hO XN⟩⟩):P:=h
theorem YB {P:Prop} (h:P:=by
 obtain ⟨⟨A6,c6⟩,e0,_⟩:=K.dep 5 rfl rfl rfl;exact ⟨vs 5,rfl,by rw[e0];rfl,by rw[e0];rfl⟩):P:=h
theorem auz {P:Prop} (h:P:=by
 clear AL AF AA LE AO OY e5 e8 k5 k8 dx;refine zn ?_;exact ⟨A6,c6,rfl,(HF.on E).here.2,aP LW E ak⟩):P:=h
theorem YC {P:Prop} (h:P:=by
 rintro e w2 ⟨A6,c6,rfl,hO,hb⟩;exact ⟨_,rfl,hb,⟨(A6,c6),rfl,qax hO XN (Nat.le_trans GL LE.size)⟩⟩):P:=h
theorem uf {P:Prop} (h:P:=by
 exact ⟨A6,c6,rfl,((HF.on E).here.2).mono S6,aP LW E ak⟩):P:=h
section
variable (w:World) (ua ub:PV) (A1 B1 A2 B2:Option Addr) (c1 d1 c2 d2:Nat) (hx:aA w A1 ua.xs) (hl:ua.xs.length≤9223372036854775807) (ha:ua.bits<18446744073709551616) (ga:ua.good=true) (hy:aA w A2 ub.xs) (hl':ub.xs.length≤9223372036854775807) (hb0:ub.bits<18446744073709551616) (gb:ub.good=true)
variable {bp op cp bf of cf bl ol cl:Nat} (aV:bV bp op cp bf of cf bl ol cl w) (hE:∃te pe,w.cell? ⟨4,0,none⟩=some (.iface te pe))
include hx hl ha ga hy hl' hb0 gb aV hE
theorem PN (op:Int) (h1:1≤op) (h7:op≤7) (ka:ua.k=1∨ua.k=2) (kb:ub.k=1∨ub.k=2) (p:PV×Int) (hp:p=pW op ua ub):Calls prog 35 #[.int .i64 op,bG ua A1 c1 B1 d1,bG ub A2 c2 B2 d2] w (oz w p):=by
 have _:=hx;have _:=hl;have _:=ha;have _:=ga;have _:=hy;have _:=hl';have _:=hb0;have _:=gb;have _:=aV;obtain ⟨te,pe,hE⟩:=hE;obtain ⟨I,hI⟩:∃I,I=vb ua:=⟨_,rfl⟩;obtain ⟨J,hJ⟩:∃J,J=vb ub:=⟨_,rfl⟩;have Ib:I.natAbs<av^30:=hI▸Qu ga ka;have Jb:J.natAbs<av^30:=hJ▸Qu gb kb;have ti:=zrv Ib;have tj:=zrv Jb;refine zj func35 ntmps35 fun HF LW ak E=>?_;replace HF:=HF.and (Per.aD hx);replace HF:=HF.and (Per.aD hy);replace HF:=HF.and (Per.tabs aV (fun _ h=>h.elim));replace HF:=HF.and (Per.bY hE (fun _ h=>h.elim));refine zi ?_;refine zg HF LW E ak fun aO w2 HF LW E=>(zg HF LW E ak fun bM w4 HF LW E=>(yb ko HF LW E ak fun aJ w6 ay dJ HF E ak=>?_));refine ye ?_;have OY:∀q9,(aj (kf [])) q9→q9<(World.drew w6).heap.size→(aj [(some aJ)]) q9:=fun k h _=>(aj.none_) k h;refine yq (aj [(some aJ)]) (aj.grow aj.none_ (zc ay.lt)) [⟨4,6,48,#[.bool false,.slice none 0 0]⟩,⟨5,7,48,#[.bool false,.slice none 0 0]⟩] [] (xc [Fx.of (bG ua A1 c1 B1 d1),
  ⟨(Option Addr×Nat),fun (A3,c3)=>.agg #[.bool (decide (I<0)),.slice A3 (ah I).length c3],fun (A3,c3) b=>(aH b A3 (ah I))⟩,
  Fx.of (bG ub A2 c2 B2 d2),
  ⟨(Option Addr×Nat),fun (A4,c4)=>.agg #[.bool (decide (J<0)),.slice A4 (ah J).length c4],fun (A4,c4) b=>(aH b A4 (ah J))⟩,
  Fx.of undef,
  Fx.of undef,
  Fx.of undef,
  Fx.of undef]) mixed rfl trivial (fun _ h=>by cases h) ?_ ?_
 · refine ⟨arm,?_,arm,?_,?_,?_,?_,?_,trivial⟩
   · refine yx ?_;intro vs X wq K;have LE:=K.1;have XN:=K.2.1;refine ze Rm rfl ((yyv _ ua A1 B1 c1 d1 (HF.on (E.drew.trans (LE.mono OY))).here.1.1.1.1.1.2 ga I hI ka).mono ?_);exact Jv
   · refine yx ?_;intro vs X wq K;have LE:=K.1;have XN:=K.2.1;refine ze Rm rfl ((yyv _ ub A2 B2 c2 d2 (HF.on (E.drew.trans (LE.mono OY))).here.1.1.1.1.2 gb J hJ kb).mono ?_);rintro e w2 ⟨A4,c4,rfl,hO,hb⟩;exact ⟨_,rfl,hb,⟨(A4,c4),rfl,Per.eO hO XN⟩⟩
   · exact ⟨_,_,_,_,_,rfl,yL,rfl⟩
   · exact ⟨_,_,_,_,_,rfl,yL,rfl⟩
   · refine ⟨_,_,_,_,_,rfl,rfl,rfl,qK,fun vs X wq K=>?_⟩;obtain ⟨⟨A3,c3⟩,e0,_⟩:=K.dep 1 rfl rfl rfl;exact ⟨vs 1,rfl,by rw[e0];rfl,by rw[e0];rfl⟩
   · refine ⟨_,_,_,_,_,rfl,rfl,rfl,qK,fun vs X wq K=>?_⟩;obtain ⟨⟨A4,c4⟩,e0,_⟩:=K.dep 3 rfl rfl rfl;exact ⟨vs 3,rfl,by rw[e0];rfl,by rw[e0];rfl⟩
 intro vs w7 LE AO AL AF AA;have dx:=ay;replace ay:=ay.drew.aG LE au.nil;replace E:=E.drew.trans (LE.mono OY);obtain ⟨⟨A3,c3⟩,e1,k1⟩:=AL.2.1;obtain ⟨⟨A4,c4⟩,e3,k3⟩:=AL.2.2.2.1;obtain ⟨HF,LW,E⟩:=dG HF LW E ak ((k1.map (fun _ h=>h):Per (aj [(some aJ)]) w7 (fun b=>aH b A3 (ah I))));obtain ⟨HF,LW,E⟩:=dG HF LW E ak ((k3.map (fun _ h=>h):Per (aj [(some aJ)]) w7 (fun b=>aH b A4 (ah J))));obtain ⟨bR,v0,y0,qb8,eD,aZ,ey,dR⟩:=AF.1;cases ey
 obtain rfl:vs 1=v0:=Option.some.inj dR;rw[e1] at aZ;have bS:Apart (some bR) (some aJ):=Apart.of_lt (zc dx.lt) eD;have dZ:=bS.symm;obtain ⟨HF,LW,E⟩:=dG HF LW E ak ((Per.bH aZ (au.cons bS au.nil):Per (aj [(some aJ)]) w7 (fun b=>aB b bR 48 #[.bool (decide (I<0)),.slice A3 (ah I).length c3])));have e4:=qb8;obtain ⟨YD,v0,y0,qb9,Gb9,gH,ey,dR⟩:=AF.2.1;cases ey
 obtain rfl:vs 3=v0:=Option.some.inj dR;rw[e3] at gH;have YE:Apart (some YD) (some aJ):=Apart.of_lt (zc dx.lt) Gb9;have bd0:=YE.symm;obtain ⟨HF,LW,E⟩:=dG HF LW E ak ((Per.bH gH (au.cons YE au.nil):Per (aj [(some aJ)]) w7 (fun b=>aB b YD 48 #[.bool (decide (J<0)),.slice A4 (ah J).length c4])));have e5:=qb9;refine vi (τ:=[(0,_),(4,_),(5,_),(6,_),(7,_),(8,.pointer (some ⟨bR,0,none⟩)),(9,.pointer (some ⟨YD,0,none⟩))]) ⟨rfl,rfl,rfl,rfl,rfl,congrArg some e4,congrArg some e5,trivial⟩ ?_;clear AL AF AA LE AO OY e1 e3 e4 e5 k1 k3 dx;refine kh ?_;by_cases o1:op=1
 ·
  refine qm 19 rfl (sw o1) ?_;obtain ⟨S,hS⟩:∃S,S=I+J:=⟨_,rfl⟩;rw[o1,nm_add ka kb,←hI,←hJ,←hS] at hp;refine zn ?_;refine vv aHq (hS▸rM A3 A4 c3 c4 I J _ (HF.on E).here.1.1.1.2 (HF.on E).here.1.1.2 om om) HF LW E ak (fun o=>Per.eO o (aj.grow aj.none_ (zc ay.lt))) ay fun A5 c5 dI HF LW E ay=>?_;have S6:=Nat.le_trans LW.size E.size;refine vv aw9 (yI _ A5 c5 S (HF.on E).here.2 p hp) HF LW E ak (fun o=>Per.bK o (aj.grow aj.none_ (zc ay.lt))) ay fun A6 c6 dV HF LW E ay=>(zi ?_);refine yjx ?_;intro dB Bx dw;replace ay:aB dB aJ 28 #[.int .i64 p.1.k,.bool p.1.yes,.bool p.1.neg,.slice A6 p.1.xs.length c6,.int .u64 (p.1.bits:Int),.string p.1.s,.slice none 0 0]:=Bx;exact Jt
 ·
  refine zw 19 rfl (sw o1) (zp ?_);by_cases o2:op=2
  ·
   refine qm 27 rfl (sw o2) ?_;obtain ⟨S,hS⟩:∃S,S=I-J:=⟨_,rfl⟩;rw[o2,aE8 ka kb,←hI,←hJ,←hS] at hp;obtain ⟨Z,hK⟩:∃Z,Z= -J:=⟨_,rfl⟩;have hSK:S=I+Z:=om;have tk:(ah Z).length≤540:=by rw[Jo hK];exact tj
   refine zi ?_;have GL:=((LW.step E ak).toBelow).size;have OY:∀q9,(aj (kf [⟨7,aJ,28,#[.int .i64 0,.bool false,.bool false,.slice none 0 0,.int .u64 0,.string ⟨#[]⟩,.slice none 0 0]⟩])) q9→q9<(World.drew w7).heap.size→(aj [(some aJ)]) q9:=fun k h _=>((aj.grow aj.none_ aj.head)) k h;refine yq (aj [(some aJ)]) (aj.grow aj.none_ (zc ay.lt)) [] [⟨7,aJ,28,#[.int .i64 0,.bool false,.bool false,.slice none 0 0,.int .u64 0,.string ⟨#[]⟩,.slice none 0 0]⟩] (xc [Fx.of (.agg #[.bool (decide (I<0)),.slice A3 (ah I).length c3]),
    Fx.of (.agg #[.bool (decide (J<0)),.slice A4 (ah J).length c4]),
    Fx.of (.agg #[.bool (decide (Z<0)),.slice A4 (ah Z).length c4]),
    ⟨(Option Addr×Nat),fun (A5,c5)=>.agg #[.bool (decide (S<0)),.slice A5 (ah S).length c5],fun (A5,c5) b=>(aH b A5 (ah S))⟩,
    ⟨(Option Addr×Nat),fun (A6,c6)=>.tuple #[.agg #[.int .i64 p.1.k,.bool p.1.yes,.bool p.1.neg,.slice A6 p.1.xs.length c6,.int .u64 (p.1.bits:Int),.string p.1.s,.slice none 0 0],.int .i64 p.2],fun (A6,c6) b=>(Own b w.heap.size A6 c6 p.1.xs)⟩,
    ⟨(Option Addr×Nat),fun (A6,c6)=>.agg #[.int .i64 p.1.k,.bool p.1.yes,.bool p.1.neg,.slice A6 p.1.xs.length c6,.int .u64 (p.1.bits:Int),.string p.1.s,.slice none 0 0],fun (A6,c6) b=>(Own b w.heap.size A6 c6 p.1.xs)⟩,
    Fx.of (.int .i64 p.2),
    Fx.of undef,
    Fx.of (.int .i64 p.2)]) mixed rfl ⟨⟨aj.head _ rfl,ay,fun _ h=>by cases h⟩,trivial⟩ (by intro o ho;simp at ho;rcases ho with rfl<;>simp) ?_ ?_
   · refine ⟨arm,arm,?_,?_,?_,?_,?_,?_,arm,trivial⟩
     · refine yx ?_;intro vs X wq K;refine ze aV9 rfl ((ak1 A4 c4 J om Z hK).mono ?_);exact N8
     · refine yx ?_;intro vs X wq K;have LE:=K.1;have XN:=K.2.1;refine ze aHq rfl ((hSK▸rM A3 A4 c3 c4 I Z _ (HF.on (E.drew.trans (LE.mono OY))).here.1.1.1.2 ((Jo hK).symm▸(HF.on (E.drew.trans (LE.mono OY))).here.1.1.2) om om).mono ?_);exact Vn
     · intro vs X wq K;have LE:=K.1;have XN:=K.2.1;obtain ⟨⟨A5,c5⟩,e3,k3⟩:=K.dep 3 rfl rfl rfl;refine qq 32 _ rfl e3 (ze aw9 rfl ((yI _ A5 c5 S (k3.here) p hp).mono ?_));exact YC
     · intro vs X wq K;obtain ⟨⟨A6,c6⟩,e4,k4⟩:=K.dep 4 rfl rfl rfl;refine qq 33 _ rfl e4 ?_;exact Ju
     · intro vs X wq K;obtain ⟨⟨A6,c6⟩,e4,k4⟩:=K.dep 4 rfl rfl rfl;refine qq 33 _ rfl e4 ?_;exact kY
     · refine ⟨_,_,_,_,_,rfl,rfl,qj,fun vs X wq K=>⟨rfl,?_⟩⟩;exact YB
   intro vs dS LE AO AL AF AA;have dx:=ay;replace E:=E.drew.trans (LE.mono OY);obtain ⟨⟨A6,c6⟩,e5,k5⟩:=AL.2.2.2.2.2.1;obtain ⟨_,e8,k8⟩:=AL.2.2.2.2.2.2.2.2.1;obtain ⟨v0,y0,Bx,ey,dR⟩:=AO.1;cases ey
   obtain rfl:vs 5=v0:=Option.some.inj dR;rw[e5] at Bx;replace ay:aB dS aJ 28 #[.int .i64 p.1.k,.bool p.1.yes,.bool p.1.neg,.slice A6 p.1.xs.length c6,.int .u64 (p.1.bits:Int),.string p.1.s,.slice none 0 0]:=Bx;obtain ⟨HF,LW,E⟩:=dG HF LW E ak ((k5.map (fun _ h=>h):Per (aj [(some aJ)]) dS (fun b=>Own b w.heap.size A6 c6 p.1.xs)));refine vi (τ:=[(0,_),(4,_),(5,_),(6,_),(7,.int .i64 p.2),(8,_),(9,_)]) ⟨rfl,rfl,rfl,rfl,congrArg some e8,rfl,rfl,trivial⟩ ?_;exact auz
  ·
   refine zw 27 rfl (sw o2) (zp ?_);by_cases o3:op=3
   ·
    refine qm 36 rfl (sw o3) ?_;obtain ⟨S,hS⟩:∃S,S=I*J:=⟨_,rfl⟩;rw[o3,aE9 ka kb,←hI,←hJ,←hS] at hp;refine zn ?_;refine vv aHz (hS▸mV A3 A4 c3 c4 I J _ (HF.on E).here.1.1.1.2 (HF.on E).here.1.1.2 om om) HF LW E ak (fun o=>Per.eO o (aj.grow aj.none_ (zc ay.lt))) ay fun A5 c5 cZ HF LW E ay=>?_;have S6:=Nat.le_trans LW.size E.size;refine vv aw9 (yI _ A5 c5 S (HF.on E).here.2 p hp) HF LW E ak (fun o=>Per.bK o (aj.grow aj.none_ (zc ay.lt))) ay fun A6 c6 dQ HF LW E ay=>(zi ?_);refine yi qj ay E aj.head fun w16 ay E=>?_;refine zp ?_;exact uf
   ·
    refine zw 36 rfl (sw o3) (zp ?_);by_cases o7:op=7
    ·
     refine qm 44 rfl (sw o7) (zn ?_);by_cases h0:J<0
     ·
      rw[o7,ak6 ka kb (hJ▸h0)] at hp;subst hp;refine za rfl (ze aHx rfl ((Xt I J A3 A4 c3 c4 _ Ib Jb (HF.on E).here.1.1.1.2 (HF.on E).here.1.1.2 h0).mono ?_));rintro e fI ⟨A5,c5,rfl,_,_,hb⟩;refine ⟨_,rfl,?_⟩;have Ec:=Ext.of_below hb No;replace ay:=ay.aG Ec au.nil;replace E:=E.trans Ec.no;refine zr ?_;refine za rfl (kt yL ?_);intro wT fC wU fP pJ;have ak9:Apart (some wT) (some aJ):=Apart.of_lt (zc ay.lt) pJ;have akq:=ak9.symm;have pJ:_≤wT:=Nat.le_trans E.size pJ;have bdx:=Nat.le_trans LW.size pJ;replace ay:=ay.aG fP au.nil;replace E:=E.trans fP.no;replace E:=E.cons (some wT);replace ak:=aj.grow ak (fun k e=>Or.inr (Nat.le_trans LW.size ((gu pJ) k e)));refine yj (qx qK rfl rfl wU rfl rfl rfl ?_);intro wL Bx fP;replace wU:aB wL wT 48 #[.bool (decide ((0:Int)<0)),.slice A5 (ah (0:Int)).length c5]:=Bx;replace ay:=ay.aG fP (au.cons akq au.nil);replace E:=E.step1 fP aj.head;replace LW:=LW.step E ak;have SB:∀q9,aj [(some aJ)] q9→aj [(some wT),(some aJ)] q9:=(aj.skip (aj.keep aj.bI));replace ak:=fun k h=>ak k (SB k h);clear SB;replace E:=aC (aj [(some aJ)]) wL;refine ja ?_;refine jm ?_;refine aK ?_;refine yi qj ay E aj.head fun wW ay E=>?_;refine yk ?_;exact vbv
     ·
      obtain ⟨v,hv⟩:∃v,v=I^J.toNat:=⟨_,rfl⟩;rw[o7,ak7 ka kb (hJ▸h0),←hI,←hJ,←hv] at hp;have Jm:=fun A B c d w hx hy=>aS6 I J A B c d w Ib Jb hx hy (show 0≤J from om);rw[←hv] at Jm;unfold pX at hp;obtain ⟨V,hV⟩:∃V,V=bE true v:=⟨_,rfl⟩;obtain ⟨f,hf⟩:∃f,f=bg true v:=⟨_,rfl⟩;rw[←hV,←hf] at Jm hp;have Vb:V.natAbs<av^30:=hV▸qzx;have tv:=zrv Vb;refine za rfl (ze aHx rfl ((Jm A3 A4 c3 c4 _ (HF.on E).here.1.1.1.2 (HF.on E).here.1.1.2).mono ?_));rintro e NP ⟨A5,c5,rfl,o5,q5,hb⟩;refine ⟨_,rfl,?_⟩;have XC:∀q9,(aj [(some aJ)]) q9→q9<w7.heap.size:=(aj.grow aj.none_ (zc ay.lt));have Ec:=Ext.of_below hb No;replace ay:=ay.aG Ec au.nil;replace E:=E.trans Ec.no;obtain ⟨HF,LW,E⟩:=dG HF LW E ak (Yx o5 q5 XC ((HF.on E).map fun _ h=>h.1.1.1.2));refine zr ?_;refine za rfl (kt yL ?_);intro NS w24 pK fQ Ck;have Lp:Apart (some NS) (some aJ):=Apart.of_lt (zc ay.lt) Ck;have akz:=Lp.symm;replace ay:=ay.aG fQ au.nil;obtain ⟨Ck,HF,E,ak⟩:=gI HF LW E ak fQ Ck;refine yj (qx qK rfl rfl pK rfl rfl rfl ?_);intro Hr Bx fQ;replace pK:aB Hr NS 48 #[.bool (decide (V<0)),.slice A5 (ah V).length c5]:=Bx;replace ay:=ay.aG fQ (au.cons akz au.nil);replace E:=E.step1 fQ aj.head;obtain ⟨HF,LW,ak,E⟩:=d9 HF LW E ak (Y:=aj [(some aJ)]) (aj.skip (aj.keep aj.bI)) (Per.bH pK (au.cons Lp au.nil));refine zv ?_;by_cases e0:f=0
      ·
       rw[if_pos e0] at hp;subst hp;refine zw 53 rfl (sw e0) (zo ?_);have S6:=Nat.le_trans LW.size E.size;refine vv Me (qfq _ A5 c5 V (HF.on E).here.1.2 om) HF LW E ak (fun o=>Per.bK o (aj.grow aj.none_ (zc ay.lt))) ay fun A6 c6 w26 HF LW E ay=>(yi qj ay E aj.head fun w27 ay E=>?_);refine zp ?_;exact uf
      ·
       rw[if_neg e0] at hp;subst hp;refine qm 53 rfl (sw e0) (Ya ?_);refine yi qj ay E aj.head fun w28 ay E=>?_;refine yk ?_;exact vbv
    ·
     refine zw 44 rfl (sw o7) (ja ?_);by_cases h0:J=0
     ·
      have hj0:(((ah J).length:Nat):Int)=0:=by rw[h0,bD];rfl
      rw[Ld ka kb o1 o2 o3 o7 (hJ▸h0)] at hp;subst hp;refine qm 61 rfl (by rw[hj0];rfl) (zr ?_);refine jm ?_;refine yi qj ay E aj.head fun w29 ay E=>?_;exact iD
     ·
      have hj0:(((ah J).length:Nat):Int)≠0:=by have:=Uc (j:=J) om;omega
      refine zw 61 rfl (by rw[beq_eq_false_iff_ne.2 hj0]<;>rfl) (zv ?_);by_cases o4:op=4
      ·
       rw[o4,XO ka kb (hJ▸h0)] at hp;refine qm 64 rfl (sw o4) (zo ?_);have S6:=Nat.le_trans LW.size E.size;refine vv aw7 (viz _ ua ub A1 B1 A2 B2 c1 d1 c2 d2 (HF.on E).here.1.1.1.1.1.1.1.1.1.2 hl ha ga (HF.on E).here.1.1.1.1.1.1.1.1.2 hl' hb0 gb (HF.on E).here.1.1.1.1.1.1.1.2 ⟨te,pe,(HF.on E).here.1.1.1.1.1.1.2⟩ op om om (Le ka) (Le kb) p (by rw[if_neg (show op≠7 from om),o4];exact hp)) HF LW E ak (fun o=>Per.bK o (aj.grow aj.none_ (zc ay.lt))) ay fun A6 c6 Qs HF LW E ay=>(zi ?_);refine yi qj ay E aj.head fun w31 ay E=>?_;refine zo ?_;exact uf
      ·
       refine zw 64 rfl (sw o4) ?_;obtain ⟨q,hq⟩:∃q,q=dq (decide (I<0)) (decide (J<0)) I.natAbs J.natAbs:=⟨_,rfl⟩;obtain ⟨r,hr⟩:∃r,r=dr (decide (I<0)) (decide (J<0)) I.natAbs J.natAbs:=⟨_,rfl⟩;refine zp ?_;refine za rfl (ze aW1 rfl ((hq▸hr▸EN A3 A4 c3 c4 I J _ (HF.on E).here.1.1.1.2 (HF.on E).here.1.1.2 om om h0).mono ?_));rintro e w32 ⟨A5,c5,A7,c7,rfl,o5,o7,hb⟩;refine ⟨_,rfl,?_⟩;have XC:∀q9,(aj [(some aJ)]) q9→q9<w7.heap.size:=(aj.grow aj.none_ (zc ay.lt));have Ec:=Ext.of_below hb No;replace ay:=ay.aG Ec au.nil;replace E:=E.trans Ec.no;obtain ⟨HF,LW,E⟩:=dG HF LW E ak (Per.eO o5 XC);obtain ⟨HF,LW,E⟩:=dG HF LW E ak (Per.eO o7 XC);refine zr ?_;refine za rfl (kt yL ?_);intro aEj w34 PO PS aF0;have Lr:Apart (some aEj) (some aJ):=Apart.of_lt (zc ay.lt) aF0;have akx:=Lr.symm;replace ay:=ay.aG PS au.nil;obtain ⟨aF0,HF,E,ak⟩:=gI HF LW E ak PS aF0;refine za rfl (kt yL ?_);intro akj w36 YF PU al0;have EO:Apart (some akj) (some aEj):=Apart.of_lt (zc PO.lt) al0;have YG:=EO.symm;have Ls:Apart (some akj) (some aJ):=Apart.of_lt (zc ay.lt) al0;have al1:=Ls.symm;replace PO:=PO.aG PU au.nil;replace ay:=ay.aG PU au.nil;obtain ⟨al0,HF,E,ak⟩:=gI HF LW E ak PU al0;refine yj (qx qK rfl rfl PO rfl rfl rfl ?_);intro w37 Bx PS;replace PO:aB w37 aEj 48 #[.bool (decide (q<0)),.slice A5 (ah q).length c5]:=Bx;replace YF:=YF.aG PS (au.cons EO au.nil);replace ay:=ay.aG PS (au.cons akx au.nil);replace E:=E.step1 PS (aj.tail aj.head);obtain ⟨HF,LW,ak,E⟩:=d9 HF LW E ak (Y:=aj [(some akj),(some aJ)]) (aj.keep (aj.skip (aj.keep aj.bI))) (Per.bH PO (au.cons YG (au.cons Lr au.nil)));refine yj (qx qK rfl rfl YF rfl rfl rfl ?_);intro w38 Bx PU;replace YF:aB w38 akj 48 #[.bool (decide (r<0)),.slice A7 (ah r).length c7]:=Bx;replace ay:=ay.aG PU (au.cons al1 au.nil);replace E:=E.step1 PU aj.head;obtain ⟨HF,LW,ak,E⟩:=d9 HF LW E ak (Y:=aj [(some aJ)]) (aj.skip (aj.keep aj.bI)) (Per.bH YF (au.cons Ls au.nil));refine qc ?_;by_cases o5:op=5
       ·
        refine qm 78 rfl (sw o5) ?_;have Qb:q.natAbs<av^30:=hq▸Yv Ib h0;have tq:=zrv Qb;rw[o5,Yu ka kb (hJ▸h0),←hI,←hJ,←hq] at hp;subst hp;refine ye ?_;have S6:=Nat.le_trans LW.size E.size;refine vv Me (qfq _ A5 c5 q (HF.on E).here.1.1.1.2 om) HF LW E ak (fun o=>Per.bK o (aj.grow aj.none_ (zc ay.lt))) ay fun A6 c6 w39 HF LW E ay=>(yi qj ay E aj.head fun w40 ay E=>?_);refine zo ?_;exact uf
       ·
        have o6:op=6:=om;refine zw 78 rfl (sw o5) ?_;have Qb:r.natAbs<av^30:=hr▸Yw Jb h0;have tq:=zrv Qb;rw[o6,aEq ka kb (hJ▸h0),←hI,←hJ,←hr] at hp;subst hp;refine zo ?_;have S6:=Nat.le_trans LW.size E.size;refine vv Me (qfq _ A7 c7 r (HF.on E).here.1.1.2 om) HF LW E ak (fun o=>Per.bK o (aj.grow aj.none_ (zc ay.lt))) ay fun A6 c6 w41 HF LW E ay=>(yi qj ay E aj.head fun w42 ay E=>?_);obtain ⟨HF,LW,ak,E⟩:=d9 HF LW E ak (Y:=No) (aj.skip aj.bI) (Per.bH ay au.nil);refine zn ?_;exact ⟨A6,c6,rfl,((HF.on E).here.1.2).mono S6,aP LW E ak⟩
end
theorem EP (w:World) (s:ByteArray) (A:Option Addr) (c:Nat) (n:Int) (hx:aH w A (ah n)) (htl:(ah n).length≤540) (hs:s.size≤20000) (p:PV×Int) (hp:p=fA s n):Calls prog 38 #[.string s,.agg #[.bool (decide (n<0)),.slice A (ah n).length c]] w (oz w p):=by
 refine zj func38 ntmps38 fun HF LW ak E=>?_;replace HF:=HF.and (Per.eY hx);by_cases hn:n<0
 ·
  rw[yH om] at hp;subst hp;refine zi ?_;refine zg HF LW E ak fun aO w2 HF LW E=>(yb ko HF LW E ak fun bM w4 bP sj HF E ak=>?_);refine qc ?_;refine vf 12 rfl (by rw[decide_eq_true hn]<;>rfl) (kh ?_);refine zh FV (ypx _ ⟨#[]⟩) E bP fun w5 E bP=>(yi qj bP E aj.head fun w6 bP E=>?_);exact iD
 ·
  refine zi ?_;refine zg HF LW E ak fun gb7 w8 HF LW E=>(yb ko HF LW E ak fun YD dI gH Gb9 HF E ak=>?_);refine qc ?_;refine yu 12 rfl (by rw[decide_eq_false hn]<;>rfl) (zo ?_);by_cases h0:n=0
  ·
   have e0:(((ah n).length:Nat):Int)=0:=by rw[h0,bD];rfl
   rw[yH om] at hp;subst hp;refine vf 18 rfl (by rw[e0];rfl) (yk ?_);refine zh FV (ypx _ ⟨#[]⟩) E gH fun dV E gH=>(yi qj gH E aj.head fun dB gH E=>?_);exact iD
  ·
   have e0:(((ah n).length:Nat):Int)≠0:=by have:=Uc (j:=n) om;omega
   refine yu 18 rfl (by rw[beq_eq_false_iff_ne.2 e0]<;>rfl) (zn ?_);by_cases hz:s.size=0
   ·
    rw[yH om] at hp;subst hp;refine qm 21 rfl (by rw[XQ,decide_eq_true hz]) (zr ?_);refine zh FV (ypx _ ⟨#[]⟩) E gH fun dS E gH=>(yi qj gH E aj.head fun cZ gH E=>?_);exact iD
   ·
    refine zw 21 rfl (by rw[XQ,decide_eq_false hz]) ?_;obtain ⟨m,hm⟩:=Int.eq_ofNat_of_zero_le (show 0≤n from om);have hmul:=ak8 (s:=s) hm;refine zo ?_;refine zh aI0 (mY A c n _ (HF.on E).here.1.2 om) E gH fun dQ E gH=>(ja ?_);by_cases hr:eU n
    ·
     have hsm:Zx n=((m:Nat):Int):=by unfold Zx;rw[if_pos hr,hm]
     refine yu 30 rfl (by rw[decide_eq_true hr];rfl) (zk 6 (.int .i64 ((m:Nat):Int)) rfl (by rw[hsm]<;>rfl) (ye ?_));by_cases hl:20000<m
     ·
      have hge:m≤m*s.size:=Nat.le_mul_of_pos_right m om;rw[nK om (by rw[hmul];omega)] at hp;subst hp;refine vf 34 rfl (by rw[decide_eq_true om]<;>rfl) (yv ?_);refine jm ?_;refine yi qj gH E aj.head fun w16 gH E=>?_;exact iD
     ·
      have hms:m*s.size≤20000*20000:=Nat.mul_le_mul om hs;have hmi:((m:Nat):Int)*(s.size:Int)=((m*s.size:Nat):Int):=(Int.natCast_mul ..).symm;refine yu 34 rfl (by rw[decide_eq_false om]<;>rfl) (lH ?_);refine bZ rfl (xw rfl rfl (show IntKind.i64.wrap (((m:Nat):Int)*(s.size:Int))=((m*s.size:Nat):Int) by rw[hmi];exact yt om) (ye ?_));by_cases hb2:20000<m*s.size
      ·
       rw[nK om (by rw[hmul];omega)] at hp;subst hp;refine qm 40 rfl ((by rw[decide_eq_true om]:(.bool (decide (20000<((m*s.size:Nat):Int))):Value)=_)) (zr ?_);refine jm ?_;refine yi qj gH E aj.head fun fI gH E=>?_;exact iD
      ·
       rw[aEz hm om om] at hp;subst hp;refine zw 40 rfl ((by rw[decide_eq_false om]:(.bool (decide (20000<((m*s.size:Nat):Int))):Value)=_)) (xf ?_);replace HF:=HF.on E;replace LW:=LW.step E ak;replace E:=aC (aj [(some YD)]) dQ;refine qw (ι:=Nat) (fun i=>[(0,.string s),(4,.pointer (some ⟨YD,0,none⟩)),(6,.int .i64 ((m:Nat):Int)),(8,.string ⟨(Lib.repeatL s.data.toList i).toArray⟩),(9,.int .i64 ((i:Nat):Int))]) (fun i w'=>Ext (aj [(some YD)]) dQ w'∧aB w' YD 28 (#[.int .i64 0,.bool false,.bool false,.slice none 0 0,.int .u64 0,.string ⟨#[]⟩,.slice none 0 0])∧(i≤m)) (fun i=>m-i) 0 ⟨rfl,rfl,rfl,rfl,rfl,trivial⟩ ⟨Ext.refl _ _,(by exact gH),Nat.zero_le _⟩ ?_;have bd1:=(zc gH.lt);rintro i fC ⟨eP,gH,him⟩;have dK:oK (aj [(some YD)]) (aj [(some YD)]) dQ:=(aj.grow aj.none_ (fun k e=>Or.inl (aj.head k e)));replace E:=E.trans eP;replace HF:=HF.on E;replace LW:=LW.step E ak;replace E:=aC (aj [(some YD)]) fC;clear bd1;refine yk ?_;refine zf rfl (fun hlt=>?_) (fun hlt=>?_)
       ·
        have hlt:=of_decide_eq_true hlt;have h1:=aEx s i;have h2:i*s.size≤m*s.size:=Nat.mul_le_mul_right _ him;refine zp ?_;refine za rfl (qhz rfl rfl (by rw[h1];omega) (zxv ?_));refine qf 8 (.string ⟨(Lib.repeatL s.data.toList (i+1)).toArray⟩) rfl ((by rw[Yy]:(.string (⟨(Lib.repeatL s.data.toList i).toArray⟩++s):Value)=_)) ?_;exact zx (i+1) (by show m-(i+1)<m-i;omega) ⟨rfl,rfl,rfl,rfl,rfl,trivial⟩ ⟨eP.step E dK,(by exact gH),om⟩
       ·
        have hge:=of_decide_eq_false hlt;obtain rfl:i=m:=om;refine yk ?_;refine zh FV (ypx _ ⟨(Lib.repeatL s.data.toList i).toArray⟩) E gH fun wL E gH=>(yi qj gH E aj.head fun wW gH E=>?_);obtain ⟨HF,LW,ak,E⟩:=d9 HF LW E ak (Y:=No) (aj.skip aj.bI) (Per.bH gH au.nil);refine zn ?_;exact vbv
    ·
     have hbig:9223372036854775807<m:=by unfold eU at hr;omega
     have hge:m≤m*s.size:=Nat.le_mul_of_pos_right m om;rw[nK om (by rw[hmul];omega)] at hp;subst hp;refine vf 30 rfl (by rw[decide_eq_false hr];rfl) (xf ?_);refine jm ?_;refine yi qj gH E aj.head fun NP gH E=>?_;exact iD
theorem nM {P Q:Prop} (k:Q) (h:(Unit→Q)→P:=by
 intro zK;refine yu 72 rfl (sw o3) (ou ?_);refine yu 91 rfl (sw o3) ?_;exact zK ()):P:=h fun _=>k
theorem ER {P Q:Prop} (k:Q) (h:(Unit→Q)→P:=by
 intro zK;refine vf 72 rfl (sw o3) (zn ?_);refine yu 77 rfl (by rw[beq_eq_false_iff_ne.2 (show ua.k≠4 from om)]<;>rfl) (vp ?_);refine vf 91 rfl (sw o3) (zn ?_);exact zK ()):P:=h fun _=>k
theorem ES {P Q:Prop} (k:Q) (h:(Unit→Q)→P:=by
 intro zK;refine vf 44 rfl (sw o1) (zn ?_);refine yu 49 rfl (by rw[beq_eq_false_iff_ne.2 (show ua.k≠4 from om)]<;>rfl) (ja ?_);refine yu 72 rfl (sw o1) (ou ?_);refine yu 91 rfl (sw o1) ?_;exact zK ()):P:=h fun _=>k
theorem nN {P Q:Prop} (k:Q) (h:(Unit→Q)→P:=by
 intro zK;refine qc ?_;refine yu 10 rfl (by rw[decide_eq_false om]<;>rfl) (zn ?_);refine zw 13 rfl (by rw[decide_eq_false om]<;>rfl) (yk ?_);exact zK ()):P:=h fun _=>k
theorem YH {P:Prop} (h:P:=by
 refine vi (τ:=[(6,_),(7,.int .i64 p.2)]) ⟨rfl,congrArg some e8,trivial⟩ ?_;exact auz):P:=h
theorem YI (w:World) (ua:PV) (A1 B1:Option Addr) (c1 d1:Nat) (c:Bool) (hc:isC ua=c):Calls prog 34 #[bG ua A1 c1 B1 d1] w (aF w (.bool c)):=by
 subst hc;refine zj func34 ntmps34 fun HF LW ak E=>?_;refine zi ?_;refine zg HF LW E ak fun aO w2 HF LW E=>?_;refine qc ?_;by_cases h1:ua.k=1
 ·
  refine vf 6 rfl (sw h1) (qc ?_);exact ⟨by unfold isC;rw[decide_eq_true h1];rfl,aP LW E ak⟩
 ·
  refine yu 6 rfl (sw h1) (qc ?_);exact ⟨by unfold isC;rw[decide_eq_false h1];rfl,aP LW E ak⟩
section
variable (w:World) (ua ub:PV) (A1 B1 A2 B2:Option Addr) (c1 d1 c2 d2:Nat) (hx:aA w A1 ua.xs) (hl:ua.xs.length≤9223372036854775807) (ha:ua.bits<18446744073709551616) (ga:ua.good=true) (hy:aA w A2 ub.xs) (hl':ub.xs.length≤9223372036854775807) (hb0:ub.bits<18446744073709551616) (gb:ub.good=true)
variable {bp op cp bf of cf bl ol cl:Nat} (aV:bV bp op cp bf of cf bl ol cl w) (hE:∃te pe,w.cell? ⟨4,0,none⟩=some (.iface te pe))
include hx hl ha ga hy hl' hb0 gb aV hE
theorem aF1 (op:Int) (p:PV×Int) (hp:p=gP op ua ub) (ho:op<1∨7<op):Calls prog 10 #[.int .i64 op,bG ua A1 c1 B1 d1,bG ub A2 c2 B2 d2] w (oz w p):=by
 have _:=hx;have _:=hl;have _:=ha;have _:=ga;have _:=hy;have _:=hl';have _:=hb0;have _:=gb;have _:=aV;obtain ⟨te,pe,hE⟩:=hE;rw[XP ga gb ho] at hp;subst hp;refine zd func10 rfl ntmps10 rfl ?_;have LW:=aC (No) w;have ak:=aN (No) w;have E:=aC (No) w;replace LW:=LW.step E ak;replace E:=aC (No) w;replace LW:=LW.step E ak;replace E:=aC (No) w;replace LW:=LW.step E ak;replace E:=aC (No) w;replace LW:=LW.step E ak;replace E:=aC (No) w;refine od ?_;intro aO w2 aT Uy yQ;have yQ:_≤aO:=Nat.le_trans E.size yQ;have aP9:=Nat.le_trans LW.size yQ;replace E:=E.trans Uy.no;replace E:=E.cons (some aO);replace ak:=aj.grow ak (fun k e=>Or.inr (Nat.le_trans LW.size ((gu yQ) k e)));replace LW:=LW.step E ak;have SB:∀q9,No q9→aj [(some aO)] q9:=(aj.skip aj.bI);replace ak:=fun k h=>ak k (SB k h);clear SB;replace E:=aC (No) w2;refine za rfl (yqx rfl ?_);intro bM w4 bP Eb3 sj;have sj:_≤bM:=Nat.le_trans E.size sj;have bb8:=Nat.le_trans LW.size sj;replace E:=E.trans Eb3.no;replace E:=E.cons (some bM);replace ak:=aj.grow ak (fun k e=>Or.inr (Nat.le_trans LW.size ((gu sj) k e)));replace LW:=LW.step E ak;have SB:∀q9,No q9→aj [(some bM)] q9:=(aj.skip aj.bI);replace ak:=fun k h=>ak k (SB k h);clear SB;replace E:=aC (No) w4;refine zkk ?_;intro aJ w6 ay dw dJ;have dJ:_≤aJ:=Nat.le_trans E.size dJ;have bb9:=Nat.le_trans LW.size dJ;replace E:=E.trans dw.no;replace E:=E.cons (some aJ);replace ak:=aj.grow ak (fun k e=>Or.inr (Nat.le_trans LW.size ((gu dJ) k e)));refine qc ?_;by_cases h1:op<1
 ·
  refine vf 10 rfl (by rw[decide_eq_true h1]<;>rfl) (yk ?_);exact auq
 ·
  refine yu 10 rfl (by rw[decide_eq_false h1]<;>rfl) (zn ?_);refine qm 13 rfl (by rw[decide_eq_true om]<;>rfl) (zr ?_);exact at6
theorem aF2 (op:Int) (p:PV×Int) (hp:p=gP op ua ub) (h1:1≤op) (h7:op≤7) (ka:ua.k=1∨ua.k=2):Calls prog 10 #[.int .i64 op,bG ua A1 c1 B1 d1,bG ub A2 c2 B2 d2] w (oz w p):=by
 have _:=hx;have _:=hl;have _:=ha;have _:=ga;have _:=hy;have _:=hl';have _:=hb0;have _:=gb;have _:=aV;obtain ⟨te,pe,hE⟩:=hE;refine zj func10 ntmps10 fun HF LW ak E=>?_;replace HF:=HF.and (Per.aD hx);replace HF:=HF.and (Per.aD hy);replace HF:=HF.and (Per.tabs aV (fun _ h=>h.elim));replace HF:=HF.and (Per.bY hE (fun _ h=>h.elim));refine zi ?_;refine zg HF LW E ak fun aO w2 HF LW E=>(zg HF LW E ak fun bM w4 HF LW E=>(yb ko HF LW E ak fun aJ w6 ay dJ HF E ak=>?_));refine nN ?_;refine zh jG (YI _ ua A1 B1 c1 d1 true (Lg ka)) E ay fun w7 E ay=>?_;by_cases kb:ub.k=1∨ub.k=2
 ·
  refine zi ?_;refine zh jG (YI _ ub A2 B2 c2 d2 true (Lg kb)) E ay fun w8 E ay=>(zv ?_);have S6:=Nat.le_trans LW.size E.size;refine vv aV6 (PN _ ua ub A1 B1 A2 B2 c1 d1 c2 d2 (HF.on E).here.1.1.1.1.1.2 hl ha ga (HF.on E).here.1.1.1.1.2 hl' hb0 gb (HF.on E).here.1.1.1.2 ⟨te,pe,(HF.on E).here.1.1.2⟩ op h1 h7 ka kb p (hp.trans (yC ga gb ⟨h1,h7⟩ om om))) HF LW E ak (fun o=>Per.bK o (aj.grow aj.none_ (zc ay.lt))) ay fun A6 c6 w9 HF LW E ay=>(zi ?_);refine yjx ?_;intro dI Bx dw;replace ay:aB dI aJ 28 #[.int .i64 p.1.k,.bool p.1.yes,.bool p.1.neg,.slice A6 p.1.xs.length c6,.int .u64 (p.1.bits:Int),.string p.1.s,.slice none 0 0]:=Bx;exact Jt
 ·
  refine zi ?_;refine zh jG (YI _ ub A2 B2 c2 d2 false (nD kb)) E ay fun dV E ay=>(yk ?_);refine zh FX (qoz _ ua A1 B1 c1 d1 true (Lf om)) E ay fun dB E ay=>?_;by_cases b3:ub.k=3
  ·
   refine zi ?_;refine zh FX (qoz _ ub A2 B2 c2 d2 true (Lf om)) E ay fun dS E ay=>(zv ?_);have S6:=Nat.le_trans LW.size E.size;refine vv aw7 (viz _ ua ub A1 B1 A2 B2 c1 d1 c2 d2 (HF.on E).here.1.1.1.1.1.2 hl ha ga (HF.on E).here.1.1.1.1.2 hl' hb0 gb (HF.on E).here.1.1.1.2 ⟨te,pe,(HF.on E).here.1.1.2⟩ op h1 h7 (Lf om) (Lf om) p (hp.trans ((yC ga gb ⟨h1,h7⟩ om om).trans (Ji om)))) HF LW E ak (fun o=>Per.bK o (aj.grow aj.none_ (zc ay.lt))) ay fun A6 c6 cZ HF LW E ay=>(zi ?_);refine yjx ?_;intro dQ Bx dw;replace ay:aB dQ aJ 28 #[.int .i64 p.1.k,.bool p.1.yes,.bool p.1.neg,.slice A6 p.1.xs.length c6,.int .u64 (p.1.bits:Int),.string p.1.s,.slice none 0 0]:=Bx;exact Jt
  ·
   refine zi ?_;refine zh FX (qoz _ ub A2 B2 c2 d2 false (qpq om)) E ay fun w16 E ay=>(zv ?_);by_cases o1:op=1
   ·
    refine ES ?_;rw[kc ga gb ⟨h1,h7⟩ om,if_neg om,if_neg om,if_neg om] at hp;subst hp;refine ou ?_;refine jm ?_;refine yjx ?_;intro fI Bx dw;replace ay:aB fI aJ 28 #[.int .i64 0,.bool false,.bool false,.slice none 0 0,.int .u64 0,.string ⟨#[]⟩,.slice none 0 0]:=Bx;replace E:=E.step1 dw aj.head;exact oG
   ·
    refine yu 44 rfl (sw o1) (yN ?_);by_cases o3:op=3
    ·
     refine ER ?_;by_cases b4:ub.k=4
     ·
      refine vf 96 rfl (sw b4) (aK ?_);refine zh jG (YI _ ua A1 B1 c1 d1 true (Lg ka)) E ay fun rT E ay=>?_;rw[kc ga gb ⟨h1,h7⟩ om,if_neg om,if_neg om,if_pos om] at hp;have zs:=PV.dX gb b4;obtain ⟨J,hJ⟩:∃J,J=vb ua:=⟨_,rfl⟩;have Jb:J.natAbs<av^30:=hJ▸Qu ga ka;have tj:=zrv Jb;rw[←hJ] at hp;refine zo ?_;have GL:=((LW.step E ak).toBelow).size;have OY:∀q9,(aj (kf [⟨7,aJ,28,#[.int .i64 0,.bool false,.bool false,.slice none 0 0,.int .u64 0,.string ⟨#[]⟩,.slice none 0 0]⟩])) q9→q9<(World.drew rT).heap.size→(aj [(some aJ)]) q9:=fun k h _=>((aj.grow aj.none_ aj.head)) k h;refine yq (aj [(some aJ)]) (aj.grow aj.none_ (zc ay.lt)) [] [⟨7,aJ,28,#[.int .i64 0,.bool false,.bool false,.slice none 0 0,.int .u64 0,.string ⟨#[]⟩,.slice none 0 0]⟩] (xc [Fx.of (.pointer (some ⟨bM,5,none⟩)),
       Fx.of (.string ub.s),
       Fx.of (bG ua A1 c1 B1 d1),
       ⟨(Option Addr×Nat),fun (A3,c3)=>.agg #[.bool (decide (J<0)),.slice A3 (ah J).length c3],fun (A3,c3) b=>(aH b A3 (ah J))⟩,
       ⟨(Option Addr×Nat),fun (A6,c6)=>.tuple #[.agg #[.int .i64 p.1.k,.bool p.1.yes,.bool p.1.neg,.slice A6 p.1.xs.length c6,.int .u64 (p.1.bits:Int),.string p.1.s,.slice none 0 0],.int .i64 p.2],fun (A6,c6) b=>(Own b w.heap.size A6 c6 p.1.xs)⟩,
       ⟨(Option Addr×Nat),fun (A6,c6)=>.agg #[.int .i64 p.1.k,.bool p.1.yes,.bool p.1.neg,.slice A6 p.1.xs.length c6,.int .u64 (p.1.bits:Int),.string p.1.s,.slice none 0 0],fun (A6,c6) b=>(Own b w.heap.size A6 c6 p.1.xs)⟩,
       Fx.of (.int .i64 p.2),
       Fx.of undef,
       Fx.of (.int .i64 p.2)]) mixed rfl ⟨⟨aj.head _ rfl,ay,fun _ h=>by cases h⟩,trivial⟩ (by intro o ho;simp at ho;rcases ho with rfl<;>simp) ?_ ?_
      · refine ⟨arm,arm,arm,?_,?_,?_,?_,?_,arm,trivial⟩
        · refine yx ?_;intro vs X wq K;have LE:=K.1;have XN:=K.2.1;refine ze Rm rfl ((yyv _ ua A1 B1 c1 d1 (HF.on (E.drew.trans (LE.mono OY))).here.1.1.1.1.1.2 ga J hJ ka).mono ?_);exact Jv
        · refine yx ?_;intro vs X wq K;have LE:=K.1;have XN:=K.2.1;obtain ⟨⟨A3,c3⟩,e3,k3⟩:=K.dep 3 rfl rfl rfl;refine qq 103 _ rfl e3 (ze aH0 rfl ((EP _ ub.s A3 c3 J (k3.here) tj zs p hp).mono ?_));exact YC
        · intro vs X wq K;obtain ⟨⟨A6,c6⟩,e4,k4⟩:=K.dep 4 rfl rfl rfl;refine qq 104 _ rfl e4 ?_;exact Ju
        · intro vs X wq K;obtain ⟨⟨A6,c6⟩,e4,k4⟩:=K.dep 4 rfl rfl rfl;refine qq 104 _ rfl e4 ?_;exact kY
        · refine ⟨_,_,_,_,_,rfl,rfl,qj,fun vs X wq K=>⟨rfl,?_⟩⟩;exact YB
      intro vs fC LE AO AL AF AA;have dx:=ay;replace E:=E.drew.trans (LE.mono OY);obtain ⟨⟨A6,c6⟩,e5,k5⟩:=AL.2.2.2.2.2.1;obtain ⟨_,e8,k8⟩:=AL.2.2.2.2.2.2.2.2.1;obtain ⟨v0,y0,Bx,ey,dR⟩:=AO.1;cases ey
      obtain rfl:vs 5=v0:=Option.some.inj dR;rw[e5] at Bx;replace ay:aB fC aJ 28 #[.int .i64 p.1.k,.bool p.1.yes,.bool p.1.neg,.slice A6 p.1.xs.length c6,.int .u64 (p.1.bits:Int),.string p.1.s,.slice none 0 0]:=Bx;obtain ⟨HF,LW,E⟩:=dG HF LW E ak ((k5.map (fun _ h=>h):Per (aj [(some aJ)]) fC (fun b=>Own b w.heap.size A6 c6 p.1.xs)));exact YH
     ·
      refine yu 96 rfl (sw b4) ?_;rw[kc ga gb ⟨h1,h7⟩ om,if_neg om,if_neg om,if_neg om] at hp;subst hp;refine vp ?_;exact at7
    ·
     refine nM ?_;rw[kc ga gb ⟨h1,h7⟩ om,if_neg om,if_neg om,if_neg om] at hp;subst hp;refine ou ?_;exact Yf
theorem aF3 (op:Int) (p:PV×Int) (hp:p=gP op ua ub) (h1:1≤op) (h7:op≤7) (ka:¬(ua.k=1∨ua.k=2)) (a3:ua.k=3):Calls prog 10 #[.int .i64 op,bG ua A1 c1 B1 d1,bG ub A2 c2 B2 d2] w (oz w p):=by
 have _:=hx;have _:=hl;have _:=ha;have _:=ga;have _:=hy;have _:=hl';have _:=hb0;have _:=gb;have _:=aV;obtain ⟨te,pe,hE⟩:=hE;refine zj func10 ntmps10 fun HF LW ak E=>?_;replace HF:=HF.and (Per.aD hx);replace HF:=HF.and (Per.aD hy);replace HF:=HF.and (Per.tabs aV (fun _ h=>h.elim));replace HF:=HF.and (Per.bY hE (fun _ h=>h.elim));refine zi ?_;refine zg HF LW E ak fun aO w2 HF LW E=>(zg HF LW E ak fun bM w4 HF LW E=>(yb ko HF LW E ak fun aJ w6 ay dJ HF E ak=>?_));refine nN ?_;refine zh jG (YI _ ua A1 B1 c1 d1 false (nD ka)) E ay fun w7 E ay=>(yv ?_);refine zh FX (qoz _ ua A1 B1 c1 d1 true (Lf om)) E ay fun w8 E ay=>?_;by_cases nb:1≤ub.k∧ub.k≤3
 ·
  refine zi ?_;refine zh FX (qoz _ ub A2 B2 c2 d2 true (Lf nb)) E ay fun w9 E ay=>(zv ?_);have S6:=Nat.le_trans LW.size E.size;refine vv aw7 (viz _ ua ub A1 B1 A2 B2 c1 d1 c2 d2 (HF.on E).here.1.1.1.1.1.2 hl ha ga (HF.on E).here.1.1.1.1.2 hl' hb0 gb (HF.on E).here.1.1.1.2 ⟨te,pe,(HF.on E).here.1.1.2⟩ op h1 h7 (Lf om) (Lf om) p (hp.trans ((yC ga gb ⟨h1,h7⟩ om om).trans (Ji om)))) HF LW E ak (fun o=>Per.bK o (aj.grow aj.none_ (zc ay.lt))) ay fun A6 c6 dI HF LW E ay=>(zi ?_);refine yi qj ay E aj.head fun dV ay E=>?_;refine zp ?_;exact uf
 ·
  refine zi ?_;refine zh FX (qoz _ ub A2 B2 c2 d2 false (qpq nb)) E ay fun dB E ay=>(zv ?_);by_cases o1:op=1
  ·
   refine ES ?_;rw[kc ga gb ⟨h1,h7⟩ om,if_neg om,if_neg om,if_neg om] at hp;subst hp;refine ou ?_;exact atq
  ·
   refine yu 44 rfl (sw o1) (yN ?_);by_cases o3:op=3
   ·
    refine ER ?_;by_cases b4:ub.k=4
    ·
     refine vf 96 rfl (sw b4) (aK ?_);refine zh jG (YI _ ua A1 B1 c1 d1 false (nD ka)) E ay fun cZ E ay=>?_;rw[kc ga gb ⟨h1,h7⟩ om,if_neg om,if_neg om,if_neg om] at hp;subst hp;refine zv ?_;refine jm ?_;refine yi qj ay E aj.head fun dQ ay E=>?_;exact oG
    ·
     refine yu 96 rfl (sw b4) ?_;rw[kc ga gb ⟨h1,h7⟩ om,if_neg om,if_neg om,if_neg om] at hp;subst hp;refine vp ?_;refine jm ?_;refine yi qj ay E aj.head fun w16 ay E=>?_;exact oG
   ·
    refine nM ?_;rw[kc ga gb ⟨h1,h7⟩ om,if_neg om,if_neg om,if_neg om] at hp;subst hp;refine ou ?_;exact at1
theorem aF4 (op:Int) (p:PV×Int) (hp:p=gP op ua ub) (h1:1≤op) (h7:op≤7) (ka:¬(ua.k=1∨ua.k=2)) (a3:ua.k≠3):Calls prog 10 #[.int .i64 op,bG ua A1 c1 B1 d1,bG ub A2 c2 B2 d2] w (oz w p):=by
 have _:=hx;have _:=hl;have _:=ha;have _:=ga;have _:=hy;have _:=hl';have _:=hb0;have _:=gb;have _:=aV;obtain ⟨te,pe,hE⟩:=hE;refine zj func10 ntmps10 fun HF LW ak E=>?_;replace HF:=HF.and (Per.aD hx);replace HF:=HF.and (Per.aD hy);replace HF:=HF.and (Per.tabs aV (fun _ h=>h.elim));replace HF:=HF.and (Per.bY hE (fun _ h=>h.elim));refine zi ?_;refine zg HF LW E ak fun aO w2 HF LW E=>(zg HF LW E ak fun bM w4 HF LW E=>(yb ko HF LW E ak fun aJ w6 ay dJ HF E ak=>?_));refine nN ?_;refine zh jG (YI _ ua A1 B1 c1 d1 false (nD ka)) E ay fun w7 E ay=>(yv ?_);refine zh FX (qoz _ ua A1 B1 c1 d1 false (qpq om)) E ay fun w8 E ay=>(ja ?_);by_cases o1:op=1
 ·
  refine vf 44 rfl (sw o1) (zn ?_);by_cases a4:ua.k=4
  ·
   refine vf 49 rfl (sw a4) (zp ?_);by_cases b4:ub.k=4
   ·
    refine qm 41 rfl (sw b4) ?_;have z1:=PV.dX ga a4;have z2:=PV.dX gb b4;refine zo ?_;refine vm ?_;refine zi ?_;refine vm ?_;refine yw ?_;refine zr ?_;by_cases hc:20000<ua.s.size+ub.s.size
    ·
     rw[kc ga gb ⟨h1,h7⟩ om,if_pos om,if_pos hc] at hp;subst hp;refine qm 61 rfl (by rw[decide_eq_true om]) (zr ?_);refine jm ?_;refine yi qj ay E aj.head fun w9 ay E=>?_;refine yk ?_;exact vbv
    ·
     rw[kc ga gb ⟨h1,h7⟩ om,if_pos om,if_neg hc] at hp;subst hp;refine zw 61 rfl (by rw[decide_eq_false om]) (qc ?_);refine za rfl (qhz rfl rfl om (zh FV (ypx _ (ua.s++ub.s)) E ay fun dI E ay=>(yi qj ay E aj.head fun dV ay E=>?_)));refine zp ?_;exact vbv
   ·
    refine zw 41 rfl (sw b4) (zo ?_);refine yu 72 rfl (sw o1) (ou ?_);refine yu 91 rfl (sw o1) ?_;rw[kc ga gb ⟨h1,h7⟩ om,if_neg om,if_neg om,if_neg om] at hp;subst hp;refine ou ?_;refine jm ?_;refine yi qj ay E aj.head fun dB ay E=>?_;exact oG
  ·
   refine yu 49 rfl (sw a4) (ja ?_);refine yu 72 rfl (sw o1) (ou ?_);refine yu 91 rfl (sw o1) ?_;rw[kc ga gb ⟨h1,h7⟩ om,if_neg om,if_neg om,if_neg om] at hp;subst hp;refine ou ?_;refine jm ?_;refine yjx ?_;intro dS Bx dw;replace ay:aB dS aJ 28 #[.int .i64 0,.bool false,.bool false,.slice none 0 0,.int .u64 0,.string ⟨#[]⟩,.slice none 0 0]:=Bx;replace E:=E.step1 dw aj.head;exact oG
 ·
  refine yu 44 rfl (sw o1) (yN ?_);by_cases o3:op=3
  ·
   refine vf 72 rfl (sw o3) (zn ?_);by_cases a4:ua.k=4
   ·
    refine vf 77 rfl (sw a4) ?_;by_cases cb:ub.k=1∨ub.k=2
    ·
     refine aK ?_;refine zh jG (YI _ ub A2 B2 c2 d2 true (Lg cb)) E ay fun cZ E ay=>?_;rw[kc ga gb ⟨h1,h7⟩ om,if_neg om,if_pos om] at hp;have zs:=PV.dX ga a4;obtain ⟨J,hJ⟩:∃J,J=vb ub:=⟨_,rfl⟩;have Jb:J.natAbs<av^30:=hJ▸Qu gb cb;have tj:=zrv Jb;rw[←hJ] at hp;refine zo ?_;have GL:=((LW.step E ak).toBelow).size;have OY:∀q9,(aj (kf [⟨7,aJ,28,#[.int .i64 0,.bool false,.bool false,.slice none 0 0,.int .u64 0,.string ⟨#[]⟩,.slice none 0 0]⟩])) q9→q9<(World.drew cZ).heap.size→(aj [(some aJ)]) q9:=fun k h _=>((aj.grow aj.none_ aj.head)) k h;refine yq (aj [(some aJ)]) (aj.grow aj.none_ (zc ay.lt)) [] [⟨7,aJ,28,#[.int .i64 0,.bool false,.bool false,.slice none 0 0,.int .u64 0,.string ⟨#[]⟩,.slice none 0 0]⟩] (xc [Fx.of (.pointer (some ⟨aO,5,none⟩)),
      Fx.of (.string ua.s),
      Fx.of (bG ub A2 c2 B2 d2),
      ⟨(Option Addr×Nat),fun (A3,c3)=>.agg #[.bool (decide (J<0)),.slice A3 (ah J).length c3],fun (A3,c3) b=>(aH b A3 (ah J))⟩,
      ⟨(Option Addr×Nat),fun (A6,c6)=>.tuple #[.agg #[.int .i64 p.1.k,.bool p.1.yes,.bool p.1.neg,.slice A6 p.1.xs.length c6,.int .u64 (p.1.bits:Int),.string p.1.s,.slice none 0 0],.int .i64 p.2],fun (A6,c6) b=>(Own b w.heap.size A6 c6 p.1.xs)⟩,
      ⟨(Option Addr×Nat),fun (A6,c6)=>.agg #[.int .i64 p.1.k,.bool p.1.yes,.bool p.1.neg,.slice A6 p.1.xs.length c6,.int .u64 (p.1.bits:Int),.string p.1.s,.slice none 0 0],fun (A6,c6) b=>(Own b w.heap.size A6 c6 p.1.xs)⟩,
      Fx.of (.int .i64 p.2),
      Fx.of undef,
      Fx.of (.int .i64 p.2)]) mixed rfl ⟨⟨aj.head _ rfl,ay,fun _ h=>by cases h⟩,trivial⟩ (by intro o ho;simp at ho;rcases ho with rfl<;>simp) ?_ ?_
     · refine ⟨arm,arm,arm,?_,?_,?_,?_,?_,arm,trivial⟩
       · refine yx ?_;intro vs X wq K;have LE:=K.1;have XN:=K.2.1;refine ze Rm rfl ((yyv _ ub A2 B2 c2 d2 (HF.on (E.drew.trans (LE.mono OY))).here.1.1.1.1.2 gb J hJ cb).mono ?_);exact Jv
       · refine yx ?_;intro vs X wq K;have LE:=K.1;have XN:=K.2.1;obtain ⟨⟨A3,c3⟩,e3,k3⟩:=K.dep 3 rfl rfl rfl;refine qq 84 _ rfl e3 (ze aH0 rfl ((EP _ ua.s A3 c3 J (k3.here) tj zs p hp).mono ?_));exact YC
       · intro vs X wq K;obtain ⟨⟨A6,c6⟩,e4,k4⟩:=K.dep 4 rfl rfl rfl;refine qq 85 _ rfl e4 ?_;exact Ju
       · intro vs X wq K;obtain ⟨⟨A6,c6⟩,e4,k4⟩:=K.dep 4 rfl rfl rfl;refine qq 85 _ rfl e4 ?_;exact kY
       · refine ⟨_,_,_,_,_,rfl,rfl,qj,fun vs X wq K=>⟨rfl,?_⟩⟩;exact YB
     intro vs dQ LE AO AL AF AA;have dx:=ay;replace E:=E.drew.trans (LE.mono OY);obtain ⟨⟨A6,c6⟩,e5,k5⟩:=AL.2.2.2.2.2.1;obtain ⟨_,e8,k8⟩:=AL.2.2.2.2.2.2.2.2.1;obtain ⟨v0,y0,Bx,ey,dR⟩:=AO.1;cases ey
     obtain rfl:vs 5=v0:=Option.some.inj dR;rw[e5] at Bx;replace ay:aB dQ aJ 28 #[.int .i64 p.1.k,.bool p.1.yes,.bool p.1.neg,.slice A6 p.1.xs.length c6,.int .u64 (p.1.bits:Int),.string p.1.s,.slice none 0 0]:=Bx;obtain ⟨HF,LW,E⟩:=dG HF LW E ak ((k5.map (fun _ h=>h):Per (aj [(some aJ)]) dQ (fun b=>Own b w.heap.size A6 c6 p.1.xs)));exact YH
    ·
     refine aK ?_;refine zh jG (YI _ ub A2 B2 c2 d2 false (nD cb)) E ay fun w16 E ay=>(zv ?_);refine vf 91 rfl (sw o3) (zn ?_);by_cases b4:ub.k=4
     ·
      refine vf 96 rfl (sw b4) (aK ?_);refine zh jG (YI _ ua A1 B1 c1 d1 false (nD om)) E ay fun fI E ay=>?_;rw[kc ga gb ⟨h1,h7⟩ om,if_neg om,if_neg om,if_neg om] at hp;subst hp;refine zv ?_;exact at5
     ·
      refine yu 96 rfl (sw b4) ?_;rw[kc ga gb ⟨h1,h7⟩ om,if_neg om,if_neg om,if_neg om] at hp;subst hp;refine vp ?_;exact Yg
   ·
    refine yu 77 rfl (sw a4) (vp ?_);refine vf 91 rfl (sw o3) (zn ?_);by_cases b4:ub.k=4
    ·
     refine vf 96 rfl (sw b4) (aK ?_);refine zh jG (YI _ ua A1 B1 c1 d1 false (nD om)) E ay fun wL E ay=>?_;rw[kc ga gb ⟨h1,h7⟩ om,if_neg om,if_neg om,if_neg om] at hp;subst hp;refine zv ?_;exact Yf
    ·
     refine yu 96 rfl (sw b4) ?_;rw[kc ga gb ⟨h1,h7⟩ om,if_neg om,if_neg om,if_neg om] at hp;subst hp;refine vp ?_;refine jm ?_;refine yi qj ay E aj.head fun NP ay E=>?_;exact oG
  ·
   refine nM ?_;rw[kc ga gb ⟨h1,h7⟩ om,if_neg om,if_neg om,if_neg om] at hp;subst hp;refine ou ?_;refine jm ?_;refine yi qj ay E aj.head fun wN ay E=>?_;exact oG
theorem aF5 (op:Int) (p:PV×Int) (hp:p=gP op ua ub):Calls prog 10 #[.int .i64 op,bG ua A1 c1 B1 d1,bG ub A2 c2 B2 d2] w (oz w p):=by
 by_cases ho:op<1∨7<op
 · exact aF1 w ua ub A1 B1 A2 B2 c1 d1 c2 d2 hx hl ha ga hy hl' hb0 gb aV hE op p hp ho
 by_cases ka:ua.k=1∨ua.k=2
 · exact aF2 w ua ub A1 B1 A2 B2 c1 d1 c2 d2 hx hl ha ga hy hl' hb0 gb aV hE op p hp om om ka
 by_cases a3:ua.k=3
 · exact aF3 w ua ub A1 B1 A2 B2 c1 d1 c2 d2 hx hl ha ga hy hl' hb0 gb aV hE op p hp om om ka a3
 · exact aF4 w ua ub A1 B1 A2 B2 c1 d1 c2 d2 hx hl ha ga hy hl' hb0 gb aV hE op p hp om om ka a3
end
end
noncomputable def qI (i j:Int):Int:=dq (decide (i<0)) (decide (j<0)) i.natAbs j.natAbs
noncomputable def rI (i j:Int):Int:=dr (decide (i<0)) (decide (j<0)) i.natAbs j.natAbs
theorem Lu (op:Int) (x y:Nat×Int):(ZA op x y).1.xs.length≤1048576:=by
 unfold ZA;repeat' split
 all_goals exact Nat.zero_le _
theorem aF6 (op:Int) {i j:Int} (hi:i.natAbs<av^30) (hj:j.natAbs<av^30):(gD op i j).1.natAbs<av^30:=by
 have z:(0:Int).natAbs<av^30:=Nat.pow_pos (by unfold av;omega);unfold gD;split
 · exact qzx
 split
 · exact qzx
 split
 · exact qzx
 split
 · split
   · exact z
   · exact qzx
 split
 · exact z
 · rename_i h
   split
   · exact Yv hi h
   · exact Yw hj h
theorem al2 (op:Int) {a b:PV} (ga:a.good=true) (gb:b.good=true) (na:og a.k=true) (nb:og b.k=true):(pW op a b).1.xs.length≤1048576:=by
 have h1:=qhq na;have h2:=qhq nb;unfold pW;split
 · split
   · exact Nat.zero_le _
   · exact Lu _ _ _
 · rename_i hf
   split
   · split
     · exact aD1 (aF6 op (Qu ga om) (Qu gb om))
     · exact Nat.zero_le _
   split
   · exact Nat.zero_le _
   · exact Lu _ _ _
theorem Lv (op:Int) (a b:PV):(gP op a b).1.xs.length≤1048576:=by
 unfold gP;split
 · rename_i hg
   rw[Bool.and_eq_true] at hg;split
   · exact Nat.zero_le _
   split
   · rename_i hn
     rw[Bool.and_eq_true] at hn;exact al2 op hg.1 hg.2 hn.1 hn.2
   split
   · split<;>exact Nat.zero_le _
   split
   · unfold fA;repeat' split
     all_goals exact Nat.zero_le _
   split
   · unfold fA;repeat' split
     all_goals exact Nat.zero_le _
   · exact Nat.zero_le _
 · exact Nat.zero_le _
theorem Lx {op:Int} {a b:PV} (h:(a.good&&b.good)=false):gP op a b=(vZ,3):=by
 unfold gP;rw[h,if_neg de]
section
attribute [local irreducible] OW RS CW EW
section
variable (w:World) (ua ub:PV) (A1 B1 A2 B2:Option Addr) (c1 d1 c2 d2:Nat) (hx:aA w A1 ua.xs) (hl:ua.xs.length≤9223372036854775807) (ha:ua.bits<18446744073709551616) (hy:aA w A2 ub.xs) (hl':ub.xs.length≤9223372036854775807) (hb0:ub.bits<18446744073709551616)
variable {bp op cp bf of cf bl ol cl:Nat} (hD:∀b,Below w.heap.size w b→iC b) (aV:bV bp op cp bf of cf bl ol cl w) (hE:∃te pe,w.cell? ⟨4,0,none⟩=some (.iface te pe))
include hx hl ha hy hl' hb0 hD aV hE
theorem YL (op:Int) (hg:(ua.good&&ub.good)=false):Calls prog 3 #[.int .i64 op,bG ua A1 c1 B1 d1,bG ub A2 c2 B2 d2] w (aF w (.bool true)):=by
 obtain ⟨te,pe,hE⟩:=hE;have pl:=Lv op ua ub;obtain ⟨p,hp⟩:∃p,p=gP op ua ub:=⟨_,rfl⟩;rw[←hp] at pl;rw[Lx hg] at hp;subst hp;refine zj func3 ntmps3 fun HF LW ak E=>?_;replace HF:=HF.and (Per.aD hx);replace HF:=HF.and (Per.aD hy);replace HF:=HF.and (Per.tabs aV (fun _ h=>h.elim));replace HF:=HF.and (Per.bY hE (fun _ h=>h.elim));refine zi ?_;refine zg HF LW E ak fun aO w2 HF LW E=>(zg HF LW E ak fun bM w4 HF LW E=>?_);refine zo ?_;refine zb en6 (CQ _) E fun w5 E=>(yv ?_);refine zzz en7 (Yh _ ua ub A1 B1 A2 B2 c1 d1 c2 d2 (HF.on E).here.1.1.1.1.1.2 hl ha (HF.on E).here.1.1.1.1.2 hl' hb0 (later hD (LW.step E ak).toBelow) (HF.on E).here.1.1.1.2 ⟨te,pe,(HF.on E).here.1.1.2⟩ op (whA op) (fun _=>flA op) (vZ,3) (Lx hg).symm) HF LW E ak (fun o=>Per.bK o aj.none_) fun A3 q3 w6 HF LW E=>(zr ?_);refine vE ko qj HF LW E ak fun gb7 w9 HF LW ak E=>?_;refine yk ?_;refine zb en8 (LA _ ua ub A1 B1 A2 B2 c1 d1 c2 d2 (HF.on E).here.1.1.1.1.1.1.1.2 hl (HF.on E).here.1.1.1.1.1.1.2 hl' false hg) E fun dI E=>(yk ?_);refine jm ?_;refine zb en9 (Yn _ vZ A3 none q3 0 ((HF.on E).here.1.2).nums ykk de 3) E fun dV E=>?_;exact qdq
theorem al3 (op:Int) (hg:(ua.good&&ub.good)=true):Calls prog 3 #[.int .i64 op,bG ua A1 c1 B1 d1,bG ub A2 c2 B2 d2] w (aF w (.bool true)):=by
 obtain ⟨te,pe,hE⟩:=hE;have pl:=Lv op ua ub;obtain ⟨p,hp⟩:∃p,p=gP op ua ub:=⟨_,rfl⟩;rw[←hp] at pl;obtain ⟨ga,gb⟩:ua.good=true∧ub.good=true:=by simpa using hg
 refine zj func3 ntmps3 fun HF LW ak E=>?_;replace HF:=HF.and (Per.aD hx);replace HF:=HF.and (Per.aD hy);replace HF:=HF.and (Per.tabs aV (fun _ h=>h.elim));replace HF:=HF.and (Per.bY hE (fun _ h=>h.elim));refine zi ?_;refine zg HF LW E ak fun aO w2 HF LW E=>(zg HF LW E ak fun bM w4 HF LW E=>?_);refine zo ?_;refine zb en6 (CQ _) E fun w5 E=>(yv ?_);refine zzz en7 (Yh _ ua ub A1 B1 A2 B2 c1 d1 c2 d2 (HF.on E).here.1.1.1.1.1.2 hl ha (HF.on E).here.1.1.1.1.2 hl' hb0 (later hD (LW.step E ak).toBelow) (HF.on E).here.1.1.1.2 ⟨te,pe,(HF.on E).here.1.1.2⟩ op (whA op) (fun _=>flA op) p hp) HF LW E ak (fun o=>Per.bK o aj.none_) fun A3 q3 w6 HF LW E=>(zr ?_);refine vE ko qj HF LW E ak fun gb7 w9 HF LW ak E=>?_;refine yk ?_;refine zb en8 (LA _ ua ub A1 B1 A2 B2 c1 d1 c2 d2 (HF.on E).here.1.1.1.1.1.1.1.2 hl (HF.on E).here.1.1.1.1.1.1.2 hl' true hg) E fun dI E=>(yv ?_);refine zzz aV1 (aF5 _ ua ub A1 B1 A2 B2 c1 d1 c2 d2 (HF.on E).here.1.1.1.1.1.1.1.2 hl ha ga (HF.on E).here.1.1.1.1.1.1.2 hl' hb0 gb (HF.on E).here.1.1.1.1.1.2 ⟨te,pe,(HF.on E).here.1.1.1.1.2⟩ op p hp) HF LW E ak (fun o=>Per.bK o aj.none_) fun A4 q4 dV HF LW E=>(zr ?_);refine vE ko qj HF LW E ak fun NQ cZ HF LW ak E=>?_;refine qc ?_;refine zb en9 (Yn _ p.1 A3 A4 q3 q4 ((HF.on E).here.1.1.1.2).nums ((HF.on E).here.1.2).nums pl p.2) E fun dQ E=>?_;exact Qg
theorem YM (op:Int):Calls prog 3 #[.int .i64 op,bG ua A1 c1 B1 d1,bG ub A2 c2 B2 d2] w (aF w (.bool true)):=by
 cases hg:ua.good&&ub.good
 · exact YL w ua ub A1 B1 A2 B2 c1 d1 c2 d2 hx hl ha hy hl' hb0 hD aV hE op hg
 · exact al3 w ua ub A1 B1 A2 B2 c1 d1 c2 d2 hx hl ha hy hl' hb0 hD aV hE op hg
end
end
end Go.Proofs.YtmnmebdmpigddaaGreatDoor

/- Texts of this claim. -/
import Derived.Test.YtmnmebdmpigddaaGreatDoorL12
set_option maxRecDepth 100000
namespace Go.Proofs.YtmnmebdmpigddaaGreatDoor
open Go.RowKit
theorem Per.Qw {X:Nat→Prop} {w:World} {A:Option Addr} {xs:List Nat} (h:aY w A xs) (hx:∀q,A=some q→ ¬X q.block):Per X w (fun b=>aY b A xs):=fun b hb=>
 ⟨h.1,fun h0=>by
  obtain ⟨g,o,rfl,hg,hc⟩:=h.2 h0;exact ⟨g,o,rfl,Nat.lt_of_lt_of_le hg hb.size,fun k hk=>(hb.cell (p:=⟨g,o+k,none⟩) hg (hx ⟨g,o,none⟩ rfl)).trans (hc k hk)⟩⟩
theorem Per.akq {w:World} {A:Option Addr} {xs:List Nat} (h:aY w A xs):Per No w (fun b=>aY b A xs):=Per.Qw h (fun _ _=>id)
theorem Per.aC1 {X:Nat→Prop} {w:World} {base c:Nat} {A:Option Addr} {xs:List Nat} (h:bE w base A c xs) (hx:∀k,X k→k<base):Per X w (fun b=>aY b A xs):=Per.Qw h.nums (fun q hq e=>by have:=hx _ e;have:=(h.ge q hq).1;omega)
theorem WX (xs:List Nat) (k:Nat):nth xs k=((xs.getD k 0:Nat):Int):=by unfold nth;rfl
end Go.Proofs.YtmnmebdmpigddaaGreatDoor
namespace Go.Proofs.YtmnmebdmpigddaaGreatDoor
open Go.RowKit
def bor (m n k:Nat):Nat:=if m%10^k<n%10^k then 1 else 0
def aG9 (W:World) (i:Int) (e:Ending) (w':World):Prop:=∃A c,e= .returned (.slice A (bC i).length c)∧bE w' W.heap.size A c (bC i)∧Below W.heap.size W w'
end Go.Proofs.YtmnmebdmpigddaaGreatDoor
namespace Go.Proofs.YtmnmebdmpigddaaGreatDoor
open Go.RowKit
def dx (w:World) (A:Option Addr) (xs:List Nat):Prop:=
 (∀k,nth xs k<9223372036854775808)∧(0<xs.length→ ∃b o,A=some ⟨b,o,none⟩∧b<w.heap.size∧ ∀k,k<xs.length→w.cell? ⟨b,o+k,none⟩=some (.int .i64 (nth xs k)))
def qkv (ys:List Nat) (j:Nat):Value:=.int .i64 (nth ys j)
def bS (w:World) (g n:Nat) (ys:List Nat):Prop:=w.rowIs g 3 n (qkv ys)∧ys.length≤n
section
variable {w w':World} {g n:Nat} {ys:List Nat}
theorem bS.cell (h:bS w g n ys) {j:Nat} (hj:j<n):w.cell? ⟨g,j,none⟩=some (.int .i64 (nth ys j)):=h.1.cell hj
theorem bS.frozen (h:bS w g n ys) (j:Nat):w.frozen? ⟨g,j,none⟩=false:=h.1.frozen j
theorem bS.lt (h:bS w g n ys):g<w.heap.size:=h.1.lt
theorem bS.made (w:World) (n:Nat):bS (w.alloc (.cells (madeCells #[.int .i64 0] n) 3)) w.heap.size n []:=
 ⟨(World.rowIs_made w _ n _).congr fun i _=>by unfold qkv;rw[ynv],Nat.zero_le _⟩
theorem bS.snoc (h:bS w g n ys) (v:Nat) (hn:ys.length<n):bS (w.setCell ⟨g,ys.length,none⟩ (.int .i64 (v:Int))) g n (ys++ [v]):=
 ⟨(h.1.set ys.length _).congr fun i _=>by unfold qkv;rw[jS];split<;>rfl,by simp;omega⟩
theorem bS.dw (h:bS w g n ys) (v:Int) (h0:0≤v) {k:Nat} (hk:ys.length=k) (hn:k<n):bS (w.setCell ⟨g,k,none⟩ (.int .i64 v)) g n (ys++ [v.toNat]):=by
 exact OX
theorem bS.set (h:bS w g n ys) (i v:Nat) (hi:i<ys.length):bS (w.setCell ⟨g,i,none⟩ (.int .i64 (v:Int))) g n (ys.set i v):=
 ⟨(h.1.set i _).congr fun j _=>by unfold qkv;rw[qek _ _ _ hi];split<;>rfl,by simpa using h.2⟩
theorem bS.setInt (h:bS w g n ys) (v:Int) (h0:0≤v) {i:Nat} (hi:i<ys.length):bS (w.setCell ⟨g,i,none⟩ (.int .i64 v)) g n (ys.set i v.toNat):=by
 exact OV
theorem bS.of_block (h:bS w g n ys) (e:w'.heap[g]? =w.heap[g]?):bS w' g n ys:=⟨h.1.of_block e,h.2⟩
theorem bS.alloc (h:bS w g n ys) (o:Obj):bS (w.alloc o) g n ys:=⟨h.1.alloc o,h.2⟩
theorem bS.drew (h:bS w g n ys):bS w.drew g n ys:=h
theorem bS.drewN (h:bS w g n ys) (k:Nat):bS (w.drewN k) g n ys:=h
theorem bS.setOther (h:bS w g n ys) {a:Addr} (ha:g≠a.block) (v:Value):bS (w.setCell a v) g n ys:=⟨h.1.setOther ha v,h.2⟩
theorem bS.below {B:Nat} (h:bS w g n ys) (hb:Below B w w') (hg:g<B):bS w' g n ys:=h.of_block (hb.block g hg)
theorem bS.fill (h:bS w g n ys):bS w g n (ys++List.replicate (n-ys.length) 0):=by
 refine ⟨h.1.congr fun i hi=>?_,by have:=h.2;simp;omega⟩;unfold qkv nth;exact O5
end
def bT (w:World) (base:Nat) (A:Option Addr) (c:Nat) (xs:List Nat):Prop:=
 w.ownsRow base 3 1 (.slice A xs.length c) xs.length (xs.map fun x:Nat=>Value.int .i64 (x:Int))∧ ∀x∈xs,x<9223372036854775808
section
variable {w w':World} {base:Nat} {A:Option Addr} {c:Nat} {xs:List Nat}
theorem mZ (h:∀x∈xs,x<9223372036854775808) (k:Nat):nth xs k<9223372036854775808:=by
 exact O4
theorem bT.nums (h:bT w base A c xs):dx w A xs:=by
 refine ⟨mZ h.2,fun h0=>?_⟩;exact O7
theorem bT.nil (w:World) (base:Nat):bT w base none 0 []:=⟨World.ownsRow_nil _ _ _ _,fun _ h=>by cases h⟩
theorem bT.Eh {g n:Nat} {ys:List Nat} (h:bS w g n ys) (hb:base≤g) (hc:n≤maxLen) (hx:xs.length≤n) (he:∀j,j<xs.length→nth ys j=nth xs j) (h64:∀x∈xs,x<9223372036854775808):bT w base (some ⟨g,0,none⟩) n xs:=by
 obtain ⟨⟨cur,hh,hsz,hcell⟩,hle⟩:=h;refine ⟨⟨by simp,.inr ⟨g,n,cur,rfl,hb,hh,hx,hc,om,?_⟩⟩,h64⟩;apply List.ext_getElem?
 intro j;rw[List.getElem?_take];by_cases hj:j<xs.length
 · rw[if_pos om];have h1:=hcell j om;rw[Array.getElem?_toList,h1];unfold qkv;rw[he j hj];simp[nth,hj]
 · rw[if_neg om,List.getElem?_eq_none (by simpa using Nat.le_of_not_lt hj)]
theorem bT.kept {row:Option Nat} (h:bT w base A c xs) (hg:w.grownBy w' row) (hne:(Value.slice A xs.length c).ownBlock=none∨(Value.slice A xs.length c).ownBlock≠row):bT w' base A c xs:=⟨h.1.kept hg hne,h.2⟩
theorem bT.below {B:Nat} (h:bT w base A c xs) (hb:Below B w w') (hB:w.heap.size≤B):bT w' base A c xs:=
 h.kept (row:=none) ⟨hb.os,hb.tape,hb.output,hb.size,fun k hk _=>hb.block k om⟩ (by cases (Value.slice A xs.length c).ownBlock<;>simp)
theorem bT.alloc (h:bT w base A c xs) (o:Obj):bT (w.alloc o) base A c xs:=⟨h.1.alloc o,h.2⟩
theorem bT.drew (h:bT w base A c xs):bT w.drew base A c xs:=h
theorem bT.drewN (h:bT w base A c xs) (k:Nat):bT (w.drewN k) base A c xs:=h
theorem bT.mono {b':Nat} (h:bT w base A c xs) (hb:b'≤base):bT w b' A c xs:=by
 exact OZ
theorem bT.setCell (h:bT w base A c xs) {p:Addr} (hp:∀q,A=some q→q.block≠p.block) (u:Value):bT (w.setCell p u) base A c xs:=by
 exact O6
theorem bT.aN (h:bT w base A c xs) {p:Addr} (hp:p.block<base) (u:Value):bT (w.setCell p u) base A c xs:=
 ⟨ownsRow_setCell_below h.1 hp u,h.2⟩
theorem bT.set2 (h:bT w base A c xs) {g:Nat} {t:TypeId} {x y:Value} (hb:aB w g t #[x,y]) (ht:3≠t) (u v:Value):bT ((w.setCell ⟨g,0,none⟩ u).setCell ⟨g,1,none⟩ v) base A c xs:=by
 exact O1
theorem bT.ge (h:bT w base A c xs):∀q,A=some q→base≤q.block∧q.block<w.heap.size:=by
 intro q hq;subst hq;exact h.1.lt q.block rfl
theorem dx.keep (h:dx w A xs) (hs:w.heap.size≤w'.heap.size) (hk:∀p:Addr,p.block<w.heap.size→w'.cell? p=w.cell? p):dx w' A xs:=
 ⟨h.1,fun h0=>by
  obtain ⟨b,o,rfl,hb,hc⟩:=h.2 h0;exact ⟨b,o,rfl,om,fun k hk'=>(hk _ hb).trans (hc k hk')⟩⟩
theorem dx.alloc (h:dx w A xs) (o:Obj):dx (w.alloc o) A xs:=h.keep (by simp) fun p hp=>World.cell?_alloc_lt w o p hp
theorem dx.drew (h:dx w A xs):dx w.drew A xs:=h
theorem dx.drewN (h:dx w A xs) (k:Nat):dx (w.drewN k) A xs:=h
theorem dx.below {B:Nat} (h:dx w A xs) (hb:Below B w w') (hB:w.heap.size≤B):dx w' A xs:=h.keep hb.size fun _ hp=>hb.cell om
theorem dx.setCell (h:dx w A xs) {p:Addr} (hp:∀q,A=some q→q.block≠p.block) (u:Value):dx (w.setCell p u) A xs:=
 ⟨h.1,fun h0=>by
  obtain ⟨b,o,rfl,hb,hc⟩:=h.2 h0;refine ⟨b,o,rfl,by simpa [World.setCell] using hb,fun k hk'=>?_⟩;rw[World.cell?_setCell_other _ _ _ _ (fun e=>hp _ rfl (by rw[e]))];exact hc k hk'⟩
end
theorem bT.iG {w:World} {base n:Nat} {v:Value} {xs:List Nat} (h:w.ownsRow base 3 1 v n (xs.map fun x:Nat=>Value.int .i64 (x:Int))) (h64:∀x∈xs,x<9223372036854775808) :
 ∃A c,v= .slice A xs.length c∧bT w base A c xs:=by
 have hn:xs.length=n:=by simpa using h.1
 subst hn;rcases h.2 with ⟨rfl,hz⟩ | ⟨g,cap,cur,rfl,r⟩
 · exact ⟨none,0,by rw[hz],by rw[List.eq_nil_of_length_eq_zero hz];exact bT.nil _ _⟩
 · exact Ef
theorem bT.cut {w:World} {base:Nat} {A:Option Addr} {c:Nat} {xs:List Nat} (h:bT w base A c xs) (hc:xs≠ []) {k:Nat} (hk:k≤xs.length):bT w base A c (xs.take k):=by
 exact O8
theorem bS.nums {w':World} {g len:Nat} {zs:List Nat} (h:bS w' g len zs) (hz:zs.length=len) (h64:∀x∈zs,x<9223372036854775808):dx w' (some ⟨g,0,none⟩) zs:=
 ⟨mZ h64,fun _=>⟨g,0,rfl,h.lt,fun k hk=>by rw[Nat.zero_add];exact h.cell om⟩⟩
end Go.Proofs.YtmnmebdmpigddaaGreatDoor
namespace Go.Proofs.YtmnmebdmpigddaaGreatDoor
open Go.RowKit Proofs.Tryz
theorem TI {P:Prop} (h:P:=by
 refine bodyPost_ret (v:=.tuple #[.int .i64 0,.int .i64 7]) (by simp[results,Tryz.results69,go_sem]) rfl ?_;exact yuq L1 HO.out):P:=h
theorem aE6 {P:Prop} (h:P:=by
 obtain ⟨k,hk,rfl,rfl⟩:=hrel;by_cases hk0:k=0
 · subst hk0;obtain ⟨u,hu⟩:∃u:Int,u=((val au (xs.drop 0):Nat):Int):=⟨_,rfl⟩;have hu1:u<10000000000000000000:=by rw[hu,List.drop_zero];have:=HS.out;omega
   have hu0:0≤u:=by rw[hu];omega
   have hval:u=((val au xs:Nat):Int):=by rw[hu,List.drop_zero]
   rw[←hu];clear hu;cases neg
   · have hv:num false xs=u:=by rw[gg,hval];rfl
     have HV:=Lib.hid hv;clear hv hval;by_cases hr:u<9223372036854775808
     · have hw:=TJ u hu0 hr;go_wp2
       refine bodyPost_ret (v:=.tuple #[.int .i64 u,.int .i64 0]) (by simp[results,Tryz.results69,go_sem,hw]) rfl ?_;exact sG L1 (by rw[HV.out];unfold pz;omega) HV.out.symm
     · go_wp2
       refine bodyPost_ret (v:=.tuple #[.int .i64 0,.int .i64 7]) (by simp[results,Tryz.results69,go_sem]) rfl ?_;exact yuq L1 (by rw[HV.out];unfold pz;omega)
   · have hv:num true xs= -u:=by rw[gg,hval];rfl
     have HV:=Lib.hid hv;clear hv hval;by_cases hr:u≤9223372036854775808
     · have hw:=TK u hu0 hr;go_wp2
       refine bodyPost_ret (v:=.tuple #[.int .i64 (-u),.int .i64 0]) (by simp[results,Tryz.results69,go_sem,hw]) rfl ?_;exact sG L1 (by rw[HV.out];unfold pz;omega) HV.out.symm
     · go_wp2
       refine bodyPost_ret (v:=.tuple #[.int .i64 0,.int .i64 7]) (by simp[results,Tryz.results69,go_sem]) rfl ?_;exact yuq L1 (by rw[HV.out];unfold pz;omega)
 · obtain ⟨m,rfl⟩:∃m,k=m+1:=⟨k-1,om⟩;obtain ⟨b1,o1,hA,hb1,hc1⟩:=hx1.2 om;have hcm:=hc1 m om;have hm1:(m:Int)<(xs.length:Int):=om;have hnn:=yj xs m;obtain ⟨he,hlt⟩:=HU.out m om;obtain ⟨p,hp⟩:∃p:Int,p=((val au (xs.drop (m+1)):Nat):Int):=⟨_,rfl⟩;have hp0:0≤p:=by rw[hp];omega
   rw[←hp] at he ⊢;have HE:=Lib.hid he;have hb2:p*1000000000000000000+nth xs m<10000000000000000000:=by rw[he];exact hlt
   have hp1:p≤10:=om;clear hc1 he hp hlt;(first | (injection hA with hA;injection hA with h1 h2;subst h1;subst h2) | subst hA)
   go_wp2
   go_round
   case rel=>exact ⟨m,om,by rw[HE.out],by go_num⟩
   case measure=>simp[intOf]):P:=h
def pz (v:Int):Prop:=-9223372036854775808≤v∧v≤9223372036854775807
instance (v:Int):Decidable (pz v):=by unfold pz;infer_instance
@[irreducible] def nk (ok:Bool) (v:Int):Int:=if ok then (if pz v then v else 0) else 0
@[irreducible] def iC (ok:Bool) (v:Int):Int:=if ok then (if pz v then 0 else 7) else 3
def Nq (W:World) (ok:Bool) (v:Int) (e:Ending) (w':World):Prop:=e= .returned (.tuple #[.int .i64 (nk ok v),.int .i64 (iC ok v)])∧Below W.heap.size W w'
theorem Gg {W w':World} {v:Int} (h:Below W.heap.size W w'):Nq W false v (.returned (.tuple #[.int .i64 0,.int .i64 3])) w':=⟨by unfold nk iC;rfl,h⟩
theorem yuq {W w':World} {v:Int} (h:Below W.heap.size W w') (hv:¬pz v):Nq W true v (.returned (.tuple #[.int .i64 0,.int .i64 7])) w':=⟨by unfold nk iC;simp[hv],h⟩
theorem sG {W w':World} {v u:Int} (h:Below W.heap.size W w') (hv:pz v) (hu:u=v):Nq W true v (.returned (.tuple #[.int .i64 u,.int .i64 0])) w':=⟨by subst hu;unfold nk iC;simp[hv],h⟩
theorem zrx {b:Nat} {l:List Nat} {k:Nat} (h:k<l.length):val b (l.drop k)=l.getD k 0+b*val b (l.drop (k+1)):=by
 rw[List.drop_eq_getElem_cons h,val];simp[List.getD,List.getElem?_eq_getElem h]
theorem Cw {b:Nat} (hb:1≤b) (l:List Nat) (k:Nat):val b (l.drop k)≤val b l:=by
 have h:=ylx (b:=b) l k;have h1:1≤b^(l.take k).length:=Nat.one_le_pow _ _ hb;have h2:1*val b (l.drop k)≤b^(l.take k).length*val b (l.drop k):=Nat.mul_le_mul_right _ h1;omega
theorem TL {neg:Bool} {xs:List Nat} (hg:zm neg xs=true) (h:2<xs.length):¬pz (num neg xs):=by
 obtain ⟨hs,hn,hl,_⟩:=yf hg;have h1:=jR qg hn om;have h2:au^2≤au^(xs.length-1):=Nat.pow_le_pow_right (by unfold au;omega) om;have h3:=xp neg xs;have h4:au^2=1000000000000000000000000000000000000:=by unfold au;rfl
 unfold pz;omega
theorem val_two {xs:List Nat} (h:xs.length=2):val au xs=xs.getD 0 0+1000000000000000000*xs.getD 1 0:=by
 have e1:=zrx (b:=au) (l:=xs) (k:=0) om;have e2:=zrx (b:=au) (l:=xs) (k:=1) om;rw[List.drop_of_length_le (i:=1+1) om] at e2;rw[List.drop_zero] at e1;simp only[val] at e2
 rw[e1,e2];unfold au;omega
theorem TM {neg:Bool} {xs:List Nat} (h:xs.length=2) (h9:9<nth xs 1):¬pz (num neg xs):=by
 have h3:=xp neg xs;rw[val_two h] at h3;have h4:9<xs.getD 1 0:=by unfold nth at h9;omega
 unfold pz;omega
theorem Ms {neg:Bool} {xs:List Nat} (hg:zm neg xs=true) (h:xs.length≤2) (h9:xs.length=2→nth xs 1≤9):val au xs<10000000000000000000:=by
 obtain ⟨hs,hn,hl,_⟩:=yf hg;rcases Nat.lt_or_ge xs.length 2 with h2 | h2
 · have h1:=kj hs;have h3:au^xs.length≤au^1:=Nat.pow_le_pow_right (by unfold au;omega) om;have h4:au^1=1000000000000000000:=by unfold au;rfl
   omega
 · have h3:xs.length=2:=om;rw[val_two h3];have h4:=h9 h3;have h5:=vn (by unfold au;omega) hs 0;unfold nth at h4 h5;unfold au at h5;omega
theorem TK (u:Int) (h0:0≤u) (h1:u≤9223372036854775808):IntKind.i64.wrap (IntKind.u64.wrap (-u))= -u:=by
 exact jT
theorem TJ (u:Int) (h0:0≤u) (h1:u<9223372036854775808):IntKind.i64.wrap u=u:=by
 exact jT
section
variable (A:Option Addr) (c:Nat) (xs:List Nat) (w:World)
set_option maxHeartbeats 1000000 in
theorem Yz (neg:Bool) (hx:aA w A xs) (hl:xs.length≤9223372036854775807) (hg:zm neg xs=false) :
 Calls prog 69 #[.agg #[.bool neg,.slice A xs.length c]] w (Nq w false (num neg xs)):=by
 go_enter func69,ntmps69
 go_wp2_with fail
 refine (zw neg c _ A xs hl (hx.alloc _)).mono ?_;rintro e w1 ⟨rfl,hb1⟩;have L1:Below w.heap.size w w1:=((Below.refl _ _).alloc (Nat.le_refl _) _).trans (hb1.mono (by simp));go_wp2_with fail
 refine bodyPost_ret (v:=.tuple #[.int .i64 0,.int .i64 3]) (by simp[results,Tryz.results69,go_sem]) rfl ?_;exact Gg L1
set_option maxHeartbeats 1000000 in
theorem Jm (neg:Bool) (hx:aA w A xs) (hg:zm neg xs=true) (h:2<xs.length∨(xs.length=2∧9<nth xs 1)) :
 Calls prog 69 #[.agg #[.bool neg,.slice A xs.length c]] w (Nq w true (num neg xs)):=by
 obtain ⟨hs,hn,hl,_⟩:=yf hg;rcases h with h | ⟨h,h9⟩
 · have HO:=Lib.hid (TL hg h);have h2:(2:Int)<(xs.length:Int):=om;go_enter func69,ntmps69
   go_wp2_with fail
   refine (zw neg c _ A xs om (hx.alloc _)).mono ?_;rintro e w1 ⟨rfl,hb1⟩;have X1:=(aB.new w 24 #[.bool neg,.slice A xs.length c]).below hb1 (by simp);have L1:Below w.heap.size w w1:=((Below.refl _ _).alloc (Nat.le_refl _) _).trans (hb1.mono (by simp));obtain ⟨x0,x1,x2,x3⟩:=X1.two;clear hb1;go_wp2_with fail
   exact TI
 · have HO:=Lib.hid (TM (neg:=neg) h h9);obtain ⟨b,o,rfl,hb,hc⟩:=hx.2 om;have hc1:=hc 1 om;have H2:=Lib.hid h;have HX:=Lib.hid hx;clear h hx;go_enter func69,ntmps69
   go_wp2_with fail
   refine (zw neg c _ _ xs om (HX.out.alloc _)).mono ?_;rintro e w1 ⟨rfl,hb1⟩;have X1:=(aB.new w 24 #[.bool neg,.slice (some ⟨b,o,none⟩) xs.length c]).below hb1 (by simp);have L1:Below w.heap.size w w1:=((Below.refl _ _).alloc (Nat.le_refl _) _).trans (hb1.mono (by simp));obtain ⟨x0,x1,x2,x3⟩:=X1.two;have hcw:w1.cell? ⟨b,o+1,none⟩=some (.int .u64 (nth xs 1)):=(L1.cell (p:=⟨b,o+1,none⟩) hb).trans hc1;rw[H2.out] at x1;clear hb1 hc hc1;go_wp2_with fail
   exact TI
set_option maxHeartbeats 1000000 in
theorem ap2 (neg:Bool) (hx:aA w A xs) (hg:zm neg xs=true) (h:xs.length≤2) (h9:xs.length=2→nth xs 1≤9) :
 Calls prog 69 #[.agg #[.bool neg,.slice A xs.length c]] w (Nq w true (num neg xs)):=by
 obtain ⟨hs,hn,hl,_⟩:=yf hg;have hsm:=Ms hg h h9;have aE7:(xs.length=2∧ ∃b o,A=some ⟨b,o,none⟩∧b<w.heap.size∧w.cell? ⟨b,o+1,none⟩=some (.int .u64 (nth xs 1)))∨xs.length<2:=by
  rcases Nat.lt_or_ge xs.length 2 with h2 | h2
  · exact Or.inr h2
  · obtain ⟨b,o,rfl,hb,hc⟩:=hx.2 om;exact Or.inl ⟨om,b,o,rfl,hb,hc 1 om⟩
 have h2:¬(2:Int)<(xs.length:Int):=om;have HS:=Lib.hid hsm;clear hsm;go_enter func69,ntmps69
 go_wp2_with fail
 refine (zw neg c _ _ xs om (hx.alloc _)).mono ?_;rintro e w1 ⟨rfl,hb1⟩;have X1:=(aB.new w 24 #[.bool neg,.slice A xs.length c]).below hb1 (by simp);have L1:Below w.heap.size w w1:=((Below.refl _ _).alloc (Nat.le_refl _) _).trans (hb1.mono (by simp));obtain ⟨x0,x1,x2,x3⟩:=X1.two;have hx1:=hx.below L1 (Nat.le_refl _);have hu:∀k,k<xs.length→((val au (xs.drop (k+1)):Nat):Int)*1000000000000000000+nth xs k=((val au (xs.drop k):Nat):Int)∧((val au (xs.drop k):Nat):Int)<10000000000000000000:=by
  intro k hk;have e:=zrx (b:=au) hk;have e2:=Cw (b:=au) (by unfold au;omega) xs k;have e3:=HS.out;unfold nth;generalize val au (xs.drop (k+1))=p at *
  generalize val au (xs.drop k)=q at *
  unfold au at e;omega
 have HU:=Lib.hid hu;clear hb1 hu;rcases aE7 with ⟨h3,b,o,rfl,hb,hc1⟩ | h3
 · have hcw:w1.cell? ⟨b,o+1,none⟩=some (.int .u64 (nth xs 1)):=(L1.cell (p:=⟨b,o+1,none⟩) hb).trans hc1;have h9':=h9 h3;have hlt2:((xs.length:Int)==2)=true:=by simp;omega
   have hone:(1:Int)<(xs.length:Int):=om;have H3:=Lib.hid h3;clear hc1 h3 h9;go_wp2_with fail
   go_loop [4,5] (fun u v=>∃k:Nat,k≤xs.length∧u= .int .u64 ((val au (xs.drop k):Nat):Int)∧v= .int .i64 ((k:Int)-1)) (fun u v=>(intOf v+1).toNat)
   case atStart=>exact ⟨xs.length,Nat.le_refl _,by rw[List.drop_of_length_le (Nat.le_refl _)];rfl,rfl⟩
   case round=>
    exact aE6
 · have hlt2:((xs.length:Int)==2)=false:=by simp;omega
   clear h9;go_wp2_with fail
   go_loop [4,5] (fun u v=>∃k:Nat,k≤xs.length∧u= .int .u64 ((val au (xs.drop k):Nat):Int)∧v= .int .i64 ((k:Int)-1)) (fun u v=>(intOf v+1).toNat)
   case atStart=>exact ⟨xs.length,Nat.le_refl _,by rw[List.drop_of_length_le (Nat.le_refl _)];rfl,rfl⟩
   case round=>
    exact aE6
theorem qfq (neg:Bool) (hx:aA w A xs) (hl:xs.length≤9223372036854775807) :
 Calls prog 69 #[.agg #[.bool neg,.slice A xs.length c]] w (Nq w (zm neg xs) (num neg xs)):=by
 cases hg:zm neg xs
 · exact Yz A c xs w neg hx hl hg
 by_cases h1:2<xs.length
 · exact Jm A c xs w neg hx hg (Or.inl h1)
 by_cases h2:xs.length=2∧9<nth xs 1
 · exact Jm A c xs w neg hx hg (Or.inr h2)
 exact ap2 A c xs w neg hx hg om (by intro h3;by_cases h4:nth xs 1≤9;exact h4;exact absurd ⟨h3,om⟩ h2)
end
end Go.Proofs.YtmnmebdmpigddaaGreatDoor
namespace Go.Proofs.YtmnmebdmpigddaaGreatDoor
open Go.RowKit
@[irreducible] def smV (i:Int):Int:=if pz i then i else 0
def aE8 (W:World) (i:Int) (e:Ending) (w':World):Prop:=e= .returned (.tuple #[.int .i64 (smV i),.bool (decide (pz i))])∧Below W.heap.size W w'
end Go.Proofs.YtmnmebdmpigddaaGreatDoor

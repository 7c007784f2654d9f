/- Texts of this claim. -/
import Derived.Test.YtdofcnodhgaedaaGreatDoorG12
set_option maxRecDepth 100000
namespace Go.Proofs.YtdofcnodhgaedaaGreatDoor
open Go.RowKit Proofs.Tryz
def bH (w:World) (A:Option Addr) (xs:List Nat):Prop:=
 (∀k,nth xs k<9223372036854775808)∧(0<xs.length→ ∃b o,A=some ⟨b,o,none⟩∧b<w.heap.size∧ ∀k,k<xs.length→w.cell? ⟨b,o+k,none⟩=some (.int .i64 (nth xs k)))
def yrk (ys:List Nat) (j:Nat):Value:=.int .i64 (nth ys j)
def aV (w:World) (g n:Nat) (ys:List Nat):Prop:=w.rowIs g 3 n (yrk ys)∧ys.length≤n
section
variable {w w':World} {g n:Nat} {ys:List Nat}
theorem aV.cell (h:aV w g n ys) {j:Nat} (hj:j<n):w.cell? ⟨g,j,none⟩=some (.int .i64 (nth ys j)):=h.1.cell hj
theorem aV.frozen (h:aV w g n ys) (j:Nat):w.frozen? ⟨g,j,none⟩=false:=h.1.frozen j
theorem aV.lt (h:aV w g n ys):g<w.heap.size:=h.1.lt
theorem aV.made (w:World) (n:Nat):aV (w.alloc (.cells (madeCells #[.int .i64 0] n) 3)) w.heap.size n []:=
 ⟨(World.rowIs_made w _ n _).congr fun i _=>by unfold yrk;rw[yaq],Nat.zero_le _⟩
theorem aV.snoc (h:aV w g n ys) (v:Nat) (hn:ys.length<n):aV (w.setCell ⟨g,ys.length,none⟩ (.int .i64 (v:Int))) g n (ys++ [v]):=
 ⟨(h.1.set ys.length _).congr fun i _=>by unfold yrk;rw[kU];split<;>rfl,by simp;omega⟩
theorem aV.bE (h:aV w g n ys) (v:Int) (h0:0≤v) {k:Nat} (hk:ys.length=k) (hn:k<n):aV (w.setCell ⟨g,k,none⟩ (.int .i64 v)) g n (ys++ [v.toNat]):=by
 exact Mv
theorem aV.set (h:aV w g n ys) (i v:Nat) (hi:i<ys.length):aV (w.setCell ⟨g,i,none⟩ (.int .i64 (v:Int))) g n (ys.set i v):=
 ⟨(h.1.set i _).congr fun j _=>by unfold yrk;rw[ylv _ _ _ hi];split<;>rfl,by simpa using h.2⟩
theorem aV.setInt (h:aV w g n ys) (v:Int) (h0:0≤v) {i:Nat} (hi:i<ys.length):aV (w.setCell ⟨g,i,none⟩ (.int .i64 v)) g n (ys.set i v.toNat):=by
 exact Mt
theorem aV.of_block (h:aV w g n ys) (e:w'.heap[g]? =w.heap[g]?):aV w' g n ys:=⟨h.1.of_block e,h.2⟩
theorem aV.alloc (h:aV w g n ys) (o:Obj):aV (w.alloc o) g n ys:=⟨h.1.alloc o,h.2⟩
theorem aV.drew (h:aV w g n ys):aV w.drew g n ys:=h
theorem aV.drewN (h:aV w g n ys) (k:Nat):aV (w.drewN k) g n ys:=h
theorem aV.setOther (h:aV w g n ys) {a:Addr} (ha:g≠a.block) (v:Value):aV (w.setCell a v) g n ys:=⟨h.1.setOther ha v,h.2⟩
theorem aV.below {B:Nat} (h:aV w g n ys) (hb:Below B w w') (hg:g<B):aV w' g n ys:=h.of_block (hb.block g hg)
theorem aV.fill (h:aV w g n ys):aV w g n (ys++List.replicate (n-ys.length) 0):=by
 refine ⟨h.1.congr fun i hi=>?_,by have:=h.2;simp;omega⟩;unfold yrk nth;exact ME
end
def aW (w:World) (base:Nat) (A:Option Addr) (c:Nat) (xs:List Nat):Prop:=
 w.ownsRow base 3 1 (.slice A xs.length c) xs.length (xs.map fun x:Nat=>Value.int .i64 (x:Int))∧ ∀x∈xs,x<9223372036854775808
section
variable {w w':World} {base:Nat} {A:Option Addr} {c:Nat} {xs:List Nat}
theorem l7 (h:∀x∈xs,x<9223372036854775808) (k:Nat):nth xs k<9223372036854775808:=by
 exact MC
theorem aW.nums (h:aW w base A c xs):bH w A xs:=by
 refine ⟨l7 h.2,fun h0=>?_⟩;exact MH
theorem aW.nil (w:World) (base:Nat):aW w base none 0 []:=⟨World.ownsRow_nil _ _ _ _,fun _ h=>by cases h⟩
theorem aW.Cv {g n:Nat} {ys:List Nat} (h:aV w g n ys) (hb:base≤g) (hc:n≤maxLen) (hx:xs.length≤n) (he:∀j,j<xs.length→nth ys j=nth xs j) (h64:∀x∈xs,x<9223372036854775808):aW w base (some ⟨g,0,none⟩) n xs:=by
 obtain ⟨⟨cur,hh,hsz,hcell⟩,hle⟩:=h;refine ⟨⟨by simp,.inr ⟨g,n,cur,rfl,hb,hh,hx,hc,om,?_⟩⟩,h64⟩;apply List.ext_getElem?
 intro j;rw[List.getElem?_take];by_cases hj:j<xs.length
 · rw[if_pos om];have h1:=hcell j om;rw[Array.getElem?_toList,h1];unfold yrk;rw[he j hj];simp[nth,hj]
 · rw[if_neg om,List.getElem?_eq_none (by simpa using Nat.le_of_not_lt hj)]
theorem aW.kept {row:Option Nat} (h:aW w base A c xs) (hg:w.grownBy w' row) (hne:(Value.slice A xs.length c).ownBlock=none∨(Value.slice A xs.length c).ownBlock≠row):aW w' base A c xs:=⟨h.1.kept hg hne,h.2⟩
theorem aW.below {B:Nat} (h:aW w base A c xs) (hb:Below B w w') (hB:w.heap.size≤B):aW w' base A c xs:=
 h.kept (row:=none) ⟨hb.os,hb.tape,hb.output,hb.size,fun k hk _=>hb.block k om⟩ (by cases (Value.slice A xs.length c).ownBlock<;>simp)
theorem aW.alloc (h:aW w base A c xs) (o:Obj):aW (w.alloc o) base A c xs:=⟨h.1.alloc o,h.2⟩
theorem aW.drew (h:aW w base A c xs):aW w.drew base A c xs:=h
theorem aW.drewN (h:aW w base A c xs) (k:Nat):aW (w.drewN k) base A c xs:=h
theorem aW.mono {b':Nat} (h:aW w base A c xs) (hb:b'≤base):aW w b' A c xs:=by
 exact Mw
theorem aW.setCell (h:aW w base A c xs) {p:Addr} (hp:∀q,A=some q→q.block≠p.block) (u:Value):aW (w.setCell p u) base A c xs:=by
 exact MG
theorem aW.aG (h:aW w base A c xs) {p:Addr} (hp:p.block<base) (u:Value):aW (w.setCell p u) base A c xs:=
 ⟨ownsRow_setCell_below h.1 hp u,h.2⟩
theorem aW.set2 (h:aW w base A c xs) {g:Nat} {t:TypeId} {x y:Value} (hb:aA w g t #[x,y]) (ht:3≠t) (u v:Value):aW ((w.setCell ⟨g,0,none⟩ u).setCell ⟨g,1,none⟩ v) base A c xs:=by
 exact Mx
theorem aW.ge (h:aW w base A c xs):∀q,A=some q→base≤q.block∧q.block<w.heap.size:=by
 intro q hq;subst hq;exact h.1.lt q.block rfl
theorem bH.keep (h:bH w A xs) (hs:w.heap.size≤w'.heap.size) (hk:∀p:Addr,p.block<w.heap.size→w'.cell? p=w.cell? p):bH w' A xs:=
 ⟨h.1,fun h0=>by
  obtain ⟨b,o,rfl,hb,hc⟩:=h.2 h0;exact ⟨b,o,rfl,om,fun k hk'=>(hk _ hb).trans (hc k hk')⟩⟩
theorem bH.alloc (h:bH w A xs) (o:Obj):bH (w.alloc o) A xs:=h.keep (by simp) fun p hp=>World.cell?_alloc_lt w o p hp
theorem bH.drew (h:bH w A xs):bH w.drew A xs:=h
theorem bH.drewN (h:bH w A xs) (k:Nat):bH (w.drewN k) A xs:=h
theorem bH.below {B:Nat} (h:bH w A xs) (hb:Below B w w') (hB:w.heap.size≤B):bH w' A xs:=h.keep hb.size fun _ hp=>hb.cell om
theorem bH.setCell (h:bH w A xs) {p:Addr} (hp:∀q,A=some q→q.block≠p.block) (u:Value):bH (w.setCell p u) A xs:=
 ⟨h.1,fun h0=>by
  obtain ⟨b,o,rfl,hb,hc⟩:=h.2 h0;refine ⟨b,o,rfl,by simpa [World.setCell] using hb,fun k hk'=>?_⟩;rw[World.cell?_setCell_other _ _ _ _ (fun e=>hp _ rfl (by rw[e]))];exact hc k hk'⟩
end
theorem aW.iq {w:World} {base n:Nat} {v:Value} {xs:List Nat} (h:w.ownsRow base 3 1 v n (xs.map fun x:Nat=>Value.int .i64 (x:Int))) (h64:∀x∈xs,x<9223372036854775808) :
 ∃A c,v= .slice A xs.length c∧aW w base A c xs:=by
 have hn:xs.length=n:=by simpa using h.1
 subst hn;rcases h.2 with ⟨rfl,hz⟩ | ⟨g,cap,cur,rfl,r⟩
 · exact ⟨none,0,by rw[hz],by rw[List.eq_nil_of_length_eq_zero hz];exact aW.nil _ _⟩
 · exact Cu
theorem aW.cut {w:World} {base:Nat} {A:Option Addr} {c:Nat} {xs:List Nat} (h:aW w base A c xs) (hc:xs≠ []) {k:Nat} (hk:k≤xs.length):aW w base A c (xs.take k):=by
 exact MJ
theorem aV.nums {w':World} {g len:Nat} {zs:List Nat} (h:aV w' g len zs) (hz:zs.length=len) (h64:∀x∈zs,x<9223372036854775808):bH w' (some ⟨g,0,none⟩) zs:=
 ⟨l7 h64,fun _=>⟨g,0,rfl,h.lt,fun k hk=>by rw[Nat.zero_add];exact h.cell om⟩⟩
def inR (v:Int):Prop:=-9223372036854775808≤v∧v≤9223372036854775807
instance (v:Int):Decidable (inR v):=by unfold inR;infer_instance
@[irreducible] def au2 (ok:Bool) (v:Int):Int:=if ok then (if inR v then v else 0) else 0
@[irreducible] def au3 (ok:Bool) (v:Int):Int:=if ok then (if inR v then 0 else 7) else 3
def au4 (W:World) (ok:Bool) (v:Int) (e:Ending) (w':World):Prop:=e= .returned (.tuple #[.int .i64 (au2 ok v),.int .i64 (au3 ok v)])∧Below W.heap.size W w'
section
variable (A:Option Addr) (c:Nat) (xs:List Nat) (w:World)
end
@[irreducible] def smV (i:Int):Int:=if inR i then i else 0
def al7 (W:World) (i:Int) (e:Ending) (w':World):Prop:=e= .returned (.tuple #[.int .i64 (smV i),.bool (decide (inR i))])∧Below W.heap.size W w'
end Go.Proofs.YtdofcnodhgaedaaGreatDoor

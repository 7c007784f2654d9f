/- Texts of this claim. -/
import Derived.Test.YtmnmebdmpigddaaGreatDoorB11
import Derived.Test.YtmnmebdmpigddaaGreatDoorRows
import Derived.WalkSpells
import Derived.WalkLawsBesides
import Derived.BigQuiet
import Derived.Deep.QuietTactic
import Derived.Deep.RegionHeld3
import Derived.Deep.DeepCutAuto
import Derived.Lib.Hide
import Derived.Laws.CopyOwn
set_option maxRecDepth 100000
namespace Go.Proofs.YtmnmebdmpigddaaGreatDoor
open Go.RowKit Proofs.Tryz
theorem RO {P:Prop} (h:P:=by
 have h1:=hown.ge q rfl;simp only[Value.ownBlock,Option.some.injEq] at hk
 omega):P:=h
theorem RP {P:Prop} (h:P:=by
 refine ⟨⟨h.1.1,?_⟩,h.2⟩;rcases h.1.2 with h2 | ⟨g,cap,cur,hv,hg,r⟩
 · exact .inl h2
 · exact .inr ⟨g,cap,cur,hv,om,r⟩):P:=h
theorem RQ {P:Prop} (h:P:=by
 unfold nth;by_cases hk:k<xs.length
 · have:=h _ (List.getElem_mem hk);simp only[List.getD,List.getElem?_eq_getElem hk,Option.getD_some];omega
 · rw[ylk xs k om];simp):P:=h
theorem F6 {P:Prop} (h:P:=by
 have e:v=(v.toNat:Int):=om;have h1:=h.set i v.toNat hi;rw[←e] at h1;exact h1):P:=h
theorem ap0 {P:Prop} (h:P:=by
 rcases h.1.2 with ⟨_,hn⟩ | ⟨g,cap,cur,hv,hg,hh,hnc,_,hsz,hcur⟩
 · omega
 · injection hv with hA _ hc
   subst hA;refine ⟨g,0,rfl,(Array.getElem?_eq_some_iff.1 hh).1,fun k hk=>?_⟩;rw[Nat.zero_add,cell_of_row w g k cur _ (0,0) hh];have e:cur[k]? =cur.toList[k]? :=by simp
   have e2:cur.toList[k]? =(cur.toList.take (xs.length*1))[k]? :=by rw[List.getElem?_take,if_pos om]
   rw[e,e2,hcur];simp[nth,hk]):P:=h
theorem RU {P:Prop} (h:P:=by
 by_cases h1:i<ys.length
 · simp[List.getElem?_append_left h1]
 · simp[List.getElem?_append_right (show ys.length≤i from om),List.getElem?_eq_none (show ys.length≤i from om),List.getElem?_replicate]
   split<;>rfl):P:=h
theorem ap1 {P:Prop} (h:P:=by
 refine ⟨⟨by simp,?_⟩,fun x hx=>h.2 x (List.mem_of_mem_take hx)⟩;rcases h.1.2 with ⟨_,h0⟩ | ⟨g,cap,cur,hv,hg,hh,hle,hcap,hsz,hcur⟩
 · exact absurd (List.eq_nil_of_length_eq_zero h0) hc
 · injection hv with hA hn hcc
   subst hA;subst hcc;have hkl:(xs.take k).length=k:=by rw[List.length_take];omega
   refine .inr ⟨g,c,cur,rfl,hg,hh,om,hcap,hsz,?_⟩;rw[hkl,List.map_take,←hcur,List.take_take,Nat.mul_one,Nat.mul_one,Nat.min_eq_left hk]):P:=h
def lenOf:Value→Nat | .slice _ n _=>n | _=>0
theorem zsv {a b:Bool} (h:a=b):Ending.returned (.bool a)= .returned (.bool b):=by rw[h]
theorem kz {a b:Int} (h:a=b):Ending.returned (.int .i64 a)= .returned (.int .i64 b):=by rw[h]
theorem qr {b:Nat} (hb:0<b) {xs:List Nat} (h:small b xs) (k:Nat):nth xs k<b:=by
 unfold nth;have:=qnk hb h k;omega
theorem kl (xs:List Nat) (k:Nat) (h:xs.length≤k):nth xs k=0:=by
 unfold nth;rw[ylk xs k h];rfl
theorem ykv (xs:List Nat) (k:Nat):(nth xs k).toNat=xs.getD k 0:=by unfold nth;omega
theorem RV (ys:List Nat) (v:Nat) (j:Nat):nth (ys++ [v]) j=if j=ys.length then (v:Int) else nth ys j:=by
 unfold nth;by_cases h:j=ys.length
 · subst h;simp
 · rw[if_neg h];by_cases h1:j<ys.length
   · simp[List.getElem?_append_left h1]
   · simp[List.getElem?_append_right (show ys.length≤j from om),List.getElem?_eq_none (show ys.length≤j from om)]
     rw[List.getElem?_eq_none];rfl;simp;omega
theorem yez (ys:List Nat) (i v:Nat) (h:i<ys.length) (j:Nat):nth (ys.set i v) j=if j=i then (v:Int) else nth ys j:=by
 unfold nth;by_cases hj:j=i
 · subst hj;simp[h]
 · rw[if_neg hj];simp[show ¬i=j from fun e=>hj e.symm]
theorem Ad (ys:List Nat) (k j:Nat) (h:j<k):nth (ys.take k) j=nth ys j:=by
 unfold nth;simp[h]
theorem ygx (n j:Nat):nth (List.replicate n 0) j=0:=by
 unfold nth;by_cases h:j<n<;>simp[h]
theorem yqk (j:Nat):nth [] j=0:=by unfold nth;simp
def vov (ys:List Nat) (j:Nat):Value:=.int .u64 (nth ys j)
def Row (w:World) (g n:Nat) (ys:List Nat):Prop:=w.rowIs g 25 n (vov ys)∧ys.length≤n
section
variable {w w':World} {g n:Nat} {ys:List Nat}
theorem Row.cell (h:Row w g n ys) {j:Nat} (hj:j<n):w.cell? ⟨g,j,none⟩=some (.int .u64 (nth ys j)):=h.1.cell hj
theorem Row.frozen (h:Row w g n ys) (j:Nat):w.frozen? ⟨g,j,none⟩=false:=h.1.frozen j
theorem Row.lt (h:Row w g n ys):g<w.heap.size:=h.1.lt
theorem Row.made (w:World) (n:Nat):Row (w.alloc (.cells (madeCells #[.int .u64 0] n) 25)) w.heap.size n []:=
 ⟨(World.rowIs_made w _ n _).congr fun i _=>by unfold vov;rw[yqk],Nat.zero_le _⟩
theorem Row.snoc (h:Row w g n ys) (v:Nat) (hn:ys.length<n):Row (w.setCell ⟨g,ys.length,none⟩ (.int .u64 (v:Int))) g n (ys++ [v]):=
 ⟨(h.1.set ys.length _).congr fun i _=>by unfold vov;rw[RV];split<;>rfl,by simp;omega⟩
theorem Row.cB (h:Row w g n ys) (v:Int) (h0:0≤v) {k:Nat} (hk:ys.length=k) (hn:k<n):Row (w.setCell ⟨g,k,none⟩ (.int .u64 v)) g n (ys++ [v.toNat]):=by
 subst hk;have e:v=(v.toNat:Int):=om;have h1:=h.snoc v.toNat hn;rw[←e] at h1;exact h1
theorem Row.set (h:Row w g n ys) (i v:Nat) (hi:i<ys.length):Row (w.setCell ⟨g,i,none⟩ (.int .u64 (v:Int))) g n (ys.set i v):=
 ⟨(h.1.set i _).congr fun j _=>by unfold vov;rw[yez _ _ _ hi];split<;>rfl,by simpa using h.2⟩
theorem Row.setInt (h:Row w g n ys) (v:Int) (h0:0≤v) {i:Nat} (hi:i<ys.length):Row (w.setCell ⟨g,i,none⟩ (.int .u64 v)) g n (ys.set i v.toNat):=by
 exact F6
theorem Row.of_block (h:Row w g n ys) (e:w'.heap[g]? =w.heap[g]?):Row w' g n ys:=⟨h.1.of_block e,h.2⟩
theorem Row.alloc (h:Row w g n ys) (o:Obj):Row (w.alloc o) g n ys:=⟨h.1.alloc o,h.2⟩
theorem Row.drew (h:Row w g n ys):Row w.drew g n ys:=h
theorem Row.drewN (h:Row w g n ys) (k:Nat):Row (w.drewN k) g n ys:=h
theorem Row.setOther (h:Row w g n ys) {a:Addr} (ha:g≠a.block) (v:Value):Row (w.setCell a v) g n ys:=⟨h.1.setOther ha v,h.2⟩
theorem Row.below {B:Nat} (h:Row w g n ys) (hb:Below B w w') (hg:g<B):Row w' g n ys:=h.of_block (hb.block g hg)
theorem Row.fill (h:Row w g n ys):Row w g n (ys++List.replicate (n-ys.length) 0):=by
 refine ⟨h.1.congr fun i hi=>?_,by have:=h.2;simp;omega⟩;unfold vov nth;exact RU
end
def Own (w:World) (base:Nat) (A:Option Addr) (c:Nat) (xs:List Nat):Prop:=
 w.ownsRow base 25 1 (.slice A xs.length c) xs.length (xs.map fun x:Nat=>Value.int .u64 (x:Int))∧ ∀x∈xs,x<18446744073709551616
section
variable {w w':World} {base:Nat} {A:Option Addr} {c:Nat} {xs:List Nat}
theorem ziv (h:∀x∈xs,x<18446744073709551616) (k:Nat):nth xs k<18446744073709551616:=by
 exact RQ
theorem Own.nums (h:Own w base A c xs):aA w A xs:=by
 refine ⟨ziv h.2,fun h0=>?_⟩;exact ap0
theorem Own.nil (w:World) (base:Nat):Own w base none 0 []:=⟨World.ownsRow_nil _ _ _ _,fun _ h=>by cases h⟩
theorem Own.vJ {g n:Nat} {ys:List Nat} (h:Row w g n ys) (hb:base≤g) (hc:n≤maxLen) (hx:xs.length≤n) (he:∀j,j<xs.length→nth ys j=nth xs j) (h64:∀x∈xs,x<18446744073709551616):Own w base (some ⟨g,0,none⟩) n xs:=by
 obtain ⟨⟨cur,hh,hsz,hcell⟩,hle⟩:=h;refine ⟨⟨by simp,.inr ⟨g,n,cur,rfl,hb,hh,hx,hc,om,?_⟩⟩,h64⟩;apply List.ext_getElem?
 intro j;rw[List.getElem?_take];by_cases hj:j<xs.length
 · rw[if_pos om];have h1:=hcell j om;rw[Array.getElem?_toList,h1];unfold vov;rw[he j hj];simp[nth,hj]
 · rw[if_neg om,List.getElem?_eq_none (by simpa using Nat.le_of_not_lt hj)]
theorem Own.kept {row:Option Nat} (h:Own w base A c xs) (hg:w.grownBy w' row) (hne:(Value.slice A xs.length c).ownBlock=none∨(Value.slice A xs.length c).ownBlock≠row):Own w' base A c xs:=⟨h.1.kept hg hne,h.2⟩
theorem Own.below {B:Nat} (h:Own w base A c xs) (hb:Below B w w') (hB:w.heap.size≤B):Own w' base A c xs:=
 h.kept (row:=none) ⟨hb.os,hb.tape,hb.output,hb.size,fun k hk _=>hb.block k om⟩ (by cases (Value.slice A xs.length c).ownBlock<;>simp)
theorem Own.alloc (h:Own w base A c xs) (o:Obj):Own (w.alloc o) base A c xs:=⟨h.1.alloc o,h.2⟩
theorem Own.drew (h:Own w base A c xs):Own w.drew base A c xs:=h
theorem Own.mono {b':Nat} (h:Own w base A c xs) (hb:b'≤base):Own w b' A c xs:=by
 exact RP
theorem Own.setCell (h:Own w base A c xs) {p:Addr} (hp:∀q,A=some q→q.block≠p.block) (u:Value):Own (w.setCell p u) base A c xs:=by
 refine ⟨⟨h.1.1,?_⟩,h.2⟩;rcases h.1.2 with h2 | ⟨g,cap,cur,hv,hg,hh,r⟩
 · exact .inl h2
 · refine .inr ⟨g,cap,cur,hv,hg,?_,r⟩;rw[Below.heap_setCell _ _ _ _ (by injection hv with e1;exact hp _ e1)];exact hh
theorem Own.aI (h:Own w base A c xs) {p:Addr} (hp:p.block<base) (u:Value):Own (w.setCell p u) base A c xs:=
 ⟨ownsRow_setCell_below h.1 hp u,h.2⟩
theorem Own.set2 (h:Own w base A c xs) {g:Nat} {t:TypeId} {x y:Value} (hb:aB w g t #[x,y]) (ht:25≠t) (u v:Value):Own ((w.setCell ⟨g,0,none⟩ u).setCell ⟨g,1,none⟩ v) base A c xs:=by
 have hne:∀q,A=some q→q.block≠g:=fun q hq e=>by
  subst hq;exact qpx h.1 hb ht (by simp[Value.ownBlock,e])
 exact (h.setCell hne u).setCell hne v
theorem Own.ge (h:Own w base A c xs):∀q,A=some q→base≤q.block∧q.block<w.heap.size:=by
 intro q hq;subst hq;exact h.1.lt q.block rfl
theorem aA.keep (h:aA w A xs) (hs:w.heap.size≤w'.heap.size) (hk:∀p:Addr,p.block<w.heap.size→w'.cell? p=w.cell? p):aA w' A xs:=
 ⟨h.1,fun h0=>by
  obtain ⟨b,o,rfl,hb,hc⟩:=h.2 h0;exact ⟨b,o,rfl,om,fun k hk'=>(hk _ hb).trans (hc k hk')⟩⟩
theorem aA.alloc (h:aA w A xs) (o:Obj):aA (w.alloc o) A xs:=h.keep (by simp) fun p hp=>World.cell?_alloc_lt w o p hp
theorem aA.drew (h:aA w A xs):aA w.drew A xs:=h
theorem aA.drewN (h:aA w A xs) (k:Nat):aA (w.drewN k) A xs:=h
theorem aA.below {B:Nat} (h:aA w A xs) (hb:Below B w w') (hB:w.heap.size≤B):aA w' A xs:=h.keep hb.size fun _ hp=>hb.cell om
end
theorem JQ {W w1:World} (hb:Below W.heap.size W w1):(∀b o,b<W.heap.size→w1.cell? ⟨b,o,none⟩=W.cell? ⟨b,o,none⟩)∧(∀b o,b<W.heap.size→w1.frozen? ⟨b,o,none⟩=W.frozen? ⟨b,o,none⟩):=
 ⟨fun b o h=>hb.cell (p:=⟨b,o,none⟩) h,fun b o h=>hb.frozen (p:=⟨b,o,none⟩) h⟩
theorem aB.two {w:World} {g:Nat} {t:TypeId} {u v:Value} (h:aB w g t #[u,v]) :
 w.cell? ⟨g,0,none⟩=some u∧w.cell? ⟨g,1,none⟩=some v∧w.frozen? ⟨g,0,none⟩=false∧w.frozen? ⟨g,1,none⟩=false:=
 ⟨h.cell 0,h.cell 1,h.frozen 0,h.frozen 1⟩
theorem aB.first (w:World) (t:TypeId) (cs:Array Value) (o:Obj):aB ((w.alloc (.cells cs t)).alloc o) w.heap.size t cs:=(aB.new w t cs).alloc o
theorem aB.new1 (w:World) (o:Obj) (t:TypeId) (cs:Array Value):aB ((w.alloc o).alloc (.cells cs t)) (w.heap.size+1) t cs:=by
 have h:=aB.new (w.alloc o) t cs;rwa [World.size_alloc] at h
theorem aB.newAt {w:World} {g:Nat} {t:TypeId} {cs:Array Value} (h:g=w.heap.size):aB (w.alloc (.cells cs t)) g t cs:=by subst h;exact aB.new w t cs
theorem aB.set2 {w:World} {g:Nat} {t:TypeId} {x y:Value} (h:aB w g t #[x,y]) (u v:Value):aB ((w.setCell ⟨g,0,none⟩ u).setCell ⟨g,1,none⟩ v) g t #[u,v]:=(h.uj 0 u).uj 1 v
theorem Mg {w:World} (g n dCap c:Nat) (A:Option Addr) (xs:List Nat) (hrow:Row w g n []) (hx:aA w A xs) :
 ∃w',(Builtin.copy_ #[22,22] 3 #[.slice (some ⟨g,0,none⟩) n dCap,.slice A xs.length c]).run prog w= .ok (goInt (xs.take n).length) w'∧
  Row w' g n (xs.take n)∧w.grownBy w' (some g)∧w'.heap.size=w.heap.size:=by
 have hsz:(prog.info? 25).map (·.size)=some 1:=kr;by_cases h0:(xs.take n).length=0
 · have hrun:=run_copy_none (P:=prog) w 22 22 3 25 (some ⟨g,0,none⟩) A n dCap xs.length c u22 hsz (by rw[List.length_take] at h0;rw[Nat.min_comm] at h0;exact h0);have hk:xs.take n= []:=List.eq_nil_of_length_eq_zero h0;exact ⟨w,by rw[hrun,h0];rfl,by rw[hk];exact hrow,World.grownBy.refl w _,rfl⟩
 · have hl:(xs.take n).length=min n xs.length:=List.length_take;obtain ⟨b,off,rfl,hb,hc⟩:=hx.2 om;obtain ⟨cur,hg,hsz2,hcur⟩:=hrow.1;have hrun:=run_copy_row (P:=prog) w 22 22 3 25 g 0 n dCap ⟨b,off,none⟩ xs.length c cur _ ((xs.take n).map fun x:Nat=>Value.int .u64 (x:Int)) u22 hsz hg
    (by rw[List.length_map,hl,Nat.min_comm]) (fun j v hj=>?_) (by rw[List.length_map,hl,hsz2];omega) (fun v hv=>?_)
   · refine ⟨_,hrun.trans (by rw[List.length_map]),⟨⟨_,setRow_heap w g _ _ _ _ hg,?_,fun i hi=>?_⟩,by rw[hl];omega⟩,⟨rfl,rfl,rfl,by simp[World.setRow],fun k hk hne=>setRow_other w g k _ (fun e=>hne (by rw[e]))⟩,by simp[World.setRow]⟩
     · simp[hsz2];omega
     · simp only[List.take_zero,List.nil_append,Nat.zero_add,List.getElem?_toArray]
       by_cases hik:i<(xs.take n).length
       · rw[List.getElem?_append_left (by simpa using hik),List.getElem?_map,List.getElem?_eq_getElem hik];unfold vov nth;rw[List.getD,List.getElem?_eq_getElem hik];rfl
       · rw[List.getElem?_append_right (by simpa using hik),List.getElem?_drop];rw[List.length_map];have e2:(xs.take n).length+(i-(xs.take n).length)=i:=om;rw[e2,Array.getElem?_toList,hcur i hi];unfold vov;rw[yqk,kl _ _ om]
   · rw[List.getElem?_map,List.getElem?_take] at hj;split at hj
     · by_cases hjx:j<xs.length
       · rw[List.getElem?_eq_getElem hjx] at hj;simp only[Option.map_some,Option.some.injEq] at hj
         rw[←hj];have h2:=hc j hjx;rw[show (⟨b,off,none⟩:Addr).add j= ⟨b,off+j,none⟩ from by unfold Addr.add;split<;>simp_all,h2];simp[nth,hjx]
       · rw[List.getElem?_eq_none om] at hj;simp at hj
     · simp at hj
   · rw[List.mem_map] at hv;obtain ⟨x,_,rfl⟩:=hv;rfl
theorem Ae:∃i,prog.info? 25=some i∧i.zero=some (.int .u64 0)∧i.size=1∧i.bytes=8:=by
 obtain ⟨i,hi,h⟩:=Option.map_eq_some_iff.1 (show (prog.info? 25).map (fun i=>(i.zero,i.size,i.bytes))=some (some (.int .u64 0),1,8) from kr);simp only[Prod.mk.injEq] at h
 exact ⟨i,hi,h.1,h.2.1,h.2.2⟩
theorem Own.iG {w:World} {base n:Nat} {v:Value} {xs:List Nat} (h:w.ownsRow base 25 1 v n (xs.map fun x:Nat=>Value.int .u64 (x:Int))) (h64:∀x∈xs,x<18446744073709551616) :
 ∃A c,v= .slice A xs.length c∧Own w base A c xs:=by
 have hn:xs.length=n:=by simpa using h.1
 subst hn;rcases h.2 with ⟨rfl,hz⟩ | ⟨g,cap,cur,rfl,r⟩
 · exact ⟨none,0,by rw[hz],by rw[List.eq_nil_of_length_eq_zero hz];exact Own.nil _ _⟩
 · exact ⟨some ⟨g,0,none⟩,cap,rfl,h,h64⟩
theorem ynv {w:World} {ops:Array Oper} {rest:List Oper} {o:Oper} {a:Act} {Q:Exit→Act→World→Prop} (hgd:o.guard=none) (s x:Operand)
 (ho:o.op= .call { callee:=.builtin .append,args:=#[s,x],argTypes:=#[22,22] }) (base:Nat) (A:Option Addr) (c:Nat) (xs:List Nat) (hs:a.eval s= .slice A xs.length c)
 (hown:Own w base A c xs) (ys:List Nat) (ad:Addr) (m cc:Nat) (hx:a.eval x= .slice (some ad) m cc) (hm:ys.length=m)
 (hnews:∀j u,(ys.map fun x:Nat=>Value.int .u64 (x:Int))[j]? =some u→w.cell? (ad.add j)=some u) (h64:∀x∈ys,x<18446744073709551616) (hl:xs.length+ys.length≤17592186044416) (hbase:base≤w.heap.size)
 (h:∀A' c' w',Own w' base A' c' (xs++ys)→w.grownBy w' (Value.slice A xs.length c).ownBlock→wpList prog ops Q rest (a.put o.dst (.slice A' (xs++ys).length c')) w'):wpList prog ops Q (o::rest) a w:=by
 obtain ⟨i,hi,hz,hsz,hby⟩:=Ae;subst hm;refine wpList_append_own w hgd s x _ ho base 25 i _ 1 8 u22 hi hz hsz hby rfl de _ _ _ hs hown.1 ad ys.length cc (ys.map fun x:Nat=>Value.int .u64 (x:Int)) hx (by simp) hnews
  (fun u hu=>by rw[List.mem_map] at hu;obtain ⟨y,_,rfl⟩:=hu;rfl) (by unfold maxLen;omega) om hbase ?_
 intro v' w' hown' hg' _;rw[←List.map_append] at hown';obtain ⟨A',c',hv,ho'⟩:=Own.iG hown' (fun y hy=>by
  rcases List.mem_append.1 hy with h1 | h1
  · exact hown.2 y h1
  · exact h64 y h1)
 rw[hv];exact h A' c' w' ho' hg'
theorem Below.own {w0 w w':World} {base:Nat} {A:Option Addr} {c:Nat} {xs:List Nat} (hb:Below base w0 w) (hown:Own w base A c xs) (hbase:base≤w.heap.size) (hg:w.grownBy w' (Value.slice A xs.length c).ownBlock):Below base w0 w':=
 hb.grown hg hbase (fun k hk=>by
  match A,hown,hk with
  | some q,hown,hk=>
   exact RO
  | none,_,hk=>simp[Value.ownBlock] at hk)
theorem Own.cut {w:World} {base:Nat} {A:Option Addr} {c:Nat} {xs:List Nat} (h:Own w base A c xs) (hc:xs≠ []) {k:Nat} (hk:k≤xs.length):Own w base A c (xs.take k):=by
 exact ap1
def av:Nat:=1000000000000000000
theorem qk:2≤av:=by unfold av;omega
theorem F7:av=1000000000000000000:=rfl
@[irreducible] def limbs (i:Int):List Nat:=aS av i.natAbs
theorem qo (i:Int):limbs i=aS av i.natAbs:=by unfold limbs;rfl
theorem ydq {xs:List Nat} (h:small av xs):∀x∈xs,x<18446744073709551616:=fun x hx=>by have:=h x hx;unfold av at this;omega
theorem ztq (i:Int):small av (limbs i):=by rw[qo];exact xd qk _
def bJ (neg:Bool) (n:Nat):Int:=if neg then -(n:Int) else n
theorem vw (neg:Bool) (n:Nat):(bJ neg n).natAbs=n:=by unfold bJ;cases neg<;>simp
theorem qvq (neg:Bool) (n:Nat):decide (bJ neg n<0)=(neg&&decide (n≠0)):=by
 cases neg
 · simp[bJ]
 · simp only[bJ,if_true,Bool.true_and];by_cases h:n=0<;>simp[h];omega
def jO (W:World) (i:Int) (e:Ending) (w':World):Prop:=
 ∃A c,e= .returned (.agg #[.bool (decide (i<0)),.slice A (limbs i).length c])∧Own w' W.heap.size A c (limbs i)∧Below W.heap.size W w'
def ya (W:World) (i:Int) (f:Int) (e:Ending) (w':World):Prop:=
 ∃A c,e= .returned (.tuple #[.agg #[.bool (decide (i<0)),.slice A (limbs i).length c],.int .i64 f])∧Own w' W.heap.size A c (limbs i)∧Below W.heap.size W w'
def F8 (W:World) (b len v:Nat) (e:Ending) (w':World):Prop:=
 ∃g zs,e= .returned (.slice (some ⟨g,0,none⟩) zs.length zs.length)∧Row w' g len zs∧zs.length=len∧small b zs∧val b zs=v∧W.heap.size≤g∧Below W.heap.size W w'
theorem Row.nums {w':World} {g len:Nat} {zs:List Nat} (h:Row w' g len zs) (hz:zs.length=len) (h64:∀x∈zs,x<18446744073709551616):aA w' (some ⟨g,0,none⟩) zs:=
 ⟨ziv h64,fun _=>⟨g,0,rfl,h.lt,fun k hk=>by rw[Nat.zero_add];exact h.cell om⟩⟩
theorem qt:limbs 0= []:=by rw[qo];rfl
theorem Af {W w':World} (hb:Below W.heap.size W w'):jO W 0 (.returned (.agg #[.bool false,.slice none 0 0])) w':=
 ⟨none,0,by rw[qt];rfl,by rw[qt];exact Own.nil _ _,hb⟩
theorem qjz {W w4:World} {i f:Int} {A4:Option Addr} {c4 base g0:Nat} (hown:Own w4 base A4 c4 (limbs i)) (L:Below W.heap.size W w4) (hg:W.heap.size≤g0) (hgb:g0<base) (u v:Value) :
 ya W i f (.returned (.tuple #[.agg #[.bool (decide (i<0)),.slice A4 (limbs i).length c4],.int .i64 f])) ((w4.setCell ⟨g0,0,none⟩ u).setCell ⟨g0,1,none⟩ v):=
 ⟨A4,c4,rfl,((hown.aI hgb _).aI hgb _).mono om,(L.setCell hg _).setCell hg _⟩
theorem vav {W w4:World} {f:Int} {g0:Nat} (L:Below W.heap.size W w4) (hg:W.heap.size≤g0) (u v:Value) :
 ya W 0 f (.returned (.tuple #[.agg #[.bool false,.slice none 0 0],.int .i64 f])) ((w4.setCell ⟨g0,0,none⟩ u).setCell ⟨g0,1,none⟩ v):=
 ⟨none,0,by rw[qt];rfl,by rw[qt];exact Own.nil _ _,(L.setCell hg _).setCell hg _⟩
theorem ax3:(prog.info? 25).map (fun i=>(i.zero,i.size,i.bytes))=some (some (.int .u64 0),1,8):=kr
theorem qcx (n:Nat) (h:n≤35184372088832):∀w:World,(Instr.makeSlice 22 (.int .i64 (n:Int)) (.int .i64 (n:Int))).run prog w= .ok (.slice (some ⟨w.heap.size,0,none⟩) n n) (w.alloc (.cells (madeCells #[.int .u64 0] n) 25)):=
 fun w=>run_make_row' _ _ _ 8 u22 ax3 rfl _ _ n om om w
def Zd (xs:List Nat):Bool:=(List.range xs.length).all fun k=>decide (nth xs k<1000000000000000000)
theorem Ag {xs:List Nat} {k:Nat} (hk:k<xs.length) (h:1000000000000000000≤nth xs k):Zd xs=false:=by
 unfold Zd;rw[List.all_eq_false];exact ⟨k,by simpa using hk,by simpa using h⟩
theorem vnz {xs:List Nat} (h:∀k,k<xs.length→nth xs k<1000000000000000000):Zd xs=true:=by
 unfold Zd;rw[List.all_eq_true];intro k hk;simpa using h k (by simpa using hk)
def zm (neg:Bool) (xs:List Nat):Bool:=
 if xs.length=0 then !neg else if 30<xs.length then false else if nth xs (xs.length-1)=0 then false else Zd xs
section
variable (neg:Bool) (c:Nat) (w:World)
theorem RY (A:Option Addr) :
 Calls prog 66 #[.agg #[.bool neg,.slice A 0 c]] w fun e w'=>e= .returned (.bool !neg)∧Below w.heap.size w w':=by
 go_enter func66,ntmps66
 go_wp2
 go_ret
 exact ⟨rfl,(Below.refl _ _).alloc (Nat.le_refl _) _⟩
theorem Mh (A:Option Addr) (n:Nat) (hn:30<n) (hm:n≤9223372036854775807) :
 Calls prog 66 #[.agg #[.bool neg,.slice A n c]] w fun e w'=>e= .returned (.bool false)∧Below w.heap.size w w':=by
 go_enter func66,ntmps66
 go_wp2
 go_ret
 exact ⟨rfl,(Below.refl _ _).alloc (Nat.le_refl _) _⟩
theorem Mi (b o:Nat) (n:Nat) (h0:0<n) (hn:n≤30) (hb:b<w.heap.size) (hc:w.cell? ⟨b,o+(n-1),none⟩=some (.int .u64 0)) :
 Calls prog 66 #[.agg #[.bool neg,.slice (some ⟨b,o,none⟩) n c]] w fun e w'=>e= .returned (.bool false)∧Below w.heap.size w w':=by
 go_enter func66,ntmps66
 go_wp2
 go_ret
 exact ⟨rfl,(Below.refl _ _).alloc (Nat.le_refl _) _⟩
set_option maxHeartbeats 400000 in
theorem Mj (b o:Nat) (xs:List Nat) (h0:0<xs.length) (hn:xs.length≤30) (hb:b<w.heap.size)
 (hc:∀k,k<xs.length→w.cell? ⟨b,o+k,none⟩=some (.int .u64 (nth xs k))) (hl:nth xs (xs.length-1)≠0) :
 Calls prog 66 #[.agg #[.bool neg,.slice (some ⟨b,o,none⟩) xs.length c]] w fun e w'=>e= .returned (.bool (Zd xs))∧Below w.heap.size w w':=by
 have hc1:=hc (xs.length-1) om;have hl0:(nth xs (xs.length-1)==0)=false:=by simpa using hl
 have hl1:((xs.length:Int)==0)=false:=beq_eq_false_iff_ne.2 om;go_enter func66,ntmps66
 go_wp2
 go_loop [25] (fun i=>∃k:Nat,k≤xs.length∧i= .int .i64 k∧ ∀j,j<k→nth xs j<1000000000000000000) (fun i=>xs.length-(intOf i).toNat)
 case atStart=>exact ⟨0,Nat.zero_le _,rfl,fun j hj=>absurd hj om⟩
 case round=>
  obtain ⟨k,hk,rfl,hlt⟩:=hrel;have HL:=Lib.hid hlt;clear hlt;have hcell:k<xs.length→w.cell? ⟨b,o+k,none⟩=some (.int .u64 (nth xs k)):=hc k;clear hc hc1;go_wp2
  · go_ret
    exact ⟨zsv (Ag (by assumption) (by assumption)).symm,(Below.refl _ _).alloc (Nat.le_refl _) _⟩
  · have h1:k<xs.length:=by assumption
    have h2:nth xs k<1000000000000000000:=by assumption
    go_round
    case rel=>exact ⟨k+1,om,by go_num,fun j hj=>by
     by_cases hjk:j=k
     · rw[hjk];exact h2
     · exact HL.out j om⟩
    case measure=>simp[intOf];omega
  · have h1:¬k<xs.length:=by assumption
    go_ret
    exact ⟨zsv (vnz fun j hj=>HL.out j om).symm,(Below.refl _ _).alloc (Nat.le_refl _) _⟩
theorem yf (A:Option Addr) (xs:List Nat) (hm:xs.length≤9223372036854775807) (hx:aA w A xs) :
 Calls prog 66 #[.agg #[.bool neg,.slice A xs.length c]] w fun e w'=>e= .returned (.bool (zm neg xs))∧Below w.heap.size w w':=by
 unfold zm;by_cases h0:xs.length=0
 · rw[if_pos h0,h0];exact RY neg c w A
 rw[if_neg h0];by_cases h1:30<xs.length
 · rw[if_pos h1];exact Mh neg c w A _ h1 hm
 rw[if_neg h1];obtain ⟨b,o,rfl,hb,hc⟩:=hx.2 om;by_cases h2:nth xs (xs.length-1)=0
 · rw[if_pos h2];exact Mi neg c w b o _ om om hb (by rw[hc _ om,h2])
 rw[if_neg h2];exact Mj neg c w b o xs om om hb hc h2
end
section
variable (neg:Bool) (c:Nat) (w:World)
theorem Mk (A:Option Addr) :
 Calls prog 42 #[.agg #[.bool neg,.slice A 0 c]] w fun e w'=>e= .returned (.bool !neg)∧Below w.heap.size w w':=by
 go_enter func42,ntmps42
 go_wp2
 go_ret
 exact ⟨rfl,(Below.refl _ _).alloc (Nat.le_refl _) _⟩
theorem F9 (A:Option Addr) (n:Nat) (hn:30<n) (hm:n≤9223372036854775807) :
 Calls prog 42 #[.agg #[.bool neg,.slice A n c]] w fun e w'=>e= .returned (.bool false)∧Below w.heap.size w w':=by
 go_enter func42,ntmps42
 go_wp2
 go_ret
 exact ⟨rfl,(Below.refl _ _).alloc (Nat.le_refl _) _⟩
set_option maxHeartbeats 400000 in
theorem Ga (b o:Nat) (xs:List Nat) (h0:0<xs.length) (hn:xs.length≤30) (hb:b<w.heap.size)
 (hc:∀k,k<xs.length→w.cell? ⟨b,o+k,none⟩=some (.int .u64 (nth xs k))) :
 Calls prog 42 #[.agg #[.bool neg,.slice (some ⟨b,o,none⟩) xs.length c]] w fun e w'=>e= .returned (.bool (if nth xs (xs.length-1)=0 then false else Zd xs))∧Below w.heap.size w w':=by
 have hc1:=hc (xs.length-1) om;have hl1:((xs.length:Int)==0)=false:=beq_eq_false_iff_ne.2 om;obtain ⟨last,hlast⟩:∃v,v=nth xs (xs.length-1):=⟨_,rfl⟩;rw[←hlast] at hc1;rw[show (if nth xs (xs.length-1)=0 then false else Zd xs)=(last !=0&&Zd xs) from by rw[←hlast];by_cases h:last=0<;>simp[h]];go_enter func42,ntmps42
 go_wp2
 go_loop [4] (fun i=>∃k:Nat,k≤xs.length∧i= .int .i64 k∧ ∀j,j<k→nth xs j<1000000000000000000) (fun i=>xs.length-(intOf i).toNat)
 case atStart=>exact ⟨0,Nat.zero_le _,rfl,fun j hj=>absurd hj om⟩
 case round=>
  obtain ⟨k,hk,rfl,hlt⟩:=hrel;have HL:=Lib.hid hlt;clear hlt;have hcell:k<xs.length→w.cell? ⟨b,o+k,none⟩=some (.int .u64 (nth xs k)):=hc k;clear hc hlast;go_wp2
  · go_ret
    exact ⟨zsv (by rw[Ag (by assumption) (by assumption),Bool.and_false]),(Below.refl _ _).alloc (Nat.le_refl _) _⟩
  · have h1:k<xs.length:=by assumption
    have h2:nth xs k<1000000000000000000:=by assumption
    go_round
    case rel=>exact ⟨k+1,om,by go_num,fun j hj=>by
     by_cases hjk:j=k
     · rw[hjk];exact h2
     · exact HL.out j om⟩
    case measure=>simp[intOf];omega
  · have h1:¬k<xs.length:=by assumption
    go_ret
    exact ⟨zsv (by rw[vnz fun j hj=>HL.out j om,Bool.and_true]),(Below.refl _ _).alloc (Nat.le_refl _) _⟩
theorem vhk (A:Option Addr) (xs:List Nat) (hm:xs.length≤9223372036854775807) (hx:aA w A xs) :
 Calls prog 42 #[.agg #[.bool neg,.slice A xs.length c]] w fun e w'=>e= .returned (.bool (zm neg xs))∧Below w.heap.size w w':=by
 unfold zm;by_cases h0:xs.length=0
 · rw[if_pos h0,h0];exact Mk neg c w A
 rw[if_neg h0];by_cases h1:30<xs.length
 · rw[if_pos h1];exact F9 neg c w A _ h1 hm
 rw[if_neg h1];obtain ⟨b,o,rfl,hb,hc⟩:=hx.2 om;exact Ga neg c w b o xs om om hb hc
end
set_option maxRecDepth 100000 in
set_option maxHeartbeats 400000 in
theorem oh (neg:Bool) (A:Option Addr) (c:Nat) (xs:List Nat) (w:World) (hx:aA w A xs) (hs:small av xs) (hl:xs.length≤1048576) :
 Calls prog 97 #[.bool neg,.slice A xs.length c] w (jO w (bJ neg (val av xs))):=by
 go_enter func97,ntmps97
 go_wp2
 go_loop [5] (fun v=>∃k:Nat,k≤xs.length∧v= .int .i64 k∧ ∀j,k≤j→nth xs j=0) (fun v=>(intOf v).toNat)
 case atStart=>exact ⟨xs.length,Nat.le_refl _,rfl,fun j hj=>kl xs j hj⟩
 case round=>
  obtain ⟨k,hk,rfl,hz⟩:=hrel;have HZ:=Lib.hid hz;clear hz;by_cases hk0:k=0
  · subst hk0;go_wp2
    refine bodyPost_ret (v:=.agg #[.bool false,.slice none 0 0]) (by simp[results,Tryz.results97,go_sem]) rfl ?_;have hv:bJ neg (val av xs)=0:=by
     have h1:=jg (b:=av) xs 0 (fun j _ _=>by have:=HZ.out j om;unfold nth at this;omega);rw[←h1];cases neg<;>rfl
    rw[hv];exact Af ((Below.refl _ _).alloc (Nat.le_refl _) _)
  · obtain ⟨m,rfl⟩:∃m,k=m+1:=⟨k-1,om⟩;obtain ⟨b,o,rfl,hb,hc⟩:=hx.2 om;have hcell:=hc m om;have hmk:=qcx (m+1) om;rw[show ((m+1:Nat):Int)=(m:Int)+1 from om] at hmk;obtain ⟨w1,hcp,aL6,hg1,hz1⟩:=Mg (w:=(w.alloc (.cells #[.bool false,.slice none 0 0] 24)).alloc (.cells (madeCells #[.int .u64 0] (m+1)) 25)) (w.heap.size+1) (m+1) (m+1) c (some ⟨b,o,none⟩) xs
     (by have:=Row.made (w.alloc (.cells #[.bool false,.slice none 0 0] 24)) (m+1);simpa using this) ((hx.alloc _).alloc _)
    have hN:w1.heap[w.heap.size]? =some (.cells #[.bool false,.slice none 0 0] 24 (0,0)):=by
     rw[hg1.block _ (by simp;omega) (by simp),Below.heap_alloc _ _ _ (by simp)];exact heap_alloc_new _ _
    have hc0:=cell_of_row w1 _ 0 _ _ _ hN;have hc1:=cell_of_row w1 _ 1 _ _ _ hN;have hf0:w1.frozen? ⟨w.heap.size,0,none⟩=false:=by simp[World.frozen?,hN]
    have hf1:w1.frozen? ⟨w.heap.size,1,none⟩=false:=by simp[World.frozen?,hN]
    have HN:=Lib.hid hN;simp at hc0 hc1
    simp only[World.size_alloc] at hz1
    clear hN;go_wp2
    · have h0:(nth xs m==0)=true:=by assumption
      go_round
      case rel=>exact ⟨m,om,rfl,fun j hj=>by
       by_cases e:j=m
       · rw[e];exact beq_iff_eq.1 h0
       · exact HZ.out j om⟩
      case measure=>simp[intOf]
    · have hne:(nth xs m==0)=false:=by assumption
      have hlast:xs.getD m 0≠0:=by
       have:=beq_eq_false_iff_ne.1 hne;unfold nth at this;omega
      have hst:xs.take (m+1)=aS av (val av xs):=
       Ab qk hs hk (fun j hj _=>by have:=HZ.out j om;unfold nth at this;omega) (fun _=>hlast)
      have hlim:limbs (bJ neg (val av xs))=xs.take (m+1):=by rw[qo,vw,hst]
      have hlen:(xs.take (m+1)).length=m+1:=by rw[List.length_take];omega
      have hv0:val av xs≠0:=fun e=>by rw[e,ymq] at hst;rw[hst] at hlen;simp at hlen
      have hneg:decide (bJ neg (val av xs)<0)=neg:=by rw[qvq];simp[hv0]
      refine bodyPost_ret (v:=.agg #[.bool neg,.slice (some ⟨w.heap.size+1,0,none⟩) (m+1) (m+1)]) (by simp[results,Tryz.results97,go_sem,hc0,hc1]) rfl ?_;refine ⟨some ⟨w.heap.size+1,0,none⟩,m+1,by rw[hlim,hneg,hlen],?_,?_⟩
      · rw[hlim];exact (Own.vJ (base:=w.heap.size) aL6 om (by unfold maxLen;omega) om (fun _ _=>rfl) (ydq (gm hs _))).setCell (by rintro q ⟨⟩;simp) _ |>.setCell (by rintro q ⟨⟩;simp) _
      · exact ((((Below.refl _ _).alloc (Nat.le_refl _) _).alloc (by simp) _).grown hg1 (by simp;omega) (by rintro k ⟨⟩;omega)).setCell (by simp) _ |>.setCell (by simp) _
theorem jP {P:Prop} (h:P:=by
 simp[IntKind.wrap,IntKind.signed,IntKind.bits];omega):P:=h
set_option maxRecDepth 100000 in
set_option maxHeartbeats 400000 in
theorem vak (neg:Bool) (A:Option Addr) (c:Nat) (xs:List Nat) (w:World) (hx:aA w A xs) (hs:small av xs) (hl:xs.length≤1048576) (hf:val av xs<av^30) :
 Calls prog 147 #[.bool neg,.slice A xs.length c] w (ya w (bJ neg (val av xs)) 0):=by
 have hlen:(limbs (bJ neg (val av xs))).length≤30:=by rw[qo,vw];exact (zz qk _ _).2 hf
 obtain ⟨i,hi⟩:∃i,i=bJ neg (val av xs):=⟨_,rfl⟩;rw[←hi] at hlen ⊢;have HI:=Lib.hid hi;clear hi;go_enter func147,ntmps147
 go_wp2_with fail
 refine (oh neg A c xs _ (hx.alloc _) hs hl).mono ?_;rintro e w1 ⟨A1,c1,rfl,hown,hbel⟩;rw[←HI.out] at hown ⊢;have hz:w.heap.size<w1.heap.size:=by have:=hbel.size;simp at this;omega
 obtain ⟨hc,hf⟩:=JQ hbel;simp only[World.size_alloc] at hc hf
 go_wp2
 refine bodyPost_ret (v:=.tuple #[.agg #[.bool (decide (i<0)),.slice A1 (limbs i).length c1],.int .i64 0]) (by simp[results,Tryz.results147,go_sem,hc,hz]) rfl ?_;simp only[World.size_alloc] at hown hbel
 exact ⟨A1,c1,rfl,(((hown.aI (by simp) _).aI (by simp) _).alloc _).mono (by simp),(((((Below.refl _ _).alloc (Nat.le_refl _) _).trans (hbel.mono (by simp))).setCell (by simp) _).setCell (by simp) _).alloc (by simp;omega) _⟩
set_option maxRecDepth 100000 in
set_option maxHeartbeats 400000 in
theorem JR (neg:Bool) (A:Option Addr) (c:Nat) (xs:List Nat) (w:World) (hx:aA w A xs) (hs:small av xs) (hl:xs.length≤1048576) (hf:av^30≤val av xs) :
 Calls prog 147 #[.bool neg,.slice A xs.length c] w (ya w 0 7):=by
 have hlen:30<(limbs (bJ neg (val av xs))).length:=by
  rw[qo,vw];rcases Nat.lt_or_ge 30 (aS av (val av xs)).length with h | h
  · exact h
  · have:=(zz qk _ _).1 h;omega
 have hlen:(30:Int)<((limbs (bJ neg (val av xs))).length:Int):=om;obtain ⟨i,hi⟩:∃i,i=bJ neg (val av xs):=⟨_,rfl⟩;rw[←hi] at hlen;have HI:=Lib.hid hi;clear hi;go_enter func147,ntmps147
 go_wp2_with fail
 refine (oh neg A c xs _ (hx.alloc _) hs hl).mono ?_;rintro e w1 ⟨A1,c1,rfl,hown,hbel⟩;rw[←HI.out] at hown ⊢;have hz:w.heap.size<w1.heap.size:=by have:=hbel.size;simp at this;omega
 obtain ⟨hc,hf⟩:=JQ hbel;simp only[World.size_alloc] at hc hf
 go_wp2
 refine bodyPost_ret (v:=.tuple #[.agg #[.bool false,.slice none 0 0],.int .i64 7]) (by simp[results,Tryz.results147,go_sem,hc,hz]) rfl ?_;simp only[World.size_alloc] at hbel
 exact ⟨none,0,by rw[qt];rfl,by rw[qt];exact Own.nil _ _,(((((Below.refl _ _).alloc (Nat.le_refl _) _).trans (hbel.mono (by simp))).setCell (by simp) _).setCell (by simp) _).alloc (by simp;omega) _⟩
theorem RZ (w:World) (o:Obj) (x y:Nat) (hx:x<18446744073709551616) (hy:y<18446744073709551616) :
 aA ((w.alloc o).alloc (.cells #[.int .u64 (x:Int),.int .u64 (y:Int)] 25)) (some ⟨w.heap.size+1,0,none⟩) [x,y]:=by
 have h:=cell_of_row ((w.alloc o).alloc (.cells #[.int .u64 (x:Int),.int .u64 (y:Int)] 25)) (w.heap.size+1);refine ⟨ziv (by simp;omega),fun _=>⟨w.heap.size+1,0,rfl,by simp,fun k hk=>?_⟩⟩;have hh:((w.alloc o).alloc (.cells #[.int .u64 (x:Int),.int .u64 (y:Int)] 25)).heap[w.heap.size+1]? =some (.cells #[.int .u64 (x:Int),.int .u64 (y:Int)] 25 (0,0)):=by
  have:=heap_alloc_new (w.alloc o) (.cells #[.int .u64 (x:Int),.int .u64 (y:Int)] 25);simpa using this
 rw[h (0+k) _ _ _ hh];match k,hk with
 | 0,_=>simp[nth]
 | 1,_=>simp[nth]
 | k+2,hk=>simp only[List.length_cons,List.length_nil] at hk;omega
theorem Sb (n:Int) (m:Nat) (h0:-9223372036854775808≤n) (hn:n<0) (hm:m=n.natAbs):IntKind.u64.wrap (-IntKind.u64.wrap n)=(m:Int):=by
 exact jP
theorem Sc (n:Int) (m:Nat) (h1:n≤9223372036854775807) (hn:0≤n) (hm:m=n.natAbs):IntKind.u64.wrap n=(m:Int):=by
 exact jP
theorem ax4 (n:Int) (m:Nat) (hm:m=n.natAbs):bJ (decide (n<0)) (val av [m%1000000000000000000,m/1000000000000000000])=n:=by
 have e:val av [m%1000000000000000000,m/1000000000000000000]=m:=by simp only[val,Nat.mul_zero,Nat.add_zero];unfold av;omega
 rw[e];unfold bJ;by_cases h:n<0
 · simp[h];omega
 · simp[h];omega
theorem Sd (m:Nat) (hm:m≤9223372036854775808):small av [m%1000000000000000000,m/1000000000000000000]:=by
 intro x hx;simp at hx
 unfold av;omega
set_option maxRecDepth 100000 in
set_option maxHeartbeats 400000 in
theorem yqz (n:Int) (w:World) (h0:-9223372036854775808≤n) (h1:n≤9223372036854775807) :
 Calls prog 72 #[.int .i64 n] w (jO w n):=by
 obtain ⟨m,hm⟩:∃m,m=n.natAbs:=⟨_,rfl⟩;have hmb:m≤9223372036854775808:=om;have hval:=ax4 n m hm;have JU:=fun (o:Obj)=>RZ w o (m%1000000000000000000) (m/1000000000000000000) om om;have hsm:=Sd m hmb;by_cases hn:n<0
 · have hwr:=Sb n m h0 hn hm;simp only[hn,decide_true] at hval
   have HV:=Lib.hid hval;have HS:=Lib.hid hsm;have HN:=Lib.hid JU;clear hval hsm JU hm;go_enter func72,ntmps72
   go_wp2_with fail
   refine (oh true _ 2 [m%1000000000000000000,m/1000000000000000000] _ (HN.out _) HS.out (by simp)).mono ?_;rintro e w1 ⟨A1,c1,rfl,hown,hbel⟩;rw[HV.out] at hown ⊢;simp only[World.size_alloc] at hown
   have hz:w.heap.size<w1.heap.size:=by have:=hbel.size;simp at this;omega
   obtain ⟨c0,c1',f0,f1⟩:=((aB.first w 24 #[.bool false,.slice none 0 0] _).below hbel (by simp;omega)).two;go_wp2
   refine bodyPost_ret (v:=.agg #[.bool true,.slice A1 (limbs n).length c1]) (by simp[results,Tryz.results72,go_sem,c0,c1']) rfl ?_;exact ⟨A1,c1,by rw[decide_eq_true hn],((hown.aI (by simp;omega) _).aI (by simp;omega) _).mono om,((((Below.refl _ _).alloc (Nat.le_refl _) _).alloc (by simp) _).trans (hbel.mono (by simp;omega))).setCell (by simp) _ |>.setCell (by simp) _⟩
 · have hwr:=Sc n m h1 om hm;simp only[hn,decide_false] at hval
   have HV:=Lib.hid hval;have HS:=Lib.hid hsm;have HN:=Lib.hid JU;clear hval hsm JU hm;go_enter func72,ntmps72
   go_wp2_with fail
   refine (oh false _ 2 [m%1000000000000000000,m/1000000000000000000] _ (HN.out _) HS.out (by simp)).mono ?_;rintro e w1 ⟨A1,c1,rfl,hown,hbel⟩;rw[HV.out] at hown ⊢;simp only[World.size_alloc] at hown
   have hz:w.heap.size<w1.heap.size:=by have:=hbel.size;simp at this;omega
   obtain ⟨c0,c1',f0,f1⟩:=((aB.first w 24 #[.bool false,.slice none 0 0] _).below hbel (by simp;omega)).two;go_wp2
   refine bodyPost_ret (v:=.agg #[.bool false,.slice A1 (limbs n).length c1]) (by simp[results,Tryz.results72,go_sem,c0,c1'];omega) rfl ?_;exact ⟨A1,c1,by rw[decide_eq_false om],((hown.aI (by simp;omega) _).aI (by simp;omega) _).mono om,((((Below.refl _ _).alloc (Nat.le_refl _) _).alloc (by simp) _).trans (hbel.mono (by simp;omega))).setCell (by simp) _ |>.setCell (by simp) _⟩
theorem ap2 {P:Prop} (h:P:=by
 have:xs=ys:=by
  apply List.ext_getElem h
  intro j h1 h2;have:=(yqv _ _ _ _).1 (hd j (Nat.zero_le _));simpa [List.getD,List.getElem?_eq_getElem h1,List.getElem?_eq_getElem h2] using this
 subst this;simp[xz]):P:=h
theorem jQ {xs ys:List Nat} (hs:small av xs) (hm:oj ys) (h:xs.length<ys.length):xz (val av xs) (val av ys)= -1∧xz (val av ys) (val av xs)=1:=by
 have:=xi qk hs hm h;unfold xz;exact ⟨if_pos this,by rw[if_neg om,if_pos this]⟩
theorem jR (xs ys:List Nat) (j k:Nat):nth xs j<nth ys k↔xs.getD j 0<ys.getD k 0:=by unfold nth;omega
theorem yqv (xs ys:List Nat) (j k:Nat):nth xs j=nth ys k↔xs.getD j 0=ys.getD k 0:=by unfold nth;omega
theorem qO {xs ys:List Nat} (hs:small av xs) (h:xs.length=ys.length) {k:Nat} (hk:k<xs.length) (hd:∀j,k+1≤j→nth xs j=nth ys j) (hlt:nth xs k<nth ys k) :
 xz (val av xs) (val av ys)= -1∧xz (val av ys) (val av xs)=1:=by
 have:=yuz hs h hk (fun j hj _=>(yqv _ _ _ _).1 (hd j hj)) ((jR _ _ _ _).1 hlt);unfold xz;exact ⟨if_pos this,by rw[if_neg om,if_pos this]⟩
theorem Sg {xs ys:List Nat} (h:xs.length=ys.length) (hd:∀j,0≤j→nth xs j=nth ys j):xz (val av xs) (val av ys)=0:=by
 exact ap2
set_option maxRecDepth 100000 in
set_option maxHeartbeats 400000 in
theorem qvz (A B:Option Addr) (c d:Nat) (xs ys:List Nat) (w:World) (hx:aA w A xs) (hy:aA w B ys) (hs:small av xs) (ht:small av ys) (hn:oj xs) (hm:oj ys)
 (hl:xs.length≤1048576) (hl':ys.length≤1048576) :
 Calls prog 86 #[.slice A xs.length c,.slice B ys.length d] w fun e w'=>e= .returned (.int .i64 (xz (val av xs) (val av ys)))∧ ∃n,w'=w.drewN n:=by
 by_cases hlen:xs.length=ys.length
 · have hne:((xs.length:Int) !=(ys.length:Int))=false:=by simp[hlen]
   have HL:=Lib.hid hlen;clear hlen;go_enter func86,ntmps86
   go_wp2
   go_loopw [5] (fun v wr=>∃k:Nat,k≤xs.length∧v= .int .i64 ((k:Int)-1)∧(∀j,k≤j→nth xs j=nth ys j)∧ ∃n,wr=w.drewN n) (fun v _=>(intOf v+1).toNat)
   case atStart=>exact ⟨xs.length,Nat.le_refl _,rfl,fun j hj=>by rw[kl xs j hj,kl ys j (by rw[←HL.out];exact hj)],0,rfl⟩
   case round=>
    obtain ⟨k,hk,rfl,hz,n,rfl⟩:=hrel;have HZ:=Lib.hid hz;clear hz;by_cases hk0:k=0
    · subst hk0;go_wp2
      go_ret
      exact ⟨kz (Sg HL.out HZ.out).symm,n,rfl⟩
    · obtain ⟨m,rfl⟩:∃m,k=m+1:=⟨k-1,om⟩;obtain ⟨b,o,rfl,hb,hc⟩:=hx.2 om;obtain ⟨b',o',rfl,hb',hc'⟩:=hy.2 (by rw[←HL.out];omega);have hcell:=hc m om;have hcell':=hc' m (by rw[←HL.out];omega);have hm1:(m:Int)<(xs.length:Int):=om;have hm2:(m:Int)<(ys.length:Int):=by have:=HL.out;omega
      have hm0:(0:Int)≤(m:Int):=om;clear hc hc';rcases Int.lt_trichotomy (nth xs m) (nth ys m) with h | h | h
      · have hne:(nth xs m !=nth ys m)=true:=by simp;omega
        have hdl:decide (nth xs m<nth ys m)=true:=by simpa using h
        have H:=Lib.hid h;clear h;go_wp2
        go_quiet (fail)
        go_wp2
        go_quiet (fail)
        go_wp2
        go_ret
        exact ⟨kz (qO hs HL.out om HZ.out H.out).1.symm,_,by simp only[World.drewN_drewN];rfl⟩
      · have hne:(nth xs m !=nth ys m)=false:=by simp[h]
        have H:=Lib.hid h;clear h;go_wp2
        go_quiet (fail)
        go_wp2
        go_roundw
        case rel=>exact ⟨m,om,rfl,fun j hj=>by
         by_cases e:j=m
         · rw[e];exact H.out
         · exact HZ.out j om,_,by first | rfl | (simp only[World.drewN_drewN];rfl)⟩
        case measure=>simp[intOf]
      · have hne:(nth xs m !=nth ys m)=true:=by simp;omega
        have hdl:decide (nth xs m<nth ys m)=false:=by simp;omega
        have H:=Lib.hid h;clear h;go_wp2
        go_quiet (fail)
        go_wp2
        go_quiet (fail)
        go_wp2
        go_ret
        exact ⟨kz (qO ht HL.out.symm (by have:=HL.out;omega) (fun j hj=>(HZ.out j hj).symm) H.out).2.symm,_,by simp only[World.drewN_drewN];rfl⟩
 · rcases Nat.lt_or_ge xs.length ys.length with h | h
   · have hne:((xs.length:Int) !=(ys.length:Int))=true:=by simp;omega
     have hlt:(xs.length:Int)<(ys.length:Int):=om;go_enter func86,ntmps86
     go_wp2
     go_ret
     exact ⟨kz (jQ hs hm h).1.symm,0,rfl⟩
   · have hne:((xs.length:Int) !=(ys.length:Int))=true:=by simp;omega
     have hlt:¬(xs.length:Int)<(ys.length:Int):=om;go_enter func86,ntmps86
     go_wp2
     go_ret
     exact ⟨kz (jQ ht hn om).2.symm,0,rfl⟩
theorem Si {P:Prop} (h:P:=by
 exact ⟨kz HV.out.symm,((Below.refl _ _).alloc (Nat.le_refl _) _).trans (hb1.mono (by simp))⟩):P:=h
@[irreducible] def num (neg:Bool) (xs:List Nat):Int:=bJ neg (val av xs)
theorem kk (neg:Bool) (xs:List Nat):num neg xs=bJ neg (val av xs):=by unfold num;rfl
theorem ym {neg:Bool} {xs:List Nat} (h:zm neg xs=true):small av xs∧oj xs∧xs.length≤30∧(xs.length=0→neg=false):=by
 unfold zm at h;by_cases h0:xs.length=0
 · rw[if_pos h0] at h;obtain rfl:=List.eq_nil_of_length_eq_zero h0;exact ⟨ke,Or.inl rfl,by simp,fun _=>by simpa using h⟩
 rw[if_neg h0] at h;by_cases h1:30<xs.length
 · rw[if_pos h1] at h;cases h
 rw[if_neg h1] at h;by_cases h2:nth xs (xs.length-1)=0
 · rw[if_pos h2] at h;cases h
 rw[if_neg h2] at h;refine ⟨oU fun k hk=>?_,Or.inr fun e=>h2 (by unfold nth;rw[e];rfl),om,fun e=>absurd e h0⟩;unfold Zd at h;rw[List.all_eq_true] at h;have:=h k (by simpa using hk);unfold nth at this;simp only[decide_eq_true_eq] at this
 unfold av;omega
theorem oV {neg:Bool} {xs:List Nat} (hs:small av xs) (hn:oj xs) (hl:xs.length≤30) (h0:xs.length=0→neg=false):zm neg xs=true:=by
 unfold zm;by_cases h:xs.length=0
 · rw[if_pos h,h0 h];rfl
 rw[if_neg h,if_neg om];rcases hn with hn | hn
 · exact absurd hn h
 rw[if_neg (by unfold nth;omega)];exact vnz fun k _=>qr (by unfold av;omega) hs k
theorem xy (neg:Bool) (xs:List Nat):(num neg xs).natAbs=val av xs:=by rw[kk,vw]
theorem Ml {neg:Bool} {xs:List Nat} (h:zm neg xs=true):limbs (num neg xs)=xs:=by
 obtain ⟨hs,hn,_,_⟩:=ym h;rw[qo,xy,←vH qk hs hn]
theorem yox {neg:Bool} {xs:List Nat} (h:zm neg xs=true):val av xs=0↔xs.length=0:=by
 obtain ⟨_,hn,_,_⟩:=ym h;constructor
 · intro hv;rcases Nat.eq_zero_or_pos xs.length with h0 | h0
   · exact h0
   · exact absurd hv (ziz qk hn om)
 · intro h0;rw[List.eq_nil_of_length_eq_zero h0];rfl
theorem vux {neg:Bool} {xs:List Nat} (h:zm neg xs=true):decide (num neg xs<0)=neg:=by
 rw[kk,qvq];by_cases h0:xs.length=0
 · rw[(ym h).2.2.2 h0];rfl
 · simp[mt (yox h).1 h0]
theorem vK {neg:Bool} {xs:List Nat} (h:zm neg xs=true):(num neg xs).natAbs<av^30:=by
 obtain ⟨hs,_,hl,_⟩:=ym h;rw[xy];exact Nat.lt_of_lt_of_le (kp hs) (Nat.pow_le_pow_right (by unfold av;omega) hl)
theorem vh {i:Int} (h:i.natAbs<av^30):zm (decide (i<0)) (limbs i)=true:=by
 rw[qo];refine oV (xd qk _) (zbv qk _) ((zz qk _ _).2 h) fun h0=>?_;have hz:i.natAbs=0:=by
  rcases Nat.eq_zero_or_pos i.natAbs with h1 | h1
  · exact h1
  · have:=RL qk (n:=i.natAbs) om;omega
 simp;omega
theorem jr (i:Int):num (decide (i<0)) (limbs i)=i:=by
 rw[kk,qo,kx qk];unfold bJ;by_cases h:i<0<;>simp[h]<;>omega
def jS (i j:Int):Int:=if i<j then -1 else if j<i then 1 else 0
section
variable (A:Option Addr) (c:Nat) (xs:List Nat) (w:World)
theorem Sj (neg:Bool) (hx:aA w A xs) (hl:xs.length≤9223372036854775807) (hg:zm neg xs=false) :
 Calls prog 70 #[.agg #[.bool neg,.slice A xs.length c]] w fun e w'=>e= .returned (.int .i64 0)∧Below w.heap.size w w':=by
 go_enter func70,ntmps70
 go_wp2_with (go_at_call 66;refine (yf neg c _ A xs hl (hx.alloc _)).mono ?_;rintro e w1 ⟨rfl,hb1⟩)
 go_ret
 exact ⟨rfl,((Below.refl _ _).alloc (Nat.le_refl _) _).trans (hb1.mono (by simp))⟩
theorem Mq (neg:Bool) (hx:aA w A xs) (hg:zm neg xs=true) :
 Calls prog 70 #[.agg #[.bool neg,.slice A xs.length c]] w fun e w'=>e= .returned (.int .i64 (jS (num neg xs) 0))∧Below w.heap.size w w':=by
 have hl:=(ym hg).2.2.1;by_cases h0:xs.length=0
 · have hz:((xs.length:Int)==0)=true:=beq_iff_eq.2 om;have hv:num neg xs=0:=by have:=xy neg xs;rw[(yox hg).2 h0] at this;omega
   have HV:=Lib.hid hv;clear h0 hv;go_enter func70,ntmps70
   go_wp2_with (go_at_call 66;refine (yf neg c _ A xs om (hx.alloc _)).mono ?_;rintro e w1 ⟨rfl,hb1⟩;obtain ⟨c0,c1,f0,f1⟩:=((aB.new w 24 #[.bool neg,.slice A xs.length c]).below hb1 (by simp)).two)
   go_ret
   exact ⟨kz (by rw[HV.out];rfl),((Below.refl _ _).alloc (Nat.le_refl _) _).trans (hb1.mono (by simp))⟩
 · have hz:((xs.length:Int)==0)=false:=beq_eq_false_iff_ne.2 om;have hv:=mt (yox hg).1 h0;have hna:=xy neg xs;have hneg:=vux hg;cases neg
   · have hp:¬num false xs<0:=by simpa using hneg
     have HV:Hid (jS (num false xs) 0=1):=by show _=_;unfold jS;rw[if_neg hp,if_pos om]
     clear h0 hv hna hneg hp;go_enter func70,ntmps70
     go_wp2_with (go_at_call 66;refine (yf false c _ A xs om (hx.alloc _)).mono ?_;rintro e w1 ⟨rfl,hb1⟩;obtain ⟨c0,c1,f0,f1⟩:=((aB.new w 24 #[.bool false,.slice A xs.length c]).below hb1 (by simp)).two)
     go_ret
     exact Si
   · have hp:num true xs<0:=by simpa using hneg
     have HV:Hid (jS (num true xs) 0= -1):=by show _=_;unfold jS;rw[if_pos hp]
     clear h0 hv hna hneg hp;go_enter func70,ntmps70
     go_wp2_with (go_at_call 66;refine (yf true c _ A xs om (hx.alloc _)).mono ?_;rintro e w1 ⟨rfl,hb1⟩;obtain ⟨c0,c1,f0,f1⟩:=((aB.new w 24 #[.bool true,.slice A xs.length c]).below hb1 (by simp)).two)
     go_ret
     exact Si
set_option maxHeartbeats 400000 in
theorem Sk (neg:Bool) (hx:aA w A xs) (hg:zm neg xs=true) :
 Calls prog 48 #[.agg #[.bool neg,.slice A xs.length c]] w (jO w (- num neg xs)):=by
 obtain ⟨hs,hn,hl,h00⟩:=ym hg;have hv:bJ (!neg) (val av xs)= -num neg xs:=by rw[kk];cases neg<;>simp[bJ]
 have HV:=Lib.hid hv;clear hv h00;go_enter func48,ntmps48
 go_wp2_with (go_at_call 66;refine (yf neg c _ A xs om ((hx.alloc _).alloc _)).mono ?_;rintro e w1 ⟨rfl,hb1⟩;obtain ⟨c0,c1,f0,f1⟩:=((aB.new (w.alloc (.cells #[.bool neg,.slice A xs.length c] 24)) 24 #[.bool false,.slice none 0 0]).below hb1 (by simp)).two;simp only[World.size_alloc] at c0 c1 f0 f1;obtain ⟨d0,d1,g0,g1⟩:=((aB.first w 24 #[.bool neg,.slice A xs.length c] (.cells #[.bool false,.slice none 0 0] 24)).below hb1 (by simp;omega)).two)
 have B1:=(aB.new (w.alloc (.cells #[.bool neg,.slice A xs.length c] 24)) 24 #[.bool false,.slice none 0 0]).below hb1 (by simp);refine (oh (!neg) A c xs _ (((hx.alloc _).alloc _).below hb1 (by simp)) hs om).mono ?_;rintro e w2 ⟨A2,c2,rfl,hown,hb2⟩;rw[HV.out] at hown ⊢;simp only[World.size_alloc] at B1 hb1
 have hs1:=hb1.size;simp only[World.size_alloc] at hs1
 obtain ⟨c0,c1,f0,f1⟩:=(B1.below hb2 B1.lt).two;go_wp2
 refine bodyPost_ret (v:=.agg #[.bool (decide (-num neg xs<0)),.slice A2 (limbs (-num neg xs)).length c2]) (by simp[results,Tryz.results48,go_sem,c0,c1]) rfl ?_;exact ⟨A2,c2,rfl,((hown.aI (by simp;omega) _).aI (by simp;omega) _).mono om,((((((Below.refl _ _).alloc (Nat.le_refl _) _).alloc (by simp) _).trans (hb1.mono om)).trans (hb2.mono om)).setCell (by simp) _).setCell (by simp) _⟩
end
def aH (w:World) (A:Option Addr) (xs:List Nat):Prop:=
 (∀k,nth xs k<256)∧(0<xs.length→ ∃b o,A=some ⟨b,o,none⟩∧b<w.heap.size∧ ∀k,k<xs.length→w.cell? ⟨b,o+k,none⟩=some (.int .u8 (nth xs k)))
def vhx (ys:List Nat) (j:Nat):Value:=.int .u8 (nth ys j)
def bQ (w:World) (g n:Nat) (ys:List Nat):Prop:=w.rowIs g 5 n (vhx ys)∧ys.length≤n
section
variable {w w':World} {g n:Nat} {ys:List Nat}
theorem bQ.cell (h:bQ w g n ys) {j:Nat} (hj:j<n):w.cell? ⟨g,j,none⟩=some (.int .u8 (nth ys j)):=h.1.cell hj
theorem bQ.frozen (h:bQ w g n ys) (j:Nat):w.frozen? ⟨g,j,none⟩=false:=h.1.frozen j
theorem bQ.lt (h:bQ w g n ys):g<w.heap.size:=h.1.lt
theorem bQ.made (w:World) (n:Nat):bQ (w.alloc (.cells (madeCells #[.int .u8 0] n) 5)) w.heap.size n []:=
 ⟨(World.rowIs_made w _ n _).congr fun i _=>by unfold vhx;rw[yqk],Nat.zero_le _⟩
theorem bQ.set (h:bQ w g n ys) (i v:Nat) (hi:i<ys.length):bQ (w.setCell ⟨g,i,none⟩ (.int .u8 (v:Int))) g n (ys.set i v):=
 ⟨(h.1.set i _).congr fun j _=>by unfold vhx;rw[yez _ _ _ hi];split<;>rfl,by simpa using h.2⟩
theorem bQ.setInt (h:bQ w g n ys) (v:Int) (h0:0≤v) {i:Nat} (hi:i<ys.length):bQ (w.setCell ⟨g,i,none⟩ (.int .u8 v)) g n (ys.set i v.toNat):=by
 exact F6
theorem bQ.of_block (h:bQ w g n ys) (e:w'.heap[g]? =w.heap[g]?):bQ w' g n ys:=⟨h.1.of_block e,h.2⟩
theorem bQ.below {B:Nat} (h:bQ w g n ys) (hb:Below B w w') (hg:g<B):bQ w' g n ys:=h.of_block (hb.block g hg)
theorem bQ.fill (h:bQ w g n ys):bQ w g n (ys++List.replicate (n-ys.length) 0):=by
 refine ⟨h.1.congr fun i hi=>?_,by have:=h.2;simp;omega⟩;unfold vhx nth;exact RU
end
def aM (w:World) (base:Nat) (A:Option Addr) (c:Nat) (xs:List Nat):Prop:=
 w.ownsRow base 5 1 (.slice A xs.length c) xs.length (xs.map fun x:Nat=>Value.int .u8 (x:Int))∧ ∀x∈xs,x<256
section
variable {w w':World} {base:Nat} {A:Option Addr} {c:Nat} {xs:List Nat}
theorem Gb (h:∀x∈xs,x<256) (k:Nat):nth xs k<256:=by
 exact RQ
theorem aM.nums (h:aM w base A c xs):aH w A xs:=by
 refine ⟨Gb h.2,fun h0=>?_⟩;exact ap0
theorem aM.nil (w:World) (base:Nat):aM w base none 0 []:=⟨World.ownsRow_nil _ _ _ _,fun _ h=>by cases h⟩
theorem aM.vJ {g n:Nat} {ys:List Nat} (h:bQ w g n ys) (hb:base≤g) (hc:n≤maxLen) (hx:xs.length≤n) (he:∀j,j<xs.length→nth ys j=nth xs j) (h64:∀x∈xs,x<256):aM w base (some ⟨g,0,none⟩) n xs:=by
 obtain ⟨⟨cur,hh,hsz,hcell⟩,hle⟩:=h;refine ⟨⟨by simp,.inr ⟨g,n,cur,rfl,hb,hh,hx,hc,om,?_⟩⟩,h64⟩;apply List.ext_getElem?
 intro j;rw[List.getElem?_take];by_cases hj:j<xs.length
 · rw[if_pos om];have h1:=hcell j om;rw[Array.getElem?_toList,h1];unfold vhx;rw[he j hj];simp[nth,hj]
 · rw[if_neg om,List.getElem?_eq_none (by simpa using Nat.le_of_not_lt hj)]
theorem aM.kept {row:Option Nat} (h:aM w base A c xs) (hg:w.grownBy w' row) (hne:(Value.slice A xs.length c).ownBlock=none∨(Value.slice A xs.length c).ownBlock≠row):aM w' base A c xs:=⟨h.1.kept hg hne,h.2⟩
theorem aM.below {B:Nat} (h:aM w base A c xs) (hb:Below B w w') (hB:w.heap.size≤B):aM w' base A c xs:=
 h.kept (row:=none) ⟨hb.os,hb.tape,hb.output,hb.size,fun k hk _=>hb.block k om⟩ (by cases (Value.slice A xs.length c).ownBlock<;>simp)
theorem aM.alloc (h:aM w base A c xs) (o:Obj):aM (w.alloc o) base A c xs:=⟨h.1.alloc o,h.2⟩
theorem aM.mono {b':Nat} (h:aM w base A c xs) (hb:b'≤base):aM w b' A c xs:=by
 exact RP
theorem aM.aI (h:aM w base A c xs) {p:Addr} (hp:p.block<base) (u:Value):aM (w.setCell p u) base A c xs:=
 ⟨ownsRow_setCell_below h.1 hp u,h.2⟩
theorem aM.ge (h:aM w base A c xs):∀q,A=some q→base≤q.block∧q.block<w.heap.size:=by
 intro q hq;subst hq;exact h.1.lt q.block rfl
theorem aH.keep (h:aH w A xs) (hs:w.heap.size≤w'.heap.size) (hk:∀p:Addr,p.block<w.heap.size→w'.cell? p=w.cell? p):aH w' A xs:=
 ⟨h.1,fun h0=>by
  obtain ⟨b,o,rfl,hb,hc⟩:=h.2 h0;exact ⟨b,o,rfl,om,fun k hk'=>(hk _ hb).trans (hc k hk')⟩⟩
theorem aH.alloc (h:aH w A xs) (o:Obj):aH (w.alloc o) A xs:=h.keep (by simp) fun p hp=>World.cell?_alloc_lt w o p hp
theorem aH.below {B:Nat} (h:aH w A xs) (hb:Below B w w') (hB:w.heap.size≤B):aH w' A xs:=h.keep hb.size fun _ hp=>hb.cell om
end
theorem jT:∃i,prog.info? 5=some i∧i.zero=some (.int .u8 0)∧i.size=1∧i.bytes=1:=by
 obtain ⟨i,hi,h⟩:=Option.map_eq_some_iff.1 (show (prog.info? 5).map (fun i=>(i.zero,i.size,i.bytes))=some (some (.int .u8 0),1,1) from kr);simp only[Prod.mk.injEq] at h
 exact ⟨i,hi,h.1,h.2.1,h.2.2⟩
theorem aM.iG {w:World} {base n:Nat} {v:Value} {xs:List Nat} (h:w.ownsRow base 5 1 v n (xs.map fun x:Nat=>Value.int .u8 (x:Int))) (h64:∀x∈xs,x<256) :
 ∃A c,v= .slice A xs.length c∧aM w base A c xs:=by
 have hn:xs.length=n:=by simpa using h.1
 subst hn;rcases h.2 with ⟨rfl,hz⟩ | ⟨g,cap,cur,rfl,r⟩
 · exact ⟨none,0,by rw[hz],by rw[List.eq_nil_of_length_eq_zero hz];exact aM.nil _ _⟩
 · exact ⟨some ⟨g,0,none⟩,cap,rfl,h,h64⟩
theorem kw {w:World} {ops:Array Oper} {rest:List Oper} {o:Oper} {a:Act} {Q:Exit→Act→World→Prop} (hgd:o.guard=none) (s x:Operand)
 (ho:o.op= .call { callee:=.builtin .append,args:=#[s,x],argTypes:=#[46,46] }) (base:Nat) (A:Option Addr) (c:Nat) (xs:List Nat) (hs:a.eval s= .slice A xs.length c)
 (hown:aM w base A c xs) (ys:List Nat) (ad:Addr) (m cc:Nat) (hx:a.eval x= .slice (some ad) m cc) (hm:ys.length=m)
 (hnews:∀j u,(ys.map fun x:Nat=>Value.int .u8 (x:Int))[j]? =some u→w.cell? (ad.add j)=some u) (h64:∀x∈ys,x<256) (hl:xs.length+ys.length≤17592186044416) (hbase:base≤w.heap.size)
 (h:∀A' c' w',aM w' base A' c' (xs++ys)→w.grownBy w' (Value.slice A xs.length c).ownBlock→wpList prog ops Q rest (a.put o.dst (.slice A' (xs++ys).length c')) w'):wpList prog ops Q (o::rest) a w:=by
 obtain ⟨i,hi,hz,hsz,hby⟩:=jT;subst hm;refine wpList_append_own w hgd s x _ ho base 5 i _ 1 1 u46 hi hz hsz hby rfl de _ _ _ hs hown.1 ad ys.length cc (ys.map fun x:Nat=>Value.int .u8 (x:Int)) hx (by simp) hnews
  (fun u hu=>by rw[List.mem_map] at hu;obtain ⟨y,_,rfl⟩:=hu;rfl) (by unfold maxLen;omega) om hbase ?_
 intro v' w' hown' hg' _;rw[←List.map_append] at hown';obtain ⟨A',c',hv,ho'⟩:=aM.iG hown' (fun y hy=>by
  rcases List.mem_append.1 hy with h1 | h1
  · exact hown.2 y h1
  · exact h64 y h1)
 rw[hv];exact h A' c' w' ho' hg'
theorem Below.oW {w0 w w':World} {base:Nat} {A:Option Addr} {c:Nat} {xs:List Nat} (hb:Below base w0 w) (hown:aM w base A c xs) (hbase:base≤w.heap.size) (hg:w.grownBy w' (Value.slice A xs.length c).ownBlock):Below base w0 w':=
 hb.grown hg hbase (fun k hk=>by
  match A,hown,hk with
  | some q,hown,hk=>
   exact RO
  | none,_,hk=>simp[Value.ownBlock] at hk)
theorem aM.cut {w:World} {base:Nat} {A:Option Addr} {c:Nat} {xs:List Nat} (h:aM w base A c xs) (hc:xs≠ []) {k:Nat} (hk:k≤xs.length):aM w base A c (xs.take k):=by
 exact ap1
theorem aL7:(prog.info? 5).map (fun i=>(i.zero,i.size,i.bytes))=some (some (.int .u8 0),1,1):=kr
theorem aL8 (n:Nat) (h:n≤35184372088832):∀w:World,(Instr.makeSlice 46 (.int .i64 (n:Int)) (.int .i64 (n:Int))).run prog w= .ok (.slice (some ⟨w.heap.size,0,none⟩) n n) (w.alloc (.cells (madeCells #[.int .u8 0] n) 5)):=
 fun w=>run_make_row' _ _ _ 1 u46 aL7 rfl _ _ n om om w
@[irreducible] def ah (i:Int):List Nat:=aS 10 i.natAbs
theorem qa (i:Int):ah i=aS 10 i.natAbs:=by unfold ah;rfl
theorem jx (i:Int):small 10 (ah i):=by rw[qa];exact xd de _
theorem zrx (i:Int):val 10 (ah i)=i.natAbs:=by rw[qa];exact kx de _
theorem bD:ah 0= []:=by rw[qa];rfl
theorem vaq {b:Nat} (hb:0<b):∀ {l:List Nat},small b l→ ∀k,l.getD k 0=val b l/b^k%b
 | [],_,k=>by simp[val]
 | x::l,h,0=>by
  obtain ⟨h1,_⟩:=zhz.1 h;simp[val,Nat.add_mul_mod_self_left,Nat.mod_eq_of_lt h1]
 | x::l,h,k+1=>by
  obtain ⟨h1,h2⟩:=zhz.1 h;have e:val b (x::l)/b^(k+1)=val b l/b^k:=by
   rw[Nat.pow_succ,Nat.mul_comm,←Nat.div_div_eq_div_mul];congr 1
   simp only[val]
   rw[Nat.add_mul_div_left _ _ hb,Nat.div_eq_of_lt h1,Nat.zero_add]
  rw[e,←vaq hb h2 k];simp
theorem aa8 {b:Nat} (hb:0<b) {l:List Nat} (h:small b l) (k:Nat):nth l k=((val b l/b^k%b:Nat):Int):=by
 unfold nth;rw[vaq hb h k]
theorem ztz (i:Int) (k:Nat):nth (ah i) k=((i.natAbs/10^k%10:Nat):Int):=by
 rw[aa8 de (jx i),zrx]
def pad:Nat→Nat→List Nat
 | 0,_=>[]
 | k+1,n=>n%10::pad k (n/10)
theorem qgq:∀k n,small 10 (pad k n)
 | 0,_=>ke
 | k+1,n=>zhz.2 ⟨Nat.mod_lt _ de,qgq k _⟩
theorem vtz:∀k n,val 10 (pad k n)=n%10^k
 | 0,n=>by simp[pad,val,Nat.mod_one]
 | k+1,n=>by
  rw[pad,val,vtz k,Nat.pow_succ,Nat.mul_comm (10^k) 10,Nat.mod_mul]
theorem qaz:∀k n,pad (k+1) n=pad k n++ [n/10^k%10]
 | 0,n=>by simp[pad]
 | k+1,n=>by
  rw[pad,qaz k,pad,List.cons_append,Nat.div_div_eq_div_mul,Nat.pow_succ,Nat.mul_comm 10]
theorem vex (k:Nat):av^k=10^(18*k):=by
 rw[Nat.pow_mul];rfl
theorem qP (V k j:Nat):V/10^(18*k+j)=V/av^k/10^j:=by
 rw[vex,Nat.div_div_eq_div_mul,Nat.pow_add]
theorem Ah (M j:Nat) (hj:j≤18):M%av/10^j=M/10^j%10^(18-j):=by
 have e:av=10^j*10^(18-j):=by rw[←Nat.pow_add,show j+(18-j)=18 from om];rfl
 rw[e,Nat.mod_mul_right_div_self]
theorem vrk (M j:Nat) (hj:j<18):M%av/10^j%10=M/10^j%10:=by
 rw[Ah M j om];refine Nat.mod_mod_of_dvd _ ?_;obtain ⟨m,hm⟩:∃m,18-j=m+1:=⟨17-j,om⟩;rw[hm,Nat.pow_succ];exact Nat.dvd_mul_left _ _
theorem Gd {xs:List Nat} (h:small av xs) (k j:Nat) (hj:j<18):xs.getD k 0/10^j%10=val av xs/10^(18*k+j)%10:=by
 rw[vaq (by unfold av;omega) h k,qP,vrk _ j hj]
theorem Sl {xs:List Nat} (h:small av xs):val av xs<10^(18*xs.length):=by
 rw[←vex];exact kp h
theorem Mr {b:Nat} (hb:2≤b) (n m:Nat) (h:n/b^m≠0):aS b (n/b^m)=n/b^m%b::aS b (n/b^(m+1)):=by
 rw[kg hb h,Nat.div_div_eq_div_mul,Nat.pow_succ]
theorem JV (i:Int) (m:Nat):(ah i).length≤18*m↔i.natAbs/av^m=0:=by
 have h0:0<av^m:=Nat.pow_pos (by unfold av;omega);rw[qa,zz de,←vex];constructor
 · intro h;exact Nat.div_eq_of_lt h
 · intro h;rcases Nat.lt_or_ge i.natAbs (av^m) with h1 | h1
   · exact h1
   · have:=Nat.div_pos h1 h0;omega
theorem Ms (M k:Nat) (hk:k<18):M%av/10^k=10*(M%av/10^(k+1))+M/10^k%10:=by
 rw[←vrk M k hk,Nat.pow_succ,←Nat.div_div_eq_div_mul];omega
theorem zt {i:Int} (h:i.natAbs<av^30):(limbs i).length≤30:=by
 rw[qo];exact (zz qk _ _).2 h
theorem Ai {i:Int} {k:Nat} (h:i.natAbs<av^k):(ah i).length≤18*k:=by
 rw[qa];exact (zz de _ _).2 (by rw[←vex];exact h)
theorem zrk {i:Int} (h:i.natAbs<av^30):(ah i).length≤540:=Ai h
theorem Per.nums {X:Nat→Prop} {w:World} {A:Option Addr} {xs:List Nat} (h:aA w A xs) (hx:∀q,A=some q→ ¬X q.block):Per X w (fun b=>aA b A xs):=fun b hb=>
 ⟨h.1,fun h0=>by
  obtain ⟨g,o,rfl,hg,hc⟩:=h.2 h0;exact ⟨g,o,rfl,Nat.lt_of_lt_of_le hg hb.size,fun k hk=>(hb.cell (p:=⟨g,o+k,none⟩) hg (hx ⟨g,o,none⟩ rfl)).trans (hc k hk)⟩⟩
theorem Per.aD {w:World} {A:Option Addr} {xs:List Nat} (h:aA w A xs):Per No w (fun b=>aA b A xs):=Per.nums h (fun _ _=>id)
theorem Per.own {X:Nat→Prop} {w:World} {base:Nat} {A:Option Addr} {c:Nat} {xs:List Nat} (h:Own w base A c xs) (hx:∀k,X k→k<base):Per X w (fun b=>aA b A xs):=Per.nums h.nums (fun q hq e=>by have:=hx _ e;have:=(h.ge q hq).1;omega)
theorem vaz {n:Bool} {xs:List Nat} (h:zm n xs=true):∃i:Int,n=decide (i<0)∧xs=limbs i∧i.natAbs<av^30:=by
 refine ⟨num n xs,?_,(Ml h).symm,vK h⟩;obtain ⟨hs,hn,_,h0⟩:=ym h;rw[kk,qvq];cases n
 · rfl
 · have hne:val av xs≠0:=ziz qk hn (fun e=>by have:=h0 e;cases this);simp[hne]
def big (i:Int) (A:Option Addr) (c:Nat):Value:=.agg #[.bool (decide (i<0)),.slice A (limbs i).length c]
theorem E9 {i:Int} (A:Option Addr) (c:Nat) (w:World) (hi:i.natAbs<av^30) (hx:aA w A (limbs i)):Calls prog 66 #[.agg #[.bool (decide (i<0)),.slice A (limbs i).length c]] w fun e w'=>e= .returned (.bool true)∧Below w.heap.size w w':=by
 have h:=yf (decide (i<0)) c w A (limbs i) (by have:=zt hi;omega) hx;rwa [vh hi] at h
theorem ysz (xs:List Nat) (k:Nat):((xs.getD k 0:Nat):Int)=nth xs k:=by unfold nth;rfl
theorem qhk {xs ys zs:List Nat} {k:Nat} {cy:Int} (hz:zs.length=k) (h0:0≤cy) (h:val av zs+av^k*cy.toNat=val av (xs.take k)+val av (ys.take k)) :
 val av (zs++ [((nth xs k+cy+nth ys k)%1000000000000000000).toNat])+av^(k+1)*((nth xs k+cy+nth ys k)/1000000000000000000).toNat=val av (xs.take (k+1))+val av (ys.take (k+1)):=by
 rw[zrz,yg,yg,hz,Nat.pow_succ];have e1:=ysz xs k;have e2:=ysz ys k;generalize xs.getD k 0=x at *
 generalize ys.getD k 0=y at *
 obtain ⟨c,rfl⟩:=Int.eq_ofNat_of_zero_le h0;rw[←e1,←e2];have e3:(((x:Int)+(c:Int)+(y:Int))%1000000000000000000).toNat=(x+c+y)%av:=by unfold av;omega
 have e4:(((x:Int)+(c:Int)+(y:Int))/1000000000000000000).toNat=(x+c+y)/av:=by unfold av;omega
 rw[e3,e4,Nat.mul_assoc];have e5:=Nat.mod_add_div (x+c+y) av;have e6:av^k*((x+c+y)%av)+av^k*(av*((x+c+y)/av))=av^k*x+av^k*c+av^k*y:=by
  rw[←Nat.mul_add,e5,Nat.mul_add,Nat.mul_add]
 simp only[Int.toNat_natCast] at h
 omega
theorem qQ {zs:List Nat} {k:Nat} {cy:Int} {v:Nat} (hz:zs.length=k) (h:val av zs+av^k*cy.toNat=v):val av (zs++ [cy.toNat])=v:=by
 rw[zrz,hz];exact h
set_option maxRecDepth 100000 in
set_option maxHeartbeats 400000 in
theorem jU (A B:Option Addr) (c d:Nat) (xs ys:List Nat) (w:World) (hx:aA w A xs) (hy:aA w B ys) (hs:small av xs) (ht:small av ys)
 (hl:xs.length≤1048576) (hl':ys.length≤1048576) :
 Calls prog 149 #[.slice A xs.length c,.slice B ys.length d] w (F8 w av (max xs.length ys.length+1) (val av xs+val av ys)):=by
 by_cases hlen:xs.length<ys.length
 · have hmax:max xs.length ys.length=ys.length:=om;rw[hmax];have hmk:=qcx (ys.length+1) om;rw[show ((ys.length+1:Nat):Int)=(ys.length:Int)+1 from om] at hmk;clear hmax;go_enter func149,ntmps149
   go_wp2
   go_loopw [6,22] (fun cv v wr=>∃(k:Nat) (zs:List Nat) (cy:Int),k≤ys.length∧v= .int .i64 k∧cv= .int .u64 cy∧0≤cy∧cy≤1∧zs.length=k∧small av zs∧
    val av zs+av^k*cy.toNat=val av (ys.take k)+val av (xs.take k)∧Row wr w.heap.size (ys.length+1) zs∧Below w.heap.size w wr) (fun _ v _=>ys.length-(intOf v).toNat)
   case atStart=>exact ⟨0,[],0,Nat.zero_le _,rfl,rfl,om,om,rfl,ke,by simp[val],Row.made w _,(Below.refl _ _).alloc (Nat.le_refl _) _⟩
   case round=>
    obtain ⟨k,zs,cy,hk,rfl,rfl,hc0,hc1,hzl,hzs,hval,hrow,hbel⟩:=hrel;have HV:=Lib.hid hval;have HZ:=Lib.hid hzl;clear hval hzl;have hcell:=fun j (hj:j<ys.length+1)=>hrow.cell hj;have hcell:=hcell k om;have hfro:=hrow.frozen k;have hlt:=hrow.lt;by_cases hlt':k<ys.length
    · obtain ⟨b,o,rfl,hb,hc⟩:=hy.2 om;have hca:wr.cell? ⟨b,o+k,none⟩=some (.int .u64 (nth ys k)):=(hbel.cell (p:=⟨b,o+k,none⟩) hb).trans (hc k hlt');have hxk:nth ys k<1000000000000000000:=qr (by unfold av;omega) ht k;have Gf:=zu ys k;have hyk:nth xs k<1000000000000000000:=qr (by unfold av;omega) hs k;have aL9:=zu xs k;clear hc;by_cases hky:k<xs.length
      · obtain ⟨b',o',rfl,hb',hc'⟩:=hx.2 om;have hcb:wr.cell? ⟨b',o'+k,none⟩=some (.int .u64 (nth xs k)):=(hbel.cell (p:=⟨b',o'+k,none⟩) hb').trans (hc' k hky);clear hc';go_wp2
        go_roundw
        case rel=>exact ⟨k+1,zs++ [((nth ys k+cy+nth xs k)%1000000000000000000).toNat],(nth ys k+cy+nth xs k)/1000000000000000000,om,by go_num,rfl,om,om,by simp[HZ.out],
         jy hzs (by unfold av;omega),qhk HZ.out hc0 HV.out,hrow.cB _ om HZ.out om,hbel.setCell (Nat.le_refl _) _⟩
        case measure=>simp[intOf];omega
      · have hy0:nth xs k=0:=kl xs k om;have HY0:=Lib.hid hy0;clear hy0;have hst:=qhk (xs:=ys) (ys:=xs) HZ.out hc0 HV.out;rw[HY0.out,Int.add_zero] at hst;have HST:=Lib.hid hst;clear hst;go_wp2
        go_roundw
        case rel=>exact ⟨k+1,zs++ [((nth ys k+cy)%1000000000000000000).toNat],(nth ys k+cy)/1000000000000000000,om,by go_num,rfl,om,om,by simp[HZ.out],
         jy hzs (by unfold av;omega),HST.out,hrow.cB _ om HZ.out om,hbel.setCell (Nat.le_refl _) _⟩
        case measure=>simp[intOf];omega
    · obtain rfl:k=ys.length:=om;have hv:=HV.out;rw[vk _ _ (Nat.le_refl _),vk _ _ om] at hv;have Fa:=Lib.hid hv;clear hv;go_wp2
      go_ret
      exact ⟨w.heap.size,zs++ [cy.toNat],by simp[HZ.out],hrow.cB _ hc0 HZ.out om,by simp[HZ.out],jy hzs (by unfold av;omega),(qQ HZ.out Fa.out).trans (Nat.add_comm _ _),Nat.le_refl _,hbel.setCell (Nat.le_refl _) _⟩
 · have hmax:max xs.length ys.length=xs.length:=om;rw[hmax];have hmk:=qcx (xs.length+1) om;rw[show ((xs.length+1:Nat):Int)=(xs.length:Int)+1 from om] at hmk;clear hmax;go_enter func149,ntmps149
   go_wp2
   go_loopw [6,22] (fun cv v wr=>∃(k:Nat) (zs:List Nat) (cy:Int),k≤xs.length∧v= .int .i64 k∧cv= .int .u64 cy∧0≤cy∧cy≤1∧zs.length=k∧small av zs∧
    val av zs+av^k*cy.toNat=val av (xs.take k)+val av (ys.take k)∧Row wr w.heap.size (xs.length+1) zs∧Below w.heap.size w wr) (fun _ v _=>xs.length-(intOf v).toNat)
   case atStart=>exact ⟨0,[],0,Nat.zero_le _,rfl,rfl,om,om,rfl,ke,by simp[val],Row.made w _,(Below.refl _ _).alloc (Nat.le_refl _) _⟩
   case round=>
    obtain ⟨k,zs,cy,hk,rfl,rfl,hc0,hc1,hzl,hzs,hval,hrow,hbel⟩:=hrel;have HV:=Lib.hid hval;have HZ:=Lib.hid hzl;clear hval hzl;have hcell:=fun j (hj:j<xs.length+1)=>hrow.cell hj;have hcell:=hcell k om;have hfro:=hrow.frozen k;have hlt:=hrow.lt;by_cases hlt':k<xs.length
    · obtain ⟨b,o,rfl,hb,hc⟩:=hx.2 om;have hca:wr.cell? ⟨b,o+k,none⟩=some (.int .u64 (nth xs k)):=(hbel.cell (p:=⟨b,o+k,none⟩) hb).trans (hc k hlt');have hxk:nth xs k<1000000000000000000:=qr (by unfold av;omega) hs k;have Gf:=zu xs k;have hyk:nth ys k<1000000000000000000:=qr (by unfold av;omega) ht k;have aL9:=zu ys k;clear hc;by_cases hky:k<ys.length
      · obtain ⟨b',o',rfl,hb',hc'⟩:=hy.2 om;have hcb:wr.cell? ⟨b',o'+k,none⟩=some (.int .u64 (nth ys k)):=(hbel.cell (p:=⟨b',o'+k,none⟩) hb').trans (hc' k hky);clear hc';go_wp2
        go_roundw
        case rel=>exact ⟨k+1,zs++ [((nth xs k+cy+nth ys k)%1000000000000000000).toNat],(nth xs k+cy+nth ys k)/1000000000000000000,om,by go_num,rfl,om,om,by simp[HZ.out],
         jy hzs (by unfold av;omega),qhk HZ.out hc0 HV.out,hrow.cB _ om HZ.out om,hbel.setCell (Nat.le_refl _) _⟩
        case measure=>simp[intOf];omega
      · have hy0:nth ys k=0:=kl ys k om;have HY0:=Lib.hid hy0;clear hy0;have hst:=qhk (xs:=xs) (ys:=ys) HZ.out hc0 HV.out;rw[HY0.out,Int.add_zero] at hst;have HST:=Lib.hid hst;clear hst;go_wp2
        go_roundw
        case rel=>exact ⟨k+1,zs++ [((nth xs k+cy)%1000000000000000000).toNat],(nth xs k+cy)/1000000000000000000,om,by go_num,rfl,om,om,by simp[HZ.out],
         jy hzs (by unfold av;omega),HST.out,hrow.cB _ om HZ.out om,hbel.setCell (Nat.le_refl _) _⟩
        case measure=>simp[intOf];omega
    · obtain rfl:k=xs.length:=om;have hv:=HV.out;rw[vk _ _ (Nat.le_refl _),vk _ _ om] at hv;have Fa:=Lib.hid hv;clear hv;go_wp2
      go_ret
      exact ⟨w.heap.size,zs++ [cy.toNat],by simp[HZ.out],hrow.cB _ hc0 HZ.out om,by simp[HZ.out],jy hzs (by unfold av;omega),qQ HZ.out Fa.out,Nat.le_refl _,hbel.setCell (Nat.le_refl _) _⟩
theorem qR {xs ys zs:List Nat} {k:Nat} {bw:Int} (hz:zs.length=k) (h0:0≤bw) (h1:bw≤1) (hy:nth ys k<1000000000000000000) (h:val av zs+val av (ys.take k)=val av (xs.take k)+av^k*bw.toNat)
 (hx:nth xs k<1000000000000000000) :
 val av (zs++ [((nth xs k+1000000000000000000-bw-nth ys k)%1000000000000000000).toNat])+val av (ys.take (k+1))=val av (xs.take (k+1))+av^(k+1)*(1-(nth xs k+1000000000000000000-bw-nth ys k)/1000000000000000000).toNat:=by
 rw[zrz,yg,yg,hz,Nat.pow_succ];have e1:=ysz xs k;have e2:=ysz ys k;rw[←e2] at hy;rw[←e1] at hx;generalize xs.getD k 0=x at *
 generalize ys.getD k 0=y at *
 rw[←e1,←e2];obtain ⟨z,hzz⟩:∃z,z=(((x:Int)+1000000000000000000-bw-(y:Int))%1000000000000000000).toNat:=⟨_,rfl⟩;obtain ⟨q,hq⟩:∃q,q=(1-((x:Int)+1000000000000000000-bw-(y:Int))/1000000000000000000).toNat:=⟨_,rfl⟩;rw[←hzz,←hq];have key:z+y+bw.toNat=x+av*q:=by unfold av;omega
 have e6:av^k*z+av^k*y+av^k*bw.toNat=av^k*x+av^k*(av*q):=by
  rw[←Nat.mul_add,←Nat.mul_add,key,Nat.mul_add]
 rw[Nat.mul_assoc];omega
theorem Mt {zs:List Nat} {n:Nat} {bw:Int} {vx vy:Nat} (hz:zs.length=n) (hs:small av zs) (h0:0≤bw) (h1:bw≤1) (hle:vy≤vx) (h:val av zs+vy=vx+av^n*bw.toNat):val av zs=vx-vy:=by
 have hv:=kp hs;rw[hz] at hv;rcases (by omega:bw=0∨bw=1) with rfl | rfl
 · simp at h;omega
 · simp at h;omega
set_option maxRecDepth 100000 in
set_option maxHeartbeats 400000 in
theorem jV (A B:Option Addr) (c d:Nat) (xs ys:List Nat) (w:World) (hx:aA w A xs) (hy:aA w B ys) (hs:small av xs) (ht:small av ys)
 (hl:xs.length≤1048576) (hl':ys.length≤xs.length) (hle:val av ys≤val av xs) :
 Calls prog 150 #[.slice A xs.length c,.slice B ys.length d] w (F8 w av xs.length (val av xs-val av ys)):=by
 have hmk:=qcx xs.length om;have yO:=Lib.hid hle;clear hle;go_enter func150,ntmps150
 go_wp2
 go_loopw [6,14] (fun cv v wr=>∃(k:Nat) (zs:List Nat) (bw:Int),k≤xs.length∧v= .int .i64 k∧cv= .int .u64 bw∧0≤bw∧bw≤1∧zs.length=k∧small av zs∧
  val av zs+val av (ys.take k)=val av (xs.take k)+av^k*bw.toNat∧Row wr w.heap.size xs.length zs∧Below w.heap.size w wr) (fun _ v _=>xs.length-(intOf v).toNat)
 case atStart=>exact ⟨0,[],0,Nat.zero_le _,rfl,rfl,om,om,rfl,ke,by simp[val],Row.made w _,(Below.refl _ _).alloc (Nat.le_refl _) _⟩
 case round=>
  obtain ⟨k,zs,bw,hk,rfl,rfl,hc0,hc1,hzl,hzs,hval,hrow,hbel⟩:=hrel;have HV:=Lib.hid hval;have HZ:=Lib.hid hzl;clear hval hzl;by_cases hlt':k<xs.length
  · have hcell:=hrow.cell (j:=k) om;have hfro:=hrow.frozen k;have hlt:=hrow.lt;obtain ⟨b,o,rfl,hb,hc⟩:=hx.2 om;have hca:wr.cell? ⟨b,o+k,none⟩=some (.int .u64 (nth xs k)):=(hbel.cell (p:=⟨b,o+k,none⟩) hb).trans (hc k hlt');have hxk:nth xs k<1000000000000000000:=qr (by unfold av;omega) hs k;have Gf:=zu xs k;have hyk:nth ys k<1000000000000000000:=qr (by unfold av;omega) ht k;have aL9:=zu ys k;clear hc;by_cases hky:k<ys.length
    · obtain ⟨b',o',rfl,hb',hc'⟩:=hy.2 om;have hcb:wr.cell? ⟨b',o'+k,none⟩=some (.int .u64 (nth ys k)):=(hbel.cell (p:=⟨b',o'+k,none⟩) hb').trans (hc' k hky);clear hc';go_wp2
      go_roundw
      case rel=>exact ⟨k+1,zs++ [((nth xs k+1000000000000000000-bw-nth ys k)%1000000000000000000).toNat],1-(nth xs k+1000000000000000000-bw-nth ys k)/1000000000000000000,om,by go_num,rfl,om,om,by simp[HZ.out],
       jy hzs (by unfold av;omega),qR HZ.out hc0 hc1 hyk HV.out hxk,hrow.cB _ om HZ.out om,hbel.setCell (Nat.le_refl _) _⟩
      case measure=>simp[intOf];omega
    · have hy0:nth ys k=0:=kl ys k om;have HY0:=Lib.hid hy0;clear hy0;have hst:=qR (xs:=xs) (ys:=ys) HZ.out hc0 hc1 hyk HV.out hxk;rw[HY0.out,Int.sub_zero] at hst;have HST:=Lib.hid hst;clear hst;go_wp2
      go_roundw
      case rel=>exact ⟨k+1,zs++ [((nth xs k+1000000000000000000-bw)%1000000000000000000).toNat],1-(nth xs k+1000000000000000000-bw)/1000000000000000000,om,by go_num,rfl,om,om,by simp[HZ.out],
       jy hzs (by unfold av;omega),HST.out,hrow.cB _ om HZ.out om,hbel.setCell (Nat.le_refl _) _⟩
      case measure=>simp[intOf];omega
  · obtain rfl:k=xs.length:=om;have hv:=HV.out;rw[vk _ _ (Nat.le_refl _),vk _ _ om] at hv;have Fa:=Lib.hid hv;clear hv;go_wp2
    go_ret
    exact ⟨w.heap.size,zs,by simp[HZ.out],hrow,HZ.out,hzs,Mt HZ.out hzs hc0 hc1 yO.out Fa.out,Nat.le_refl _,hbel⟩
theorem Aj {P Q:Prop} (k:Q) (h:(Unit→Q)→P:=by
 intro zK;refine bodyPost_ret (v:=.tuple #[.agg #[.bool false,.slice none 0 0],.int .i64 3]) (by simp[results,Tryz.results119,go_sem,r0,r1]) rfl ?_;exact zK ()):P:=h fun _=>k
theorem Ak {P Q:Prop} (k:Q) (h:(Unit→Q)→P:=by
 intro zK;refine bodyPost_ret (v:=.tuple #[.agg #[.bool (decide (num n1 xs+num n2 ys<0)),.slice A4 (limbs (num n1 xs+num n2 ys)).length c4],.int .i64 0]) (by simp[results,Tryz.results119,go_sem,r0,r1]) rfl ?_;exact zK ()):P:=h fun _=>k
theorem Sm {P:Prop} (h:P:=by
 rw[h,kk,kk];cases n1<;>cases n2<;>simp[bJ] at hne ⊢ <;>omega):P:=h
section
variable (A B:Option Addr) (c d:Nat) (xs ys:List Nat) (w:World)
set_option maxHeartbeats 800000 in
theorem Mv (n1 n2:Bool) (hx:aA w A xs) (hy:aA w B ys) (hl:xs.length≤9223372036854775807) (hl':ys.length≤9223372036854775807) (hg:zm n1 xs=false) :
 Calls prog 119 #[.agg #[.bool n1,.slice A xs.length c],.agg #[.bool n2,.slice B ys.length d]] w (ya w 0 3):=by
 go_enter func119,ntmps119
 go_wp2_with fail
 refine (yf n1 c _ A xs hl (((hx.alloc _).alloc _).alloc _)).mono ?_;rintro e w1 ⟨rfl,hb1⟩;have X1:=(((aB.new w 24 #[.bool n1,.slice A xs.length c]).alloc (.cells #[.bool n2,.slice B ys.length d] 24)).alloc (.cells #[.bool false,.slice none 0 0] 24)).below hb1 (by simp;omega);have Y1:=((aB.new (w.alloc (.cells #[.bool n1,.slice A xs.length c] 24)) 24 #[.bool n2,.slice B ys.length d]).alloc (.cells #[.bool false,.slice none 0 0] 24)).below hb1 (by simp);have R1:=(aB.new ((w.alloc (.cells #[.bool n1,.slice A xs.length c] 24)).alloc (.cells #[.bool n2,.slice B ys.length d] 24)) 24 #[.bool false,.slice none 0 0]).below hb1 (by simp);have hx1:=(((hx.alloc (.cells #[.bool n1,.slice A xs.length c] 24)).alloc (.cells #[.bool n2,.slice B ys.length d] 24)).alloc (.cells #[.bool false,.slice none 0 0] 24)).below hb1 (Nat.le_refl _);have hy1:=(((hy.alloc (.cells #[.bool n1,.slice A xs.length c] 24)).alloc (.cells #[.bool n2,.slice B ys.length d] 24)).alloc (.cells #[.bool false,.slice none 0 0] 24)).below hb1 (Nat.le_refl _);have L1:Below w.heap.size w w1:=((((Below.refl _ _).alloc (Nat.le_refl _) _).alloc (by simp) _).alloc (by simp;omega) _).trans (hb1.mono (by simp;omega));simp only[World.size_alloc] at X1 Y1 R1
 clear hb1;obtain ⟨x0,x1,x2,x3⟩:=X1.two;obtain ⟨y0,y1,y2,y3⟩:=Y1.two;obtain ⟨r0,r1,r2,r3⟩:=R1.two;go_wp2
 refine Aj ?_;exact vav L1 om _ _
set_option maxHeartbeats 800000 in
theorem Mw (n1 n2:Bool) (hx:aA w A xs) (hy:aA w B ys) (hl:xs.length≤9223372036854775807) (hl':ys.length≤9223372036854775807) (hg:zm n1 xs=true) (hk:zm n2 ys=false) :
 Calls prog 119 #[.agg #[.bool n1,.slice A xs.length c],.agg #[.bool n2,.slice B ys.length d]] w (ya w 0 3):=by
 go_enter func119,ntmps119
 go_wp2_with fail
 refine (yf n1 c _ A xs hl (((hx.alloc _).alloc _).alloc _)).mono ?_;rintro e w1 ⟨rfl,hb1⟩;have X1:=(((aB.new w 24 #[.bool n1,.slice A xs.length c]).alloc (.cells #[.bool n2,.slice B ys.length d] 24)).alloc (.cells #[.bool false,.slice none 0 0] 24)).below hb1 (by simp;omega);have Y1:=((aB.new (w.alloc (.cells #[.bool n1,.slice A xs.length c] 24)) 24 #[.bool n2,.slice B ys.length d]).alloc (.cells #[.bool false,.slice none 0 0] 24)).below hb1 (by simp);have R1:=(aB.new ((w.alloc (.cells #[.bool n1,.slice A xs.length c] 24)).alloc (.cells #[.bool n2,.slice B ys.length d] 24)) 24 #[.bool false,.slice none 0 0]).below hb1 (by simp);have hx1:=(((hx.alloc (.cells #[.bool n1,.slice A xs.length c] 24)).alloc (.cells #[.bool n2,.slice B ys.length d] 24)).alloc (.cells #[.bool false,.slice none 0 0] 24)).below hb1 (Nat.le_refl _);have hy1:=(((hy.alloc (.cells #[.bool n1,.slice A xs.length c] 24)).alloc (.cells #[.bool n2,.slice B ys.length d] 24)).alloc (.cells #[.bool false,.slice none 0 0] 24)).below hb1 (Nat.le_refl _);have L1:Below w.heap.size w w1:=((((Below.refl _ _).alloc (Nat.le_refl _) _).alloc (by simp) _).alloc (by simp;omega) _).trans (hb1.mono (by simp;omega));simp only[World.size_alloc] at X1 Y1 R1
 clear hb1;obtain ⟨x0,x1,x2,x3⟩:=X1.two;obtain ⟨y0,y1,y2,y3⟩:=Y1.two;go_wp2_with fail
 refine (yf n2 d _ B ys hl' hy1).mono ?_;rintro e w2 ⟨rfl,hb2⟩;have X2:=X1.below hb2 X1.lt;have Y2:=Y1.below hb2 Y1.lt;have R2:=R1.below hb2 R1.lt;have hx2:=hx1.below hb2 (Nat.le_refl _);have hy2:=hy1.below hb2 (Nat.le_refl _);have L2:=L1.trans (hb2.mono L1.size);clear x0 x1 x2 x3 y0 y1 y2 y3 X1 Y1 R1 hx1 hy1 L1 hb2;obtain ⟨x0,x1,x2,x3⟩:=X2.two;obtain ⟨y0,y1,y2,y3⟩:=Y2.two;have hz:w.heap.size+1+1<w2.heap.size:=R2.lt;obtain ⟨r0,r1,r2,r3⟩:=R2.two;go_wp2
 refine Aj ?_;exact vav L2 om _ _
set_option maxHeartbeats 800000 in
theorem           vL (neg : Bool) (hx :   aA w A xs) (hy :   aA w B ys) (hg :    zm neg xs = true) (hk :    zm neg ys = true) (hf : (num neg xs + num neg ys).natAbs <  av ^ 30) :
 Calls prog 119 #[.agg #[.bool neg, .slice A xs.length c], .agg #[.bool neg, .slice B ys.length d]] w (       ya w (num neg xs + num neg ys) 0) := by
 obtain ⟨hs, hn, hl, _⟩ :=         ym hg;obtain ⟨ht, hm, hl', _⟩ :=         ym hk;have hsum : ∀ zs, val  av zs = val  av xs + val  av ys →  bJ neg (val  av zs) = num neg xs + num neg ys := fun zs h => by
  rw [h,     kk,     kk]; cases neg <;> simp [ bJ] <;> omega
 have hfit : ∀ zs, val  av zs = val  av xs + val  av ys → val  av zs <  av ^ 30 := fun zs h => by
  have := hsum zs h; rw [← this,         vw] at hf; exact hf
 have HS := Lib.hid hsum; have HF := Lib.hid hfit;clear hsum hfit hf;go_enter func119, ntmps119
 go_wp2_with fail
 refine (      yf neg c _ A xs om (((hx.alloc _).alloc _).alloc _)).mono ?_;rintro e w1 ⟨rfl, hb1⟩;have X1 := ((( aB.new w 24 #[.bool neg, .slice A xs.length c]).alloc (.cells #[.bool neg, .slice B ys.length d] 24)).alloc (.cells #[.bool false, .slice none 0 0] 24)).below hb1 (by simp; omega);have Y1 := (( aB.new (w.alloc (.cells #[.bool neg, .slice A xs.length c] 24)) 24 #[.bool neg, .slice B ys.length d]).alloc (.cells #[.bool false, .slice none 0 0] 24)).below hb1 (by simp);have R1 := ( aB.new ((w.alloc (.cells #[.bool neg, .slice A xs.length c] 24)).alloc (.cells #[.bool neg, .slice B ys.length d] 24)) 24 #[.bool false, .slice none 0 0]).below hb1 (by simp);have hx1 := (((hx.alloc (.cells #[.bool neg, .slice A xs.length c] 24)).alloc (.cells #[.bool neg, .slice B ys.length d] 24)).alloc (.cells #[.bool false, .slice none 0 0] 24)).below hb1 (Nat.le_refl _);have hy1 := (((hy.alloc (.cells #[.bool neg, .slice A xs.length c] 24)).alloc (.cells #[.bool neg, .slice B ys.length d] 24)).alloc (.cells #[.bool false, .slice none 0 0] 24)).below hb1 (Nat.le_refl _);have L1 : Below w.heap.size w w1 := ((((Below.refl _ _).alloc (Nat.le_refl _) _).alloc (by simp) _).alloc (by simp; omega) _).trans (hb1.mono (by simp; omega));simp only [World.size_alloc] at X1 Y1 R1
 clear hb1;obtain ⟨x0, x1, x2, x3⟩ := X1.two;obtain ⟨y0, y1, y2, y3⟩ := Y1.two;go_wp2_with fail
 refine (      yf neg d _ B ys om hy1).mono ?_;rintro e w2 ⟨rfl, hb2⟩;have X2 := X1.below hb2 X1.lt; have Y2 := Y1.below hb2 Y1.lt; have R2 := R1.below hb2 R1.lt;have hx2 := hx1.below hb2 (Nat.le_refl _); have hy2 := hy1.below hb2 (Nat.le_refl _);have L2 := L1.trans (hb2.mono L1.size);clear x0 x1 x2 x3 y0 y1 y2 y3 X1 Y1 R1 hx1 hy1 L1 hb2;obtain ⟨x0, x1, x2, x3⟩ := X2.two;obtain ⟨y0, y1, y2, y3⟩ := Y2.two;have hz : w.heap.size + 1 + 1 < w2.heap.size := R2.lt;go_wp2_with fail
 go_region_held3 (fun w' => w'.cell? ⟨w.heap.size, 0, none⟩ = some (.bool neg) ∧ w'.cell? ⟨w.heap.size, 1, none⟩ = some (.slice A xs.length c) ∧ w'.cell? ⟨w.heap.size + 1, 1, none⟩ = some (.slice B ys.length d))
  (first | exact ⟨x0, x1, y1⟩ | exact ⟨u0, u1, v1⟩ | exact ⟨p0, p1, q1⟩ | (refine ⟨?_, ?_, ?_⟩ <;> (rw [World.cell?_setCell_other _ _ _ _ (by simp), World.cell?_setCell_other _ _ _ _ (by simp)]; assumption)))
  (first
   | (go_at_call 149; refine (      jU A B c d xs ys _ (by exact hx2.drew) (by exact hy2.drew) hs ht om om).mono ?_; rintro e w3 ⟨g, zs, rfl, hrow, hzl, hzs, hzv, hge, hb3⟩; have X3 := X2.drew.below hb3 X2.lt; have Y3 := Y2.drew.below hb3 Y2.lt; have R3 := R2.drew.below hb3 R2.lt; have L3 := L2.drew.trans (hb3.mono L2.size); obtain ⟨u0, u1, u2, u3⟩ := X3.two; obtain ⟨v0, v1, v2, v3⟩ := Y3.two; have HZ := Lib.hid hzl; have HE := Lib.hid (HS.out zs hzv); have HW := Lib.hid hzv; clear hzl hzv)
   | (go_at_call 147; refine (     vak neg _ _ zs _ (by exact hrow.nums HZ.out (    ydq hzs)) hzs (by have := HZ.out; omega) (HF.out zs HW.out)).mono ?_; rintro e w4 ⟨A4, c4, rfl, hown, hb4⟩; rw [HE.out] at hown ⊢; obtain ⟨p0, p1, p2, p3⟩ := (X3.below hb4 X3.lt).two; obtain ⟨q0, q1, q2, q3⟩ := (Y3.below hb4 Y3.lt).two; obtain ⟨r0, r1, r2, r3⟩ := (R3.below hb4 R3.lt).two; have L4 := L3.trans (hb4.mono L3.size); have hr3 := R3.lt))
 go_wp2
 refine bodyPost_ret (v := .tuple #[.agg #[.bool (decide (num neg xs + num neg ys < 0)), .slice A4 (limbs (num neg xs + num neg ys)).length c4], .int .i64 0]) (by simp [results, Tryz.results119, go_sem, r0, r1]) rfl ?_;exact     qjz hown L4 om hr3 _ _
set_option maxHeartbeats 800000 in
theorem          Al (neg : Bool) (hx :   aA w A xs) (hy :   aA w B ys) (hg :    zm neg xs = true) (hk :    zm neg ys = true) (hf :  av ^ 30 ≤ (num neg xs + num neg ys).natAbs) :
 Calls prog 119 #[.agg #[.bool neg, .slice A xs.length c], .agg #[.bool neg, .slice B ys.length d]] w (       ya w 0 7) := by
 obtain ⟨hs, hn, hl, _⟩ :=         ym hg;obtain ⟨ht, hm, hl', _⟩ :=         ym hk;have hsum : ∀ zs, val  av zs = val  av xs + val  av ys →  bJ neg (val  av zs) = num neg xs + num neg ys := fun zs h => by
  rw [h,     kk,     kk]; cases neg <;> simp [ bJ] <;> omega
 have hfit : ∀ zs, val  av zs = val  av xs + val  av ys →  av ^ 30 ≤ val  av zs := fun zs h => by
  have := hsum zs h; rw [← this,         vw] at hf; exact hf
 have HS := Lib.hid hsum; have HF := Lib.hid hfit;clear hsum hfit hf;go_enter func119, ntmps119
 go_wp2_with fail
 refine (      yf neg c _ A xs om (((hx.alloc _).alloc _).alloc _)).mono ?_;rintro e w1 ⟨rfl, hb1⟩;have X1 := ((( aB.new w 24 #[.bool neg, .slice A xs.length c]).alloc (.cells #[.bool neg, .slice B ys.length d] 24)).alloc (.cells #[.bool false, .slice none 0 0] 24)).below hb1 (by simp; omega);have Y1 := (( aB.new (w.alloc (.cells #[.bool neg, .slice A xs.length c] 24)) 24 #[.bool neg, .slice B ys.length d]).alloc (.cells #[.bool false, .slice none 0 0] 24)).below hb1 (by simp);have R1 := ( aB.new ((w.alloc (.cells #[.bool neg, .slice A xs.length c] 24)).alloc (.cells #[.bool neg, .slice B ys.length d] 24)) 24 #[.bool false, .slice none 0 0]).below hb1 (by simp);have hx1 := (((hx.alloc (.cells #[.bool neg, .slice A xs.length c] 24)).alloc (.cells #[.bool neg, .slice B ys.length d] 24)).alloc (.cells #[.bool false, .slice none 0 0] 24)).below hb1 (Nat.le_refl _);have hy1 := (((hy.alloc (.cells #[.bool neg, .slice A xs.length c] 24)).alloc (.cells #[.bool neg, .slice B ys.length d] 24)).alloc (.cells #[.bool false, .slice none 0 0] 24)).below hb1 (Nat.le_refl _);have L1 : Below w.heap.size w w1 := ((((Below.refl _ _).alloc (Nat.le_refl _) _).alloc (by simp) _).alloc (by simp; omega) _).trans (hb1.mono (by simp; omega));simp only [World.size_alloc] at X1 Y1 R1
 clear hb1;obtain ⟨x0, x1, x2, x3⟩ := X1.two;obtain ⟨y0, y1, y2, y3⟩ := Y1.two;go_wp2_with fail
 refine (      yf neg d _ B ys om hy1).mono ?_;rintro e w2 ⟨rfl, hb2⟩;have X2 := X1.below hb2 X1.lt; have Y2 := Y1.below hb2 Y1.lt; have R2 := R1.below hb2 R1.lt;have hx2 := hx1.below hb2 (Nat.le_refl _); have hy2 := hy1.below hb2 (Nat.le_refl _);have L2 := L1.trans (hb2.mono L1.size);clear x0 x1 x2 x3 y0 y1 y2 y3 X1 Y1 R1 hx1 hy1 L1 hb2;obtain ⟨x0, x1, x2, x3⟩ := X2.two;obtain ⟨y0, y1, y2, y3⟩ := Y2.two;have hz : w.heap.size + 1 + 1 < w2.heap.size := R2.lt;go_wp2_with fail
 go_region_held3 (fun w' => w'.cell? ⟨w.heap.size, 0, none⟩ = some (.bool neg) ∧ w'.cell? ⟨w.heap.size, 1, none⟩ = some (.slice A xs.length c) ∧ w'.cell? ⟨w.heap.size + 1, 1, none⟩ = some (.slice B ys.length d))
  (first | exact ⟨x0, x1, y1⟩ | exact ⟨u0, u1, v1⟩ | exact ⟨p0, p1, q1⟩ | (refine ⟨?_, ?_, ?_⟩ <;> (rw [World.cell?_setCell_other _ _ _ _ (by simp), World.cell?_setCell_other _ _ _ _ (by simp)]; assumption)))
  (first
   | (go_at_call 149; refine (      jU A B c d xs ys _ (by exact hx2.drew) (by exact hy2.drew) hs ht om om).mono ?_; rintro e w3 ⟨g, zs, rfl, hrow, hzl, hzs, hzv, hge, hb3⟩; have X3 := X2.drew.below hb3 X2.lt; have Y3 := Y2.drew.below hb3 Y2.lt; have R3 := R2.drew.below hb3 R2.lt; have L3 := L2.drew.trans (hb3.mono L2.size); obtain ⟨u0, u1, u2, u3⟩ := X3.two; obtain ⟨v0, v1, v2, v3⟩ := Y3.two; have HZ := Lib.hid hzl; have HE := Lib.hid (HS.out zs hzv); have HW := Lib.hid hzv; clear hzl hzv)
   | (go_at_call 147; refine (     JR neg _ _ zs _ (by exact hrow.nums HZ.out (    ydq hzs)) hzs (by have := HZ.out; omega) (HF.out zs HW.out)).mono ?_; rintro e w4 ⟨A4, c4, rfl, hown, hb4⟩; have _t := HE; obtain ⟨p0, p1, p2, p3⟩ := (X3.below hb4 X3.lt).two; obtain ⟨q0, q1, q2, q3⟩ := (Y3.below hb4 Y3.lt).two; obtain ⟨r0, r1, r2, r3⟩ := (R3.below hb4 R3.lt).two; have L4 := L3.trans (hb4.mono L3.size); have hr3 := R3.lt))
 go_wp2
 refine bodyPost_ret (v := .tuple #[.agg #[.bool (decide ((0 : Int) < 0)), .slice A4 (limbs 0).length c4], .int .i64 7]) (by simp [results, Tryz.results119, go_sem, r0, r1]) rfl ?_;exact     qjz hown L4 om hr3 _ _
set_option maxHeartbeats 800000 in
theorem          Am (n1 n2 : Bool) (hx :   aA w A xs) (hy :   aA w B ys) (hg :    zm n1 xs = true) (hk :    zm n2 ys = true) (hne : (n1 == n2) = false) (hle : val  av ys ≤ val  av xs) :
 Calls prog 119 #[.agg #[.bool n1, .slice A xs.length c], .agg #[.bool n2, .slice B ys.length d]] w (       ya w (num n1 xs + num n2 ys) 0) := by
 obtain ⟨hs, hn, hl, _⟩ :=         ym hg;obtain ⟨ht, hm, hl', _⟩ :=         ym hk;have hsum : ∀ zs, val  av zs = val  av xs - val  av ys →  bJ n1 (val  av zs) = num n1 xs + num n2 ys := fun zs h => by
  exact     Sm
 have hfit : ∀ zs, val  av zs = val  av xs - val  av ys → val  av zs <  av ^ 30 := fun zs h => by
  have :=     kp hs;have h3 :  av ^ xs.length ≤  av ^ 30 := Nat.pow_le_pow_right (by unfold  av; omega) om;omega
 have hlen : ys.length ≤ xs.length := by
  rcases Nat.lt_or_ge xs.length ys.length with h | h
  · have :=               xi      qk hs hm h; omega
  · exact h
 have hq : ¬   xz (val  av xs) (val  av ys) < 0 := by unfold   xz; split <;> (try split) <;> omega
 have HS := Lib.hid hsum; have HF := Lib.hid hfit; have HL := Lib.hid hlen; have  yO := Lib.hid hle;clear hsum hfit hlen hle;go_enter func119, ntmps119
 go_wp2_with fail
 refine (      yf n1 c _ A xs om (((hx.alloc _).alloc _).alloc _)).mono ?_;rintro e w1 ⟨rfl, hb1⟩;have X1 := ((( aB.new w 24 #[.bool n1, .slice A xs.length c]).alloc (.cells #[.bool n2, .slice B ys.length d] 24)).alloc (.cells #[.bool false, .slice none 0 0] 24)).below hb1 (by simp; omega);have Y1 := (( aB.new (w.alloc (.cells #[.bool n1, .slice A xs.length c] 24)) 24 #[.bool n2, .slice B ys.length d]).alloc (.cells #[.bool false, .slice none 0 0] 24)).below hb1 (by simp);have R1 := ( aB.new ((w.alloc (.cells #[.bool n1, .slice A xs.length c] 24)).alloc (.cells #[.bool n2, .slice B ys.length d] 24)) 24 #[.bool false, .slice none 0 0]).below hb1 (by simp);have hx1 := (((hx.alloc (.cells #[.bool n1, .slice A xs.length c] 24)).alloc (.cells #[.bool n2, .slice B ys.length d] 24)).alloc (.cells #[.bool false, .slice none 0 0] 24)).below hb1 (Nat.le_refl _);have hy1 := (((hy.alloc (.cells #[.bool n1, .slice A xs.length c] 24)).alloc (.cells #[.bool n2, .slice B ys.length d] 24)).alloc (.cells #[.bool false, .slice none 0 0] 24)).below hb1 (Nat.le_refl _);have L1 : Below w.heap.size w w1 := ((((Below.refl _ _).alloc (Nat.le_refl _) _).alloc (by simp) _).alloc (by simp; omega) _).trans (hb1.mono (by simp; omega));simp only [World.size_alloc] at X1 Y1 R1
 clear hb1;obtain ⟨x0, x1, x2, x3⟩ := X1.two;obtain ⟨y0, y1, y2, y3⟩ := Y1.two;go_wp2_with fail
 refine (      yf n2 d _ B ys om hy1).mono ?_;rintro e w2 ⟨rfl, hb2⟩;have X2 := X1.below hb2 X1.lt; have Y2 := Y1.below hb2 Y1.lt; have R2 := R1.below hb2 R1.lt;have hx2 := hx1.below hb2 (Nat.le_refl _); have hy2 := hy1.below hb2 (Nat.le_refl _);have L2 := L1.trans (hb2.mono L1.size);clear x0 x1 x2 x3 y0 y1 y2 y3 X1 Y1 R1 hx1 hy1 L1 hb2;obtain ⟨x0, x1, x2, x3⟩ := X2.two;obtain ⟨y0, y1, y2, y3⟩ := Y2.two;have hz : w.heap.size + 1 + 1 < w2.heap.size := R2.lt;go_wp2_with fail
 refine (     qvz A B c d xs ys _ hx2 hy2 hs ht hn hm om om).mono ?_;rintro e w2' ⟨rfl, nq, rfl⟩;generalize   xz (val  av xs) (val  av ys) = q at hq ⊢
 have X2 := X2.drewN nq; have Y2 := Y2.drewN nq; have R2 := R2.drewN nq;have hx2 := hx2.drewN nq; have hy2 := hy2.drewN nq;have L2 :=          kd L2 nq;generalize w2.drewN nq = wq at *
 obtain ⟨x0, x1, x2, x3⟩ := X2.two;obtain ⟨y0, y1, y2, y3⟩ := Y2.two;have hz : w.heap.size + 1 + 1 < wq.heap.size := R2.lt;go_wp2_with fail
 go_region_held3 (fun w' => w'.cell? ⟨w.heap.size, 0, none⟩ = some (.bool n1) ∧ w'.cell? ⟨w.heap.size, 1, none⟩ = some (.slice A xs.length c) ∧ w'.cell? ⟨w.heap.size + 1, 1, none⟩ = some (.slice B ys.length d))
  (first | exact ⟨x0, x1, y1⟩ | exact ⟨u0, u1, v1⟩ | exact ⟨p0, p1, q1⟩ | (refine ⟨?_, ?_, ?_⟩ <;> (rw [World.cell?_setCell_other _ _ _ _ (by simp), World.cell?_setCell_other _ _ _ _ (by simp)]; assumption)))
  (first
   | (go_at_call 150; refine (      jV A B c d xs ys _ (by exact hx2.drew) (by exact hy2.drew) hs ht om HL.out  yO.out).mono ?_; rintro e w3 ⟨g, zs, rfl, hrow, hzl, hzs, hzv, hge, hb3⟩; have X3 := X2.drew.below hb3 X2.lt; have Y3 := Y2.drew.below hb3 Y2.lt; have R3 := R2.drew.below hb3 R2.lt; have L3 := L2.drew.trans (hb3.mono L2.size); obtain ⟨u0, u1, u2, u3⟩ := X3.two; obtain ⟨v0, v1, v2, v3⟩ := Y3.two; have HZ := Lib.hid hzl; have HE := Lib.hid (HS.out zs hzv); have HW := Lib.hid hzv; clear hzl hzv)
   | (go_at_call 147; refine (     vak n1 _ _ zs _ (by exact hrow.nums HZ.out (    ydq hzs)) hzs (by have := HZ.out; omega) (HF.out zs HW.out)).mono ?_; rintro e w4 ⟨A4, c4, rfl, hown, hb4⟩; rw [HE.out] at hown ⊢; obtain ⟨p0, p1, p2, p3⟩ := (X3.below hb4 X3.lt).two; obtain ⟨q0, q1, q2, q3⟩ := (Y3.below hb4 Y3.lt).two; obtain ⟨r0, r1, r2, r3⟩ := (R3.below hb4 R3.lt).two; have L4 := L3.trans (hb4.mono L3.size); have hr3 := R3.lt))
 go_wp2
 refine       Ak ?_;exact     qjz hown L4 om hr3 _ _
set_option maxHeartbeats 800000 in
theorem          Ao (n1 n2 : Bool) (hx :   aA w A xs) (hy :   aA w B ys) (hg :    zm n1 xs = true) (hk :    zm n2 ys = true) (hne : (n1 == n2) = false) (hle : val  av xs < val  av ys) :
 Calls prog 119 #[.agg #[.bool n1, .slice A xs.length c], .agg #[.bool n2, .slice B ys.length d]] w (       ya w (num n1 xs + num n2 ys) 0) := by
 obtain ⟨hs, hn, hl, _⟩ :=         ym hg;obtain ⟨ht, hm, hl', _⟩ :=         ym hk;have hsum : ∀ zs, val  av zs = val  av ys - val  av xs →  bJ n2 (val  av zs) = num n1 xs + num n2 ys := fun zs h => by
  exact     Sm
 have hfit : ∀ zs, val  av zs = val  av ys - val  av xs → val  av zs <  av ^ 30 := fun zs h => by
  have :=     kp ht;have h3 :  av ^ ys.length ≤  av ^ 30 := Nat.pow_le_pow_right (by unfold  av; omega) om;omega
 have hlen : xs.length ≤ ys.length := by
  rcases Nat.lt_or_ge ys.length xs.length with h | h
  · have :=               xi      qk ht hn h; omega
  · exact h
 have hq :   xz (val  av xs) (val  av ys) < 0 := by unfold   xz; rw [if_pos hle]; omega
 have HS := Lib.hid hsum; have HF := Lib.hid hfit; have HL := Lib.hid hlen; have  yO := Lib.hid hle;clear hsum hfit hlen hle;go_enter func119, ntmps119
 go_wp2_with fail
 refine (      yf n1 c _ A xs om (((hx.alloc _).alloc _).alloc _)).mono ?_;rintro e w1 ⟨rfl, hb1⟩;have X1 := ((( aB.new w 24 #[.bool n1, .slice A xs.length c]).alloc (.cells #[.bool n2, .slice B ys.length d] 24)).alloc (.cells #[.bool false, .slice none 0 0] 24)).below hb1 (by simp; omega);have Y1 := (( aB.new (w.alloc (.cells #[.bool n1, .slice A xs.length c] 24)) 24 #[.bool n2, .slice B ys.length d]).alloc (.cells #[.bool false, .slice none 0 0] 24)).below hb1 (by simp);have R1 := ( aB.new ((w.alloc (.cells #[.bool n1, .slice A xs.length c] 24)).alloc (.cells #[.bool n2, .slice B ys.length d] 24)) 24 #[.bool false, .slice none 0 0]).below hb1 (by simp);have hx1 := (((hx.alloc (.cells #[.bool n1, .slice A xs.length c] 24)).alloc (.cells #[.bool n2, .slice B ys.length d] 24)).alloc (.cells #[.bool false, .slice none 0 0] 24)).below hb1 (Nat.le_refl _);have hy1 := (((hy.alloc (.cells #[.bool n1, .slice A xs.length c] 24)).alloc (.cells #[.bool n2, .slice B ys.length d] 24)).alloc (.cells #[.bool false, .slice none 0 0] 24)).below hb1 (Nat.le_refl _);have L1 : Below w.heap.size w w1 := ((((Below.refl _ _).alloc (Nat.le_refl _) _).alloc (by simp) _).alloc (by simp; omega) _).trans (hb1.mono (by simp; omega));simp only [World.size_alloc] at X1 Y1 R1
 clear hb1;obtain ⟨x0, x1, x2, x3⟩ := X1.two;obtain ⟨y0, y1, y2, y3⟩ := Y1.two;go_wp2_with fail
 refine (      yf n2 d _ B ys om hy1).mono ?_;rintro e w2 ⟨rfl, hb2⟩;have X2 := X1.below hb2 X1.lt; have Y2 := Y1.below hb2 Y1.lt; have R2 := R1.below hb2 R1.lt;have hx2 := hx1.below hb2 (Nat.le_refl _); have hy2 := hy1.below hb2 (Nat.le_refl _);have L2 := L1.trans (hb2.mono L1.size);clear x0 x1 x2 x3 y0 y1 y2 y3 X1 Y1 R1 hx1 hy1 L1 hb2;obtain ⟨x0, x1, x2, x3⟩ := X2.two;obtain ⟨y0, y1, y2, y3⟩ := Y2.two;have hz : w.heap.size + 1 + 1 < w2.heap.size := R2.lt;go_wp2_with fail
 refine (     qvz A B c d xs ys _ hx2 hy2 hs ht hn hm om om).mono ?_;rintro e w2' ⟨rfl, nq, rfl⟩;generalize   xz (val  av xs) (val  av ys) = q at hq ⊢
 have X2 := X2.drewN nq; have Y2 := Y2.drewN nq; have R2 := R2.drewN nq;have hx2 := hx2.drewN nq; have hy2 := hy2.drewN nq;have L2 :=          kd L2 nq;generalize w2.drewN nq = wq at *
 obtain ⟨x0, x1, x2, x3⟩ := X2.two;obtain ⟨y0, y1, y2, y3⟩ := Y2.two;have hz : w.heap.size + 1 + 1 < wq.heap.size := R2.lt;go_wp2_with fail
 have X4 := (((  X2.uj 0 (.bool n2)).uj   1 (.slice B ys.length d)).far (p := ⟨w.heap.size + 1, 0, none⟩) (by simp) (.bool n1)).far (p := ⟨w.heap.size + 1, 1, none⟩) (by simp) (.slice A xs.length c);have Y4 := (((Y2.far (p := ⟨w.heap.size, 0, none⟩) (by simp) (.bool n2)).far (p := ⟨w.heap.size, 1, none⟩) (by simp) (.slice B ys.length d)).uj   0 (.bool n1)).uj   1 (.slice A xs.length c);have R4 := (((R2.far (p := ⟨w.heap.size, 0, none⟩) (by simp; omega) (.bool n2)).far (p := ⟨w.heap.size, 1, none⟩) (by simp; omega) (.slice B ys.length d)).far (p := ⟨w.heap.size + 1, 0, none⟩) (by simp) (.bool n1)).far (p := ⟨w.heap.size + 1, 1, none⟩) (by simp) (.slice A xs.length c);have L4 := (((L2.setCell (p := ⟨w.heap.size, 0, none⟩) (by simp) (.bool n2)).setCell (p := ⟨w.heap.size, 1, none⟩) (by simp) (.slice B ys.length d)).setCell (p := ⟨w.heap.size + 1, 0, none⟩) (by simp) (.bool n1)).setCell (p := ⟨w.heap.size + 1, 1, none⟩) (by simp) (.slice A xs.length c);clear X2 Y2 R2 L2 x0 x1 x2 x3 y0 y1 y2 y3 hz hx2 hy2;generalize (((wq.setCell ⟨w.heap.size, 0, none⟩ (.bool n2)).setCell ⟨w.heap.size, 1, none⟩ (.slice B ys.length d)).setCell ⟨w.heap.size + 1, 0, none⟩ (.bool n1)).setCell ⟨w.heap.size + 1, 1, none⟩ (.slice A xs.length c) = wz at *
 have X5 :  aB wz w.heap.size 24 #[.bool n2, .slice B ys.length d] := X4;have Y5 :  aB wz (w.heap.size + 1) 24 #[.bool n1, .slice A xs.length c] := Y4;obtain ⟨x0, x1, x2, x3⟩ := X5.two;obtain ⟨y0, y1, y2, y3⟩ := Y5.two;have hz : w.heap.size + 1 + 1 < wz.heap.size := R4.lt;go_region_held3 (fun w' => w'.cell? ⟨w.heap.size, 0, none⟩ = some (.bool n2) ∧ w'.cell? ⟨w.heap.size, 1, none⟩ = some (.slice B ys.length d) ∧ w'.cell? ⟨w.heap.size + 1, 1, none⟩ = some (.slice A xs.length c))
  (first | exact ⟨x0, x1, y1⟩ | exact ⟨u0, u1, v1⟩ | exact ⟨p0, p1, q1⟩ | (refine ⟨?_, ?_, ?_⟩ <;> (rw [World.cell?_setCell_other _ _ _ _ (by simp), World.cell?_setCell_other _ _ _ _ (by simp)]; assumption)))
  (first
   | (go_at_call 150; refine (      jV B A d c ys xs _ (by exact hy.below L4.drew (Nat.le_refl _)) (by exact hx.below L4.drew (Nat.le_refl _)) ht hs om HL.out (Nat.le_of_lt  yO.out)).mono ?_; rintro e w3 ⟨g, zs, rfl, hrow, hzl, hzs, hzv, hge, hb3⟩; have X3 := X5.drew.below hb3 X5.lt; have Y3 := Y5.drew.below hb3 Y5.lt; have R3 := R4.drew.below hb3 R4.lt; have L3 := L4.drew.trans (hb3.mono L4.size); obtain ⟨u0, u1, u2, u3⟩ := X3.two; obtain ⟨v0, v1, v2, v3⟩ := Y3.two; have HZ := Lib.hid hzl; have HE := Lib.hid (HS.out zs hzv); have HW := Lib.hid hzv; clear hzl hzv)
   | (go_at_call 147; refine (     vak n2 _ _ zs _ (by exact hrow.nums HZ.out (    ydq hzs)) hzs (by have := HZ.out; omega) (HF.out zs HW.out)).mono ?_; rintro e w4 ⟨A4, c4, rfl, hown, hb4⟩; rw [HE.out] at hown ⊢; obtain ⟨p0, p1, p2, p3⟩ := (X3.below hb4 X3.lt).two; obtain ⟨q0, q1, q2, q3⟩ := (Y3.below hb4 Y3.lt).two; obtain ⟨r0, r1, r2, r3⟩ := (R3.below hb4 R3.lt).two; have L6 := L3.trans (hb4.mono L3.size); have hr3 := R3.lt))
 go_wp2
 refine       Ak ?_;exact     qjz hown L6 om hr3 _ _
theorem Sn (n1 n2:Bool) (hx:aA w A xs) (hy:aA w B ys) (hl:xs.length≤9223372036854775807) (hl':ys.length≤9223372036854775807) (hg:(zm n1 xs&&zm n2 ys)=false) :
 Calls prog 119 #[.agg #[.bool n1,.slice A xs.length c],.agg #[.bool n2,.slice B ys.length d]] w (ya w 0 3):=by
 cases h:zm n1 xs
 · exact Mv A B c d xs ys w n1 n2 hx hy hl hl' h
 · exact Mw A B c d xs ys w n1 n2 hx hy hl hl' h (by simpa [h] using hg)
theorem sum_lt {n1 n2:Bool} {xs ys:List Nat} (hg:zm n1 xs=true) (hk:zm n2 ys=true) (hne:(n1==n2)=false):(num n1 xs+num n2 ys).natAbs<av^30:=by
 have h1:=vK hg;have h2:=vK hk;have e1:=xy n1 xs;have e2:=xy n2 ys;rw[kk,kk] at *;cases n1<;>cases n2<;>simp[bJ] at hne h1 h2 ⊢ <;>omega
theorem ax5 (n1 n2:Bool) (hx:aA w A xs) (hy:aA w B ys) (hg:zm n1 xs=true) (hk:zm n2 ys=true) (hf:(num n1 xs+num n2 ys).natAbs<av^30) :
 Calls prog 119 #[.agg #[.bool n1,.slice A xs.length c],.agg #[.bool n2,.slice B ys.length d]] w (ya w (num n1 xs+num n2 ys) 0):=by
 cases h:n1==n2
 · rcases Nat.lt_or_ge (val av xs) (val av ys) with h1 | h1
   · exact Ao A B c d xs ys w n1 n2 hx hy hg hk h h1
   · exact Am A B c d xs ys w n1 n2 hx hy hg hk h h1
 · obtain rfl:n1=n2:=by simpa using h
   exact vL A B c d xs ys w n1 hx hy hg hk hf
theorem Mx (n1 n2:Bool) (hx:aA w A xs) (hy:aA w B ys) (hg:zm n1 xs=true) (hk:zm n2 ys=true) (hf:av^30≤(num n1 xs+num n2 ys).natAbs) :
 Calls prog 119 #[.agg #[.bool n1,.slice A xs.length c],.agg #[.bool n2,.slice B ys.length d]] w (ya w 0 7):=by
 cases h:n1==n2
 · have:=sum_lt hg hk h;omega
 · obtain rfl:n1=n2:=by simpa using h
   exact Al A B c d xs ys w n1 hx hy hg hk hf
end
theorem Gg {P:Prop} (h:P:=by
 intro x hx';simp only[List.mem_cons,List.not_mem_nil,or_false] at hx';omega):P:=h
def B9:Nat:=1000000000
theorem jt:2≤B9:=by unfold B9;omega
theorem MC (w:World) (x y:Int) (a b:Nat) (hx:x=(a:Int)) (hy:y=(b:Int)) :
 ∀j u,([a,b].map fun x:Nat=>Value.int .u64 (x:Int))[j]? =some u→(w.alloc (.cells #[.int .u64 x,.int .u64 y] 25)).cell? ((⟨w.heap.size,0,none⟩:Addr).add j)=some u:=by
 subst hx;subst hy;exact cell_two_new w _ _ _
theorem Ap {xs zs:List Nat} {k:Nat} (hz:zs.length=2*k) (h:val B9 zs=val av (xs.take k)) :
 val B9 (zs++ [(nth xs k%1000000000).toNat,(nth xs k/1000000000).toNat])=val av (xs.take (k+1)):=by
 rw[qnq,yg,h,hz];have e:B9^(2*k)=av^k:=by rw[Nat.pow_mul];rfl
 rw[e];congr 1
 congr 1
 simp only[val,Nat.mul_zero,Nat.add_zero]
 unfold nth B9;omega
set_option maxRecDepth 100000 in
set_option maxHeartbeats 400000 in
theorem yrv (A:Option Addr) (c:Nat) (xs:List Nat) (w:World) (hx:aA w A xs) (hs:small av xs) (hl:xs.length≤1048576) :
 Calls prog 175 #[.slice A xs.length c] w fun e w'=>∃A' c' zs,e= .returned (.slice A' zs.length c')∧Own w' w.heap.size A' c' zs∧zs=aS B9 (val av xs)∧Below w.heap.size w w':=by
 go_enter func175,ntmps175
 go_wp2
 go_loopw [3,8] (fun v i wr=>∃(k:Nat) (A':Option Addr) (c':Nat) (zs:List Nat),k≤xs.length∧i= .int .i64 k∧v= .slice A' zs.length c'∧Own wr w.heap.size A' c' zs∧zs.length=2*k∧small B9 zs∧
  val B9 zs=val av (xs.take k)∧Below w.heap.size w wr) (fun _ i _=>xs.length-(intOf i).toNat)
 case atStart=>exact ⟨0,none,0,[],Nat.zero_le _,rfl,rfl,Own.nil _ _,rfl,ke,rfl,Below.refl _ _⟩
 case round=>
  obtain ⟨k,A',c',zs,hk,rfl,rfl,hown,hzl,hzs,hzv,hbel⟩:=hrel;have HL:=Lib.hid hzl;have HV:=Lib.hid hzv;by_cases hlt:k<xs.length
  · obtain ⟨b,o,rfl,hb,hc⟩:=hx.2 om;have hca:wr.cell? ⟨b,o+k,none⟩=some (.int .u64 (nth xs k)):=(hbel.cell (p:=⟨b,o+k,none⟩) hb).trans (hc k hlt);have hx0:=zu xs k;have hx1:nth xs k<1000000000000000000:=qr (by unfold av;omega) hs k;have e1:nth xs k%1000000000=(((nth xs k%1000000000).toNat:Nat):Int):=om;have e2:nth xs k/1000000000=(((nth xs k/1000000000).toNat:Nat):Int):=om;have HC:=Lib.hid (MC wr _ _ _ _ e1 e2);have hsz:=hbel.size;clear hc e1 e2 hzl hzv;have H64:Hid (∀x∈ [(nth xs k%1000000000).toNat,(nth xs k/1000000000).toNat],x<18446744073709551616):=by
     exact Gg
    have HN:Hid (zs.length+ [(nth xs k%1000000000).toNat,(nth xs k/1000000000).toNat].length≤17592186044416):=by
     have:=HL.out;show zs.length+2≤_;omega
    go_wp2_with (at_builtin;go_loud (refine ynv rfl (.tmp 12) (.tmp 17) rfl w.heap.size A' c' zs rfl (hown.alloc _) [(nth xs k%1000000000).toNat,(nth xs k/1000000000).toNat] ⟨wr.heap.size,0,none⟩ 2 2 rfl rfl (by exact HC.out) H64.out HN.out (by simp;omega) (fun A2 c2 w2 hown2 hg2=>?_)))
    go_roundw
    case rel=>exact ⟨k+1,A2,c2,zs++ [(nth xs k%1000000000).toNat,(nth xs k/1000000000).toNat],om,by go_num,by simp,hown2,by have:=HL.out;simp;omega,
     yoq.2 ⟨hzs,by intro y hy;simp only[List.mem_cons,List.not_mem_nil,or_false] at hy;unfold B9;omega⟩,Ap HL.out HV.out,Below.own (hbel.alloc hsz _) (hown.alloc _) (by simp;omega) hg2⟩
    case measure=>simp[intOf];omega
  · obtain rfl:k=xs.length:=om;have hv:=HV.out;rw[vk _ _ (Nat.le_refl _)] at hv;have Fa:=Lib.hid hv;have hle:zs.length≤2097152:=om;clear hv hzl hzv;go_wp2
    go_loop [3] (fun v=>∃(A':Option Addr) (c':Nat) (ys:List Nat),v= .slice A' ys.length c'∧Own wr w.heap.size A' c' ys∧small B9 ys∧val B9 ys=val av xs∧ys.length≤2097152) (fun v=>lenOf v)
    case atStart=>exact ⟨A',c',zs,rfl,hown,hzs,Fa.out,hle⟩
    case round=>
     obtain ⟨A3,c3,ys,rfl,hown3,hys,hyv,hyl⟩:=hrel;have HY:=Lib.hid hyv;clear hyv hown hzs hle;by_cases h0:ys.length=0
     · obtain rfl:=List.eq_nil_of_length_eq_zero h0;clear h0;go_wp2
       go_ret
       exact ⟨A3,c3,[],rfl,hown3,by rw[←HY.out];rfl,hbel⟩
     · obtain ⟨m,hm⟩:∃m,ys.length=m+1:=⟨ys.length-1,om⟩;obtain ⟨b,o,rfl,hb,hc⟩:=hown3.nums.2 om;have hcell:=hc m om;have HO:=Lib.hid hown3;have HM:=Lib.hid hm;have hm2:m≤2097152:=om;have hmc:m≤c3:=by
        rcases hown3.1.2 with ⟨_,h⟩ | ⟨g,cap,cur,hv,_,_,hle,_⟩
        · omega
        · injection hv;omega
       by_cases hl0:nth ys m=0
       · have hb0:(nth ys m==0)=true:=beq_iff_eq.2 hl0;have HZ:=Lib.hid hl0;clear hc hown3 h0 hl0;rw[hm];go_wp2
         have hml:(ys.take m).length=m:=by rw[List.length_take];omega
         have hv2:val B9 (ys.take m)=val B9 ys:=jg ys m fun j hj hj'=>by
          have e:j=m:=om;have:=HZ.out;rw[e];unfold nth at this;omega
         go_roundw
         case rel=>exact ⟨_,c3,ys.take m,by rw[hml],HO.out.cut (fun e=>by rw[e] at hm;simp at hm) om,gm hys m,hv2.trans HY.out,om⟩
         case measure=>show m<m+1;omega
       · have hb0:(nth ys m==0)=false:=beq_eq_false_iff_ne.2 hl0;have HZ:=Lib.hid hl0;have hd:ys=aS B9 (val av xs):=by
          rw[←HY.out];refine vH jt hys (Or.inr ?_);rw[hm,Nat.add_sub_cancel];unfold nth at hl0;omega
         have HD:=Lib.hid hd;clear hc hown3 h0 hl0 hd;rw[hm];go_wp2
         go_ret
         exact ⟨_,c3,ys,by rw[hm];rfl,HO.out,HD.out,hbel⟩
theorem Sq {b:Nat} (l:List Nat) (m:Nat) (h:m<l.length):val b (l.drop m)=l.getD m 0+b*val b (l.drop (m+1)):=by
 rw[List.drop_eq_getElem_cons h];simp[val,List.getD,List.getElem?_eq_getElem h]
theorem drop_set (l:List Nat) (m q:Nat) (h:m<l.length):(l.set m q).drop m=q::l.drop (m+1):=by
 rw[List.drop_eq_getElem_cons (by simpa using h)];simp[List.drop_set_of_lt]
theorem jz {b:Nat} {l:List Nat} (h:small b l) (m q:Nat) (hq:q<b):small b (l.set m q):=by
 intro x hx;rcases List.mem_or_eq_of_mem_set hx with h1 | h1
 · exact h x h1
 · subst h1;exact hq
theorem Gh {us ys:List Nat} {m:Nat} {rest d:Int} (hm:m<us.length) (hy:ys.length=us.length) (hd:0<d) (h0:0≤rest)
 (h:val B9 (us.drop (m+1))=val B9 (ys.drop (m+1))*d.toNat+rest.toNat) :
 val B9 (us.drop m)=val B9 ((ys.set m ((rest*1000000000+nth us m)/d).toNat).drop m)*d.toNat+((rest*1000000000+nth us m)%d).toNat:=by
 rw[drop_set _ _ _ om,Sq us m hm,h];obtain ⟨r,rfl⟩:=Int.eq_ofNat_of_zero_le h0;obtain ⟨e,rfl⟩:=Int.eq_ofNat_of_zero_le (Int.le_of_lt hd);have e1:nth us m=((us.getD m 0:Nat):Int):=by unfold nth;rfl
 rw[e1];generalize us.getD m 0=x
 have e2:(((r:Int)*1000000000+(x:Int))/(e:Int)).toNat=(r*B9+x)/e:=by
  have:((r:Int)*1000000000+(x:Int))=((r*B9+x:Nat):Int):=by unfold B9;omega
  rw[this,←Int.natCast_ediv,Int.toNat_natCast]
 have e3:(((r:Int)*1000000000+(x:Int))%(e:Int)).toNat=(r*B9+x)%e:=by
  have:((r:Int)*1000000000+(x:Int))=((r*B9+x:Nat):Int):=by unfold B9;omega
  rw[this,←Int.natCast_emod,Int.toNat_natCast]
 rw[e2,e3];simp only[Int.toNat_natCast,val]
 have e4:=Nat.div_add_mod (r*B9+x) e;generalize (r*B9+x)/e=q at *
 generalize (r*B9+x)%e=s at *
 generalize val B9 (ys.drop (m+1))=V
 rw[Nat.add_mul,Nat.mul_add,←Nat.mul_assoc,Nat.mul_comm q e,Nat.mul_comm B9 r];omega
theorem Aq {T d:Int} (hd:0<d) (h0:0≤T) (hT:T<d*1000000000):0≤T/d∧T/d<1000000000∧0≤T%d∧T%d<d:=
 ⟨Int.ediv_nonneg h0 om,Int.ediv_lt_of_lt_mul hd (by rw[Int.mul_comm];exact hT),Int.emod_nonneg _ om,Int.emod_lt_of_pos _ hd⟩
set_option maxRecDepth 100000 in
set_option maxHeartbeats 400000 in
theorem qU (A:Option Addr) (c:Nat) (us:List Nat) (d:Int) (w:World) (hx:aA w A us) (hs:small B9 us) (hl:us.length≤1048576) (hd:0<d) (hd9:d<1000000000) :
 Calls prog 176 #[.slice A us.length c,.int .u64 d] w fun e w'=>∃g zs r,e= .returned (.tuple #[.slice (some ⟨g,0,none⟩) zs.length zs.length,.int .u64 r])∧Row w' g zs.length zs∧
  zs.length=us.length∧small B9 zs∧0≤r∧r<d∧val B9 us=val B9 zs*d.toNat+r.toNat∧w.heap.size≤g∧Below w.heap.size w w':=by
 have hmk:=qcx us.length om;have hd0:(d==0)=false:=beq_eq_false_iff_ne.2 om;go_enter func176,ntmps176
 go_wp2
 go_loopw [7,8] (fun rv v wr=>∃(k:Nat) (ys:List Nat) (rest:Int),k≤us.length∧v= .int .i64 ((k:Int)-1)∧rv= .int .u64 rest∧0≤rest∧rest<d∧ys.length=us.length∧small B9 ys∧
  val B9 (us.drop k)=val B9 (ys.drop k)*d.toNat+rest.toNat∧Row wr w.heap.size us.length ys∧Below w.heap.size w wr) (fun _ v _=>(intOf v+1).toNat)
 case atStart=>
  have h1:=(Row.made w us.length).fill;simp only[List.nil_append,List.length_nil,Nat.sub_zero] at h1
  exact ⟨us.length,List.replicate us.length 0,0,Nat.le_refl _,rfl,rfl,om,hd,by simp,fun x hx=>by rw[List.mem_replicate] at hx;rw[hx.2];unfold B9;omega,by simp[val],h1,(Below.refl _ _).alloc (Nat.le_refl _) _⟩
 case round=>
  obtain ⟨k,ys,rest,hk,rfl,rfl,hr0,hr1,hyl,hys,hval,hrow,hbel⟩:=hrel;have HV:=Lib.hid hval;have HY:=Lib.hid hyl;clear hval hyl;by_cases hk0:k=0
  · subst hk0;go_wp2
    go_ret2
    have hv:=HV.out;simp only[List.drop_zero] at hv
    exact ⟨w.heap.size,ys,rest,by rw[HY.out];rfl,by rw[HY.out];exact hrow,HY.out,hys,hr0,hr1,hv,Nat.le_refl _,hbel⟩
  · obtain ⟨m,rfl⟩:∃m,k=m+1:=⟨k-1,om⟩;obtain ⟨b,o,rfl,hb,hc⟩:=hx.2 om;have hca:wr.cell? ⟨b,o+m,none⟩=some (.int .u64 (nth us m)):=(hbel.cell (p:=⟨b,o+m,none⟩) hb).trans (hc m om);have hx0:=zu us m;have hx1:nth us m<1000000000:=qr (by unfold B9;omega) hs m;have hbd:=Aq (T:=rest*1000000000+nth us m) hd om om;obtain ⟨q0,q1,q2,q3⟩:=hbd;have hcell:=hrow.cell (j:=m) om;have hfro:=hrow.frozen m;have hlt:=hrow.lt;have hm1:(m:Int)<(us.length:Int):=om;have hm0:(0:Int)≤(m:Int):=om;clear hc;go_wp2
    go_region
    go_wp2
    go_roundw
    case rel=>exact ⟨m,ys.set m ((rest*1000000000+nth us m)/d).toNat,(rest*1000000000+nth us m)%d,om,by go_num,rfl,q2,q3,by rw[List.length_set];exact HY.out,jz hys _ _ (by unfold B9;omega),
     Gh om HY.out hd hr0 HV.out,(hrow.setInt _ q0 (by have:=HY.out;omega)).drew,(hbel.setCell (Nat.le_refl _) _).drew⟩
    case measure=>simp[intOf]
theorem vmv (w:World) (x:Int) (a:Nat) (hx:x=(a:Int)) :
 ∀j u,([a].map fun x:Nat=>Value.int .u64 (x:Int))[j]? =some u→(w.alloc (.cells #[.int .u64 x] 25)).cell? ((⟨w.heap.size,0,none⟩:Addr).add j)=some u:=by
 subst hx;intro j u hj;match j,hj with
 | 0,hj=>simp at hj;subst hj;simp[Addr.add]
theorem ap3 (k:Nat):B9^(2*k)=av^k:=by rw[Nat.pow_mul];rfl
theorem vcx {us zs:List Nat} {k:Nat} (hz:zs.length=k) (h:val av zs=val B9 (us.take (2*k))) (x:Int) (hx:x=nth us (2*k)+1000000000*nth us (2*k+1)) :
 val av (zs++ [x.toNat])=val B9 (us.take (2*(k+1))):=by
 rw[zrz,hz,show 2*(k+1)=2*k+1+1 from om,yg,yg,h,Nat.pow_succ,ap3];have e:x.toNat=us.getD (2*k) 0+B9*us.getD (2*k+1) 0:=by rw[hx];unfold nth B9;omega
 rw[e,Nat.mul_add,Nat.mul_assoc];omega
set_option maxRecDepth 100000 in
set_option maxHeartbeats 400000 in
theorem qdk (A:Option Addr) (c:Nat) (us:List Nat) (w:World) (hx:aA w A us) (hs:small B9 us) (hl:us.length≤1048576) :
 Calls prog 177 #[.slice A us.length c] w fun e w'=>∃A' c' zs,e= .returned (.slice A' zs.length c')∧Own w' w.heap.size A' c' zs∧small av zs∧val av zs=val B9 us∧zs.length≤us.length∧Below w.heap.size w w':=by
 go_enter func177,ntmps177
 go_wp2
 go_loopw [3,4] (fun v i wr=>∃(k:Nat) (A':Option Addr) (c':Nat) (zs:List Nat),2*k≤us.length+1∧i= .int .i64 (2*(k:Int))∧v= .slice A' zs.length c'∧Own wr w.heap.size A' c' zs∧zs.length=k∧small av zs∧
  val av zs=val B9 (us.take (2*k))∧Below w.heap.size w wr) (fun _ i _=>us.length+2-(intOf i).toNat)
 case atStart=>exact ⟨0,none,0,[],om,rfl,rfl,Own.nil _ _,rfl,ke,rfl,Below.refl _ _⟩
 case round=>
  obtain ⟨k,A',c',zs,hk,rfl,rfl,hown,hzl,hzs,hzv,hbel⟩:=hrel;have HL:=Lib.hid hzl;have HV:=Lib.hid hzv;by_cases hlt:2*k<us.length
  · obtain ⟨b,o,rfl,hb,hc⟩:=hx.2 om;have ek:(2*(k:Int))=((2*k:Nat):Int):=om;have ek1:(2*(k:Int)+1).toNat=2*k+1:=om;have hca:wr.cell? ⟨b,o+2*k,none⟩=some (.int .u64 (nth us (2*k))):=(hbel.cell (p:=⟨b,o+2*k,none⟩) hb).trans (hc (2*k) hlt);have hx0:=zu us (2*k);have hx1:nth us (2*k)<1000000000:=qr (by unfold B9;omega) hs _;have hy0:=zu us (2*k+1);have hy1:nth us (2*k+1)<1000000000:=qr (by unfold B9;omega) hs _;have hsz:=hbel.size;have hi1:(2*(k:Int))<(us.length:Int):=om;have hi0:(0:Int)≤2*(k:Int):=om;by_cases hlt2:2*k+1<us.length
    · have hcb:wr.cell? ⟨b,o+(2*k+1),none⟩=some (.int .u64 (nth us (2*k+1))):=(hbel.cell (p:=⟨b,o+(2*k+1),none⟩) hb).trans (hc (2*k+1) hlt2);have hi2:(2*(k:Int)+1)<(us.length:Int):=om;have e1:nth us (2*k)+1000000000*nth us (2*k+1)=(((nth us (2*k)+1000000000*nth us (2*k+1)).toNat:Nat):Int):=om;have HC:=Lib.hid (vmv wr _ _ e1);have H64:Hid (∀x∈ [(nth us (2*k)+1000000000*nth us (2*k+1)).toNat],x<18446744073709551616):=by
       exact Gg
      have HN:Hid (zs.length+ [(nth us (2*k)+1000000000*nth us (2*k+1)).toNat].length≤17592186044416):=by
       have:=HL.out;show zs.length+1≤_;omega
      clear hc e1 hzl hzv ek ek1;go_wp2_with (at_builtin;go_loud (refine ynv rfl (.tmp 29) (.tmp 31) rfl w.heap.size A' c' zs rfl (hown.alloc _) [(nth us (2*k)+1000000000*nth us (2*k+1)).toNat] ⟨wr.heap.size,0,none⟩ 1 1 rfl rfl (by exact HC.out) H64.out HN.out (by simp;omega) (fun A2 c2 w2 hown2 hg2=>?_)))
      go_roundw
      case rel=>exact ⟨k+1,A2,c2,zs++ [(nth us (2*k)+1000000000*nth us (2*k+1)).toNat],om,by go_num,by simp,hown2,by have:=HL.out;simp;omega,
       jy hzs (by unfold av;omega),vcx HL.out HV.out _ rfl,Below.own (hbel.alloc hsz _) (hown.alloc _) (by simp;omega) hg2⟩
      case measure=>simp[intOf];omega
    · have hi2:¬(2*(k:Int)+1)<(us.length:Int):=om;have hy2:nth us (2*k+1)=0:=kl us _ om;have e1:nth us (2*k)=(((nth us (2*k)).toNat:Nat):Int):=om;have HC:=Lib.hid (vmv wr _ _ e1);have H64:Hid (∀x∈ [(nth us (2*k)).toNat],x<18446744073709551616):=by
       exact Gg
      have HN:Hid (zs.length+ [(nth us (2*k)).toNat].length≤17592186044416):=by
       have:=HL.out;show zs.length+1≤_;omega
      have HY2:=Lib.hid hy2;clear hc e1 hzl hzv ek ek1 hy2;go_wp2_with (at_builtin;go_loud (refine ynv rfl (.tmp 29) (.tmp 31) rfl w.heap.size A' c' zs rfl (hown.alloc _) [(nth us (2*k)).toNat] ⟨wr.heap.size,0,none⟩ 1 1 rfl rfl (by exact HC.out) H64.out HN.out (by simp;omega) (fun A2 c2 w2 hown2 hg2=>?_)))
      go_roundw
      case rel=>exact ⟨k+1,A2,c2,zs++ [(nth us (2*k)).toNat],om,by go_num,by simp,hown2,by have:=HL.out;simp;omega,
       jy hzs (by unfold av;omega),vcx HL.out HV.out _ (by rw[HY2.out];omega),Below.own (hbel.alloc hsz _) (hown.alloc _) (by simp;omega) hg2⟩
      case measure=>simp[intOf];omega
  · have hv:=HV.out;rw[vk _ _ om] at hv;have Fa:=Lib.hid hv;have hi1:¬(2*(k:Int))<(us.length:Int):=om;have hle:zs.length≤us.length:=om;clear hv hzl hzv;go_wp2
    go_ret
    exact ⟨A',c',zs,rfl,hown,hzs,Fa.out,hle,hbel⟩
theorem Ar {us zs:List Nat} {k:Nat} {cy d:Int} (hz:zs.length=k) (h0:0≤cy) (hd:0≤d) (h:val B9 zs+B9^k*cy.toNat=val B9 (us.take k)*d.toNat) :
 val B9 (zs++ [((cy+nth us k*d)%1000000000).toNat])+B9^(k+1)*((cy+nth us k*d)/1000000000).toNat=val B9 (us.take (k+1))*d.toNat:=by
 rw[zrz,yg,hz,Nat.pow_succ];have e1:nth us k=((us.getD k 0:Nat):Int):=by unfold nth;rfl
 rw[e1];generalize us.getD k 0=x at *
 obtain ⟨c,rfl⟩:=Int.eq_ofNat_of_zero_le h0;obtain ⟨e,rfl⟩:=Int.eq_ofNat_of_zero_le hd;have e3:(((c:Int)+(x:Int)*(e:Int))%1000000000).toNat=(c+x*e)%B9:=by
  rw[←Int.natCast_mul];unfold B9;omega
 have e4:(((c:Int)+(x:Int)*(e:Int))/1000000000).toNat=(c+x*e)/B9:=by
  rw[←Int.natCast_mul];unfold B9;omega
 rw[e3,e4];simp only[Int.toNat_natCast] at h ⊢
 have e5:=Nat.mod_add_div (c+x*e) B9;generalize (c+x*e)%B9=s at *
 generalize (c+x*e)/B9=q at *
 have e6:B9^k*s+B9^k*(B9*q)=B9^k*c+B9^k*(x*e):=by rw[←Nat.mul_add,e5,Nat.mul_add]
 rw[Nat.add_mul,Nat.mul_assoc,Nat.mul_assoc];omega
set_option maxRecDepth 100000 in
set_option maxHeartbeats 400000 in
theorem jW (A:Option Addr) (c:Nat) (us:List Nat) (d:Int) (w:World) (hx:aA w A us) (hs:small B9 us) (hl:us.length≤1048576) (hd:0≤d) (hd9:d≤1000000000) :
 Calls prog 178 #[.slice A us.length c,.int .u64 d] w (F8 w B9 (us.length+1) (val B9 us*d.toNat)):=by
 have hmk:=qcx (us.length+1) om;rw[show ((us.length+1:Nat):Int)=(us.length:Int)+1 from om] at hmk;go_enter func178,ntmps178
 go_wp2
 go_loopw [6,15] (fun cv v wr=>∃(k:Nat) (zs:List Nat) (cy:Int),k≤us.length∧v= .int .i64 k∧cv= .int .u64 cy∧0≤cy∧cy<1000000000∧zs.length=k∧small B9 zs∧
  val B9 zs+B9^k*cy.toNat=val B9 (us.take k)*d.toNat∧Row wr w.heap.size (us.length+1) zs∧Below w.heap.size w wr) (fun _ v _=>us.length-(intOf v).toNat)
 case atStart=>exact ⟨0,[],0,Nat.zero_le _,rfl,rfl,om,om,rfl,ke,by simp[val],Row.made w _,(Below.refl _ _).alloc (Nat.le_refl _) _⟩
 case round=>
  obtain ⟨k,zs,cy,hk,rfl,rfl,hc0,hc1,hzl,hzs,hval,hrow,hbel⟩:=hrel;have HV:=Lib.hid hval;have HZ:=Lib.hid hzl;clear hval hzl;have hcell:=hrow.cell (j:=k) om;have hfro:=hrow.frozen k;have hlt:=hrow.lt;by_cases hlt':k<us.length
  · obtain ⟨b,o,rfl,hb,hc⟩:=hx.2 om;have hca:wr.cell? ⟨b,o+k,none⟩=some (.int .u64 (nth us k)):=(hbel.cell (p:=⟨b,o+k,none⟩) hb).trans (hc k hlt');have hxk:nth us k<1000000000:=qr (by unfold B9;omega) hs k;have Gf:=zu us k;have hp0:0≤nth us k*d:=Int.mul_nonneg Gf hd;have hp1:nth us k*d≤999999999*1000000000:=by
     have h1:nth us k*d≤999999999*d:=Int.mul_le_mul_of_nonneg_right om hd;omega
    clear hc;go_wp2
    go_roundw
    case rel=>exact ⟨k+1,zs++ [((cy+nth us k*d)%1000000000).toNat],(cy+nth us k*d)/1000000000,om,by go_num,rfl,om,om,by simp[HZ.out],
     jy hzs (by unfold B9;omega),Ar HZ.out hc0 hd HV.out,hrow.cB _ om HZ.out om,hbel.setCell (Nat.le_refl _) _⟩
    case measure=>simp[intOf];omega
  · obtain rfl:k=us.length:=om;have hv:=HV.out;rw[vk _ _ (Nat.le_refl _)] at hv;have Fa:=Lib.hid hv;clear hv;go_wp2
    go_ret
    exact ⟨w.heap.size,zs++ [cy.toNat],by simp[HZ.out],hrow.cB _ hc0 HZ.out om,by simp[HZ.out],jy hzs (by unfold B9;omega),by rw[zrz,HZ.out];exact Fa.out,Nat.le_refl _,hbel.setCell (Nat.le_refl _) _⟩
theorem zvq {b:Nat} (l:List Nat) (k x:Nat) (h:k<l.length):val b (l.set k x)+b^k*l.getD k 0=val b l+b^k*x:=by
 induction l generalizing k with
 | nil=>simp at h
 | cons y l ih=>
  cases k with
  | zero=>simp[val];omega
  | succ k=>
   have:=ih k (by simpa using h);simp only[List.set_cons_succ,val,List.getD_cons_succ,Nat.pow_succ]
   have h2:b*(val b (l.set k x)+b^k*l.getD k 0)=b*(val b l+b^k*x):=by rw[this]
   rw[Nat.mul_add,Nat.mul_add,←Nat.mul_assoc,←Nat.mul_assoc] at h2;rw[Nat.mul_comm (b^k) b];omega
theorem zdv {b:Nat} (hb:2≤b) {l:List Nat} {k:Nat} (h:val b l<b^k) (j:Nat) (hj:k≤j):l.getD j 0=0:=by
 rcases Nat.eq_zero_or_pos (l.getD j 0) with h0 | h0
 · exact h0
 · exfalso
   have e:=qez (b:=b) l (j+1);rw[yg] at e;have h1:b^k≤b^j:=Nat.pow_le_pow_right om hj;have h2:b^j*1≤b^j*l.getD j 0:=Nat.mul_le_mul_left _ h0;omega
theorem ywk {b:Nat} (hb:2≤b) {l:List Nat} (hs:small b l) {k:Nat} (h:∀j,k≤j→l.getD j 0=0):val b l<b^k:=by
 rw[←jg (b:=b) l k (fun j hj _=>h j hj)];have h1:=kp (gm hs k);have h2:b^(l.take k).length≤b^k:=Nat.pow_le_pow_right om (by rw[List.length_take];omega);omega
theorem qV {us ys vs:List Nat} {t k Q:Nat} {x' bw bw':Int} (hk:t+k<ys.length) (hb:0≤bw) (hb':0≤bw') (hx':0≤x')
 (h:val B9 ys+B9^t*(Q*val B9 (vs.take k))=val B9 us+B9^(t+k)*bw.toNat)
 (hx:x'+((Q:Int)*nth vs k+bw)=nth ys (t+k)+1000000000*bw') :
 val B9 (ys.set (t+k) x'.toNat)+B9^t*(Q*val B9 (vs.take (k+1)))=val B9 us+B9^(t+(k+1))*bw'.toNat:=by
 have hs:=zvq (b:=B9) ys (t+k) x'.toNat hk;rw[yg];obtain ⟨b,rfl⟩:=Int.eq_ofNat_of_zero_le hb;obtain ⟨c,rfl⟩:=Int.eq_ofNat_of_zero_le hb';obtain ⟨z,rfl⟩:=Int.eq_ofNat_of_zero_le hx';simp only[Int.toNat_natCast] at *
 have e:z+(Q*vs.getD k 0+b)=ys.getD (t+k) 0+B9*c:=by
  have e1:nth vs k=((vs.getD k 0:Nat):Int):=by unfold nth;rfl
  have e2:nth ys (t+k)=((ys.getD (t+k) 0:Nat):Int):=by unfold nth;rfl
  rw[e1,e2,←Int.natCast_mul] at hx;unfold B9;omega
 have e3:B9^(t+k)*z+B9^(t+k)*(Q*vs.getD k 0)+B9^(t+k)*b=B9^(t+k)*ys.getD (t+k) 0+B9^(t+k)*(B9*c):=by
  rw[←Nat.mul_add,←Nat.mul_add,←Nat.mul_add,Nat.add_assoc,e]
 have e4:B9^t*(Q*(val B9 (vs.take k)+B9^k*vs.getD k 0))=B9^t*(Q*val B9 (vs.take k))+B9^(t+k)*(Q*vs.getD k 0):=by
  rw[Nat.mul_add,Nat.mul_add,Nat.pow_add,Nat.mul_left_comm Q,Nat.mul_assoc]
 have e5:B9^(t+(k+1))*c=B9^(t+k)*(B9*c):=by rw[←Nat.add_assoc,Nat.pow_succ,Nat.mul_assoc]
 rw[e4,e5];omega
theorem Gi {s x:Int} (h0:0≤s) (h1:s≤999999999*1000000000) (hx0:0≤x) (hx1:x<1000000000) :
 0≤s/1000000000∧s/1000000000≤999999999∧0≤s%1000000000∧s%1000000000<1000000000∧(x<s%1000000000→s/1000000000+1≤999999999):=by
 refine ⟨om,om,om,om,fun h=>om⟩
def Sr (ys:List Nat) (k:Nat):Prop:=∀j,k≤j→ys.getD j 0=0
theorem zkz {ys:List Nat} {k:Nat} (h:Sr ys k) (i x:Nat) (hi:i<k):Sr (ys.set i x) k:=by
 intro j hj;have e:(ys.set i x).getD j 0=ys.getD j 0:=by simp[List.getD,show ¬i=j from om]
 rw[e];exact h j hj
theorem oZ {ys zs vs:List Nat} {t k:Nat} {cy s:Int} (hk:t+k<zs.length) (hc:0≤cy) (hs:s=nth zs (t+k)+nth vs k+cy)
 (h:val B9 zs+B9^(t+k)*cy.toNat=val B9 ys+B9^t*val B9 (vs.take k)) :
 val B9 (zs.set (t+k) (s%1000000000).toNat)+B9^(t+(k+1))*(s/1000000000).toNat=val B9 ys+B9^t*val B9 (vs.take (k+1)):=by
 have h1:=zvq (b:=B9) zs (t+k) (s%1000000000).toNat hk;rw[yg,Nat.mul_add,←Nat.mul_assoc,←Nat.pow_add,←Nat.add_assoc,Nat.pow_succ,Nat.mul_assoc];have e:(s%1000000000).toNat+B9*(s/1000000000).toNat=zs.getD (t+k) 0+vs.getD k 0+cy.toNat:=by
  have e1:nth vs k=((vs.getD k 0:Nat):Int):=by unfold nth;rfl
  have e2:nth zs (t+k)=((zs.getD (t+k) 0:Nat):Int):=by unfold nth;rfl
  rw[e1,e2] at hs;unfold B9;omega
 have e2:B9^(t+k)*(s%1000000000).toNat+B9^(t+k)*(B9*(s/1000000000).toNat)=B9^(t+k)*zs.getD (t+k) 0+B9^(t+k)*vs.getD k 0+B9^(t+k)*cy.toNat:=by
  rw[←Nat.mul_add,e,Nat.mul_add,Nat.mul_add]
 omega
def Sv (w:World) (g n t Q V U:Nat) (e:Ending) (w':World):Prop:=
 ∃(ys:List Nat) (b:Bool),e= .returned (.bool b)∧Row w' g n ys∧ys.length=n∧small B9 ys∧w.grownBy w' (some g)∧val B9 ys+B9^t*(Q*V)=U+(if b then 0 else B9^t*V)∧(b=false→U<B9^t*(Q*V))
theorem Sw {ys:List Nat} {t m Q V U:Nat} {bw:Int} (hk:t+m<ys.length) (hb:0≤bw) (hle:bw≤nth ys (t+m)) (h:val B9 ys+B9^t*(Q*V)=U+B9^(t+m)*bw.toNat) :
 val B9 (ys.set (t+m) (nth ys (t+m)-bw).toNat)+B9^t*(Q*V)=U:=by
 have h1:=zvq (b:=B9) ys (t+m) (nth ys (t+m)-bw).toNat hk;have e:ys.getD (t+m) 0=(nth ys (t+m)-bw).toNat+bw.toNat:=by unfold nth at hle ⊢;omega
 rw[e,Nat.mul_add] at h1;omega
theorem aa9 {ys:List Nat} {t m Q V U:Nat} {bw:Int} (hk:t+m<ys.length) (hb:0≤bw) (hb1:bw≤1000000000) (h:val B9 ys+B9^t*(Q*V)=U+B9^(t+m)*bw.toNat) :
 val B9 (ys.set (t+m) (nth ys (t+m)+1000000000-bw).toNat)+B9^t*(Q*V)=U+B9^(t+m+1):=by
 have h1:=zvq (b:=B9) ys (t+m) (nth ys (t+m)+1000000000-bw).toNat hk;have e:(nth ys (t+m)+1000000000-bw).toNat+bw.toNat=ys.getD (t+m) 0+B9:=by unfold nth B9;omega
 have e2:B9^(t+m)*(nth ys (t+m)+1000000000-bw).toNat+B9^(t+m)*bw.toNat=B9^(t+m)*ys.getD (t+m) 0+B9^(t+m)*B9:=by rw[←Nat.mul_add,e,Nat.mul_add]
 rw[Nat.pow_succ];omega
theorem ME {ys:List Nat} {t m Q V U:Nat} {bw:Int} (hk:t+m<ys.length) (hs:small B9 ys) (hz:Sr ys (t+m+1)) (hb:0≤bw) (hlt:nth ys (t+m)<bw) (h:val B9 ys+B9^t*(Q*V)=U+B9^(t+m)*bw.toNat) :
 U<B9^t*(Q*V):=by
 have e1:=jg (b:=B9) ys (t+m+1) (fun j hj _=>hz j hj);rw[yg] at e1;have h1:=kp (gm hs (t+m));rw[List.length_take,Nat.min_eq_left om] at h1;have h2:B9^(t+m)*(ys.getD (t+m) 0+1)≤B9^(t+m)*bw.toNat:=Nat.mul_le_mul_left _ (by unfold nth at hlt;omega);rw[Nat.mul_add,Nat.mul_one] at h2;omega
theorem MG {zs ys:List Nat} {t m Q V U:Nat} {cy:Int} (hk:t+m<zs.length) (hs:small B9 zs) (hz:Sr zs (t+m+1)) (hc:0≤cy) (hc1:cy≤1)
 (h1:val B9 zs+B9^(t+m)*cy.toNat=val B9 ys+B9^t*V) (h2:val B9 ys+B9^t*(Q*V)=U+B9^(t+m+1)) (hp:B9^t*(Q*V)≤U+B9^t*V) :
 val B9 (zs.set (t+m) ((nth zs (t+m)+cy)%1000000000).toNat)+B9^t*(Q*V)=U+B9^t*V:=by
 have hset:=zvq (b:=B9) zs (t+m) ((nth zs (t+m)+cy)%1000000000).toNat hk;have hlt:zs.getD (t+m) 0<B9:=qnk (by unfold B9;omega) hs _;have hsm:val B9 (zs.set (t+m) ((nth zs (t+m)+cy)%1000000000).toNat)<B9^(t+m+1):=
  ywk jt (jz hs _ _ (by unfold B9;omega)) (zkz hz _ _ om)
 by_cases he:(zs.getD (t+m) 0:Int)+cy=1000000000
 · have e:((nth zs (t+m)+cy)%1000000000).toNat=0:=by unfold nth;omega
   rw[e] at hset ⊢;have e2:B9^(t+m)*zs.getD (t+m) 0+B9^(t+m)*cy.toNat=B9^(t+m)*B9:=by
    rw[←Nat.mul_add];congr 1;unfold B9;omega
   rw[Nat.pow_succ] at h2;omega
 · exfalso
   have e:((nth zs (t+m)+cy)%1000000000).toNat=zs.getD (t+m) 0+cy.toNat:=by unfold nth;unfold B9 at hlt;omega
   rw[e,Nat.mul_add] at hset;rw[e] at hsm;omega
set_option maxRecDepth 100000 in
set_option maxHeartbeats 1000000 in
theorem       Au (B : Option Addr) (g n t cu cv : Nat) (us vs : List Nat) (q : Int) (w : World) (hrow : Row w g n us) (hun : us.length = n) (hv :   aA w B vs) (hBg : ∀ a, B = some a → a.block ≠ g) (hs : small B9 us) (ht : small B9 vs)
    (hn : n ≤ 1048576) (hm : t + vs.length < n) (hq0 : 0 ≤ q) (hq1 : q < 1000000000)
    (hU : val B9 us < B9 ^ (t + vs.length + 1)) (hp : B9 ^ t * (q.toNat * val B9 vs) ≤ val B9 us + B9 ^ t * val B9 vs) :
    Calls prog 179 #[.slice (some ⟨g, 0, none⟩) n cu, .slice B vs.length cv, .int .i64 (t : Int), .int .u64 q] w (      Sv w g n t q.toNat (val B9 vs) (val B9 us)) := by
  have hz0 :       Sr us (t + vs.length + 1) :=              zdv     jt hU
  have HP := Lib.hid hp; clear hp hU
  go_enter func179, ntmps179
  go_wp2
  go_loopw [9, 17] (fun bv v wr => ∃ (k : Nat) (ys : List Nat) (bw : Int), k ≤ vs.length ∧ v = .int .i64 k ∧ bv = .int .u64 bw ∧ 0 ≤ bw ∧ bw ≤ 999999999 ∧ ys.length = n ∧ small B9 ys ∧
      val B9 ys + B9 ^ t * (q.toNat * val B9 (vs.take k)) = val B9 us + B9 ^ (t + k) * bw.toNat ∧       Sr ys (t + vs.length + 1) ∧ Row wr g n ys ∧ w.grownBy wr (some g)) (fun _ v _ => vs.length - (intOf v).toNat)
  case atStart => exact ⟨0, us, 0, Nat.zero_le _, rfl, rfl, by omega, by omega, hun, hs, by simp [val], hz0, hrow, World.grownBy.refl w _⟩
  case round =>
    obtain ⟨k, ys, bw, hk, rfl, rfl, hb0, hb1, hyl, hys, hval, hzf, hrw, hgr⟩ := hrel
    have HV := Lib.hid hval; have HY := Lib.hid hyl; clear hval hyl
    by_cases hlt : k < vs.length
    · obtain ⟨b, o, rfl, hb, hc⟩ := hv.2 (by omega)
      have hca : wr.cell? ⟨b, o + k, none⟩ = some (.int .u64 (nth vs k)) := (World.cell?_of_block (hgr.block b hb (fun e => hBg _ rfl (by simpa using e)))).trans (hc k hlt)
      have hbg : b ≠ g := hBg _ rfl
      have hxk : nth vs k < 1000000000 :=     qr (by unfold B9; omega) ht k
      have   Gf :=         zu vs k
      have hy1 : nth ys (t + k) < 1000000000 :=     qr (by unfold B9; omega) hys _
      have hy0 :=         zu ys (t + k)
      have hp0 : 0 ≤ q * nth vs k := Int.mul_nonneg hq0   Gf
      have hp1 : q * nth vs k ≤ 999999999 * 999999999 := by
        have h1 : q * nth vs k ≤ q * 999999999 := Int.mul_le_mul_of_nonneg_left (by omega) hq0
        omega
      have hcell := hrw.cell (j := t + k) (by omega)
      have hfro := hrw.frozen (t + k)
      have  aaq := hrw.lt
      have hi0 : (0 : Int) ≤ (t : Int) + (k : Int) := by omega
      have hi1 : (t : Int) + (k : Int) < (n : Int) := by omega
      obtain ⟨s0, s1, s2, s3, s4⟩ :=         Gi (s := q * nth vs k + bw) (x := nth ys (t + k)) (by omega) (by omega) hy0 hy1
      clear hc
      by_cases hcmp : nth ys (t + k) < (q * nth vs k + bw) % 1000000000
      · have s5 := s4 hcmp
        clear s4
        go_wp2
        go_roundw
        case rel => exact ⟨k + 1, ys.set (t + k) (nth ys (t + k) + 1000000000 - (q * nth vs k + bw) % 1000000000).toNat, (q * nth vs k + bw) / 1000000000 + 1, by omega, by go_num, rfl, by omega, by omega, by rw [List.length_set]; exact HY.out,
                 jz hys _ _ (by unfold B9; omega),        qV (by have := HY.out; omega) hb0 (by omega) (by omega) HV.out (by rw [Int.toNat_of_nonneg hq0]; omega),          zkz hzf _ _ (by omega),
          by have h1 := (hrw.setInt (nth ys (t + k) + 1000000000) (by omega) (i := t + k) (by have := HY.out; omega)).setInt (nth ys (t + k) + 1000000000 - (q * nth vs k + bw) % 1000000000) (by omega) (i := t + k) (by rw [List.length_set]; have := HY.out; omega)
             rw [List.set_set] at h1; exact h1,           xx (          xx hgr (.inl rfl) _) (.inl rfl) _⟩
        case measure => simp [intOf]; omega
      · clear s4
        go_wp2
        go_roundw
        case rel => exact ⟨k + 1, ys.set (t + k) (nth ys (t + k) - (q * nth vs k + bw) % 1000000000).toNat, (q * nth vs k + bw) / 1000000000, by omega, by go_num, rfl, by omega, by omega, by rw [List.length_set]; exact HY.out,
                 jz hys _ _ (by unfold B9; omega),        qV (by have := HY.out; omega) hb0 (by omega) (by omega) HV.out (by rw [Int.toNat_of_nonneg hq0]; omega),          zkz hzf _ _ (by omega),
          hrw.setInt _ (by omega) (by have := HY.out; omega),           xx hgr (.inl rfl) _⟩
        case measure => simp [intOf]; omega
    · obtain rfl : k = vs.length := by omega
      have hv1 := HV.out
      rw [          vk _ _ (Nat.le_refl _)] at hv1
      have  Fa := Lib.hid hv1
      clear hv1
      have hcell := hrw.cell (j := t + vs.length) (by omega)
      have hfro := hrw.frozen (t + vs.length)
      have  aaq := hrw.lt
      have hi0 : (0 : Int) ≤ (t : Int) + (vs.length : Int) := by omega
      have hi1 : (t : Int) + (vs.length : Int) < (n : Int) := by omega
      have hy1 : nth ys (t + vs.length) < 1000000000 :=     qr (by unfold B9; omega) hys _
      have hy0 :=         zu ys (t + vs.length)
      by_cases hcmp : bw ≤ nth ys (t + vs.length)
      · go_wp2
        go_ret
        exact ⟨ys.set (t + vs.length) (nth ys (t + vs.length) - bw).toNat, true, rfl, hrw.setInt _ (by omega) (by have := HY.out; omega), by rw [List.length_set]; exact HY.out,        jz hys _ _ (by unfold B9; omega),
                    xx hgr (.inl rfl) _, by rw [if_pos rfl, Nat.add_zero]; exact       Sw (by have := HY.out; omega) hb0 hcmp  Fa.out, fun h => by cases h⟩
      · go_wp2
        have hr2 := hrw.setInt (nth ys (t + vs.length) + 1000000000 - bw) (by omega) (i := t + vs.length) (by have := HY.out; omega)
        have hg2 :=           xx hgr (p := ⟨g, t + vs.length, none⟩) (.inl rfl) (.int .u64 (nth ys (t + vs.length) + 1000000000 - bw))
        obtain ⟨y2, hy2⟩ : ∃ y2, y2 = ys.set (t + vs.length) (nth ys (t + vs.length) + 1000000000 - bw).toNat := ⟨_, rfl⟩
        rw [← hy2] at hr2
        have HY2 := Lib.hid hy2
        have hno :=     aa9 (Q := q.toNat) (V := val B9 vs) (U := val B9 us) (ys := ys) (t := t) (m := vs.length) (by have := HY.out; omega) hb0 (by omega)  Fa.out
        rw [← hy2] at hno
        have hl2 : y2.length = n := by rw [hy2, List.length_set]; exact HY.out
        have hs2 : small B9 y2 := by rw [hy2]; exact        jz hys _ _ (by unfold B9; omega)
        have  aW6 :       Sr y2 (t + vs.length + 1) := by rw [hy2]; exact          zkz hzf _ _ (by omega)
        have HLT : Hid (val B9 us < B9 ^ t * (q.toNat * val B9 vs)) :=        ME (by have := HY.out; omega) hys hzf hb0 (by omega)  Fa.out
        have HNO := Lib.hid hno; have HL2 := Lib.hid hl2
        clear hy2 hno hl2 hcell hfro  aaq hy1 hy0 hcmp hrow hun hs hz0 hb0 hb1 hys hzf hrw hgr HV  Fa HY HY2
        generalize wr.setCell ⟨g, t + vs.length, none⟩ (.int .u64 (nth ys (t + vs.length) + 1000000000 - bw)) = wz at hr2 hg2 ⊢
        go_loopw [12, 97] (fun cv v wx => ∃ (k : Nat) (zs : List Nat) (cy : Int), k ≤ vs.length ∧ v = .int .i64 k ∧ cv = .int .u64 cy ∧ 0 ≤ cy ∧ cy ≤ 1 ∧ zs.length = n ∧ small B9 zs ∧
            val B9 zs + B9 ^ (t + k) * cy.toNat = val B9 y2 + B9 ^ t * val B9 (vs.take k) ∧       Sr zs (t + vs.length + 1) ∧ Row wx g n zs ∧ w.grownBy wx (some g)) (fun _ v _ => vs.length - (intOf v).toNat)
        case atStart => exact ⟨0, y2, 0, Nat.zero_le _, rfl, rfl, by omega, by omega, HL2.out, hs2, by simp [val],  aW6, hr2, hg2⟩
        case round =>
          obtain ⟨k, zs, cy, hk, rfl, rfl, hc0, hc1, hzl, hzs, hzv, hzz, hrz, hgz⟩ := hrel
          have HZ := Lib.hid hzl; have HZV := Lib.hid hzv
          clear hzl hzv
          by_cases hlt : k < vs.length
          · obtain ⟨b, o, rfl, hb, hc⟩ := hv.2 (by omega)
            have hca : wr.cell? ⟨b, o + k, none⟩ = some (.int .u64 (nth vs k)) := (World.cell?_of_block (hgz.block b hb (fun e => hBg _ rfl (by simpa using e)))).trans (hc k hlt)
            have hbg : b ≠ g := hBg _ rfl
            have hxk : nth vs k < 1000000000 :=     qr (by unfold B9; omega) ht k
            have   Gf :=         zu vs k
            have hy1 : nth zs (t + k) < 1000000000 :=     qr (by unfold B9; omega) hzs _
            have hy0 :=         zu zs (t + k)
            have hcell := hrz.cell (j := t + k) (by omega)
            have hfro := hrz.frozen (t + k)
            have  aaq := hrz.lt
            have hj0 : (0 : Int) ≤ (t : Int) + (k : Int) := by omega
            have hj1 : (t : Int) + (k : Int) < (n : Int) := by omega
            have hk1 : (k : Int) < (vs.length : Int) := by omega
            have hk0 : (0 : Int) ≤ (k : Int) := by omega
            have hsu : IntKind.i64.wrap ((t : Int) + (k : Int)) = (t : Int) + (k : Int) := IntWalk.i64_in _ (by omega)
            clear hc
            go_wp2
            go_quiet (fail)
            go_wp2
            go_roundw
            case rel => exact ⟨k + 1, zs.set (t + k) ((nth zs (t + k) + nth vs k + cy) % 1000000000).toNat, (nth zs (t + k) + nth vs k + cy) / 1000000000, by omega, by go_num, rfl, by omega, by omega, by rw [List.length_set]; exact HZ.out,
                     jz hzs _ _ (by unfold B9; omega),            oZ (by have := HZ.out; omega) hc0 rfl HZV.out,          zkz hzz _ _ (by omega), (hrz.drewN _).setInt _ (by omega) (by have := HZ.out; omega),           xx (        Fp hgz _) (.inl rfl) _⟩
            case measure => simp [intOf]; omega
          · obtain rfl : k = vs.length := by omega
            have hv1 := HZV.out
            rw [          vk _ _ (Nat.le_refl _)] at hv1
            have HV3 := Lib.hid hv1
            clear hv1
            have hcell := hrz.cell (j := t + vs.length) (by omega)
            have hfro := hrz.frozen (t + vs.length)
            have  aaq := hrz.lt
            have hy1 : nth zs (t + vs.length) < 1000000000 :=     qr (by unfold B9; omega) hzs _
            have hy0 :=         zu zs (t + vs.length)
            go_wp2
            go_ret
            exact ⟨zs.set (t + vs.length) ((nth zs (t + vs.length) + cy) % 1000000000).toNat, false, rfl, hrz.setInt _ (by omega) (by have := HZ.out; omega), by rw [List.length_set]; exact HZ.out,        jz hzs _ _ (by unfold B9; omega),
                        xx hgz (.inl rfl) _, by rw [if_neg (by simp)]; exact        MG (by have := HZ.out; omega) hzs hzz hc0 hc1 HV3.out HNO.out HP.out, fun _ => HLT.out⟩
section
variable {P D R V v1 v2 u3 top g rest B:Nat}
theorem Av (hD:P*(v1*B+v2)≤D) (hR:R<P*(top*B+u3+1)) (hu:u3<B) (h:top<(g+1)*v1):R<(g+1)*D:=by
 have h1:top*B+u3+1≤(top+1)*B:=by rw[Nat.add_mul];omega
 have h2:(top+1)*B≤(g+1)*v1*B:=Nat.mul_le_mul_right _ h;have h3:(g+1)*v1*B≤(g+1)*(v1*B+v2):=by rw[Nat.mul_assoc];exact Nat.mul_le_mul_left _ om
 have h4:P*(top*B+u3+1)≤P*((g+1)*(v1*B+v2)):=Nat.mul_le_mul_left _ om;have h5:P*((g+1)*(v1*B+v2))=(g+1)*(P*(v1*B+v2)):=Nat.mul_left_comm _ _ _;have h6:(g+1)*(P*(v1*B+v2))≤(g+1)*D:=Nat.mul_le_mul_left _ hD;omega
theorem Gj (hR:R<B*D) (h:B≤g):R<g*D:=Nat.lt_of_lt_of_le hR (Nat.mul_le_mul_right _ h)
theorem vM (hD:P*(v1*B+v2)≤D) (hR:R<P*(top*B+u3+1)) (ht:g*v1+rest=top) (h:rest*B+u3<g*v2):R<g*D:=by
 subst ht;have h1:(g*v1+rest)*B+u3+1≤g*(v1*B+v2):=by rw[Nat.add_mul,Nat.mul_add,Nat.mul_assoc];omega
 have h4:P*((g*v1+rest)*B+u3+1)≤P*(g*(v1*B+v2)):=Nat.mul_le_mul_left _ h1;have h5:P*(g*(v1*B+v2))=g*(P*(v1*B+v2)):=Nat.mul_left_comm _ _ _;have h6:g*(P*(v1*B+v2))≤g*D:=Nat.mul_le_mul_left _ hD;omega
theorem Gl (hD:D<P*(v1*B+v2+1)) (hv:v2<B) (hR:P*(top*B+u3)≤R) (ht:g*v1+rest=top) (hg:g≤rest):g*D≤R:=by
 subst ht;have h1:g*D≤g*(P*(v1*B+v2+1)):=Nat.mul_le_mul_left _ (Nat.le_of_lt hD);have h2:g*(P*(v1*B+v2+1))=P*(g*(v1*B+v2+1)):=Nat.mul_left_comm _ _ _;have h3:g*(v1*B+v2+1)≤(g*v1+rest)*B+u3:=by
  have a1:g*(v1*B+v2+1)≤g*(v1*B+B):=Nat.mul_le_mul_left _ om;have a2:g*(v1*B+B)=g*v1*B+g*B:=by rw[Nat.mul_add,Nat.mul_assoc]
  have a3:g*B≤rest*B:=Nat.mul_le_mul_right _ hg;rw[Nat.add_mul];omega
 have h4:P*(g*(v1*B+v2+1))≤P*((g*v1+rest)*B+u3):=Nat.mul_le_mul_left _ h3;omega
theorem Gm (hD:D<P*(v1*B+v2+1)) (hD':P*(v1*B+v2)≤D) (hv1:1≤v1) (hR:P*(top*B+u3)≤R) (ht:g*v1+rest=top) (hg:g<B) (h:g*v2≤rest*B+u3):g*D≤R+D:=by
 subst ht;have h1:g*D≤g*(P*(v1*B+v2+1)):=Nat.mul_le_mul_left _ (Nat.le_of_lt hD);have h2:g*(P*(v1*B+v2+1))=P*(g*(v1*B+v2+1)):=Nat.mul_left_comm _ _ _;have h3:g*(v1*B+v2+1)≤(g*v1+rest)*B+u3+B:=by
  have a2:g*(v1*B+v2+1)=g*v1*B+g*v2+g:=by rw[Nat.mul_add,Nat.mul_add,Nat.mul_assoc,Nat.mul_one]
  rw[a2,Nat.add_mul];omega
 have h4:P*(g*(v1*B+v2+1))≤P*((g*v1+rest)*B+u3+B):=Nat.mul_le_mul_left _ h3;have h5:P*((g*v1+rest)*B+u3+B)=P*((g*v1+rest)*B+u3)+P*B:=Nat.mul_add _ _ _;have h6:P*B≤P*(v1*B+v2):=Nat.mul_le_mul_left _ (by have:=Nat.mul_le_mul_right B hv1;omega);omega
theorem MH (hD:D<P*(v1*B+v2+1)) (hv:v2<B) (hR:P*(top*B+u3)≤R) (hlt:R<B*D):top<(v1+1)*B:=by
 rcases Nat.lt_or_ge top ((v1+1)*B) with h | h
 · exact h
 · exfalso
   have h1:P*((v1+1)*B*B)≤P*(top*B+u3):=Nat.mul_le_mul_left _ (by have:=Nat.mul_le_mul_right B h;omega);have h2:B*D≤B*(P*(v1*B+v2+1)):=Nat.mul_le_mul_left _ (Nat.le_of_lt hD);have h3:B*(P*(v1*B+v2+1))=P*(B*(v1*B+v2+1)):=Nat.mul_left_comm _ _ _;have h4:P*(B*(v1*B+v2+1))≤P*((v1+1)*B*B):=Nat.mul_le_mul_left _ (by
    rw[Nat.mul_comm ((v1+1)*B) B];refine Nat.mul_le_mul_left _ ?_;rw[Nat.add_mul];omega)
   omega
end
theorem Sy {us:List Nat} {t m:Nat} (hs:small B9 us) (hz:Sr us (t+m+3)) (hl:t+m+2<us.length) :
 B9^(t+m)*((us.getD (t+m+2) 0*B9+us.getD (t+m+1) 0)*B9+us.getD (t+m) 0)≤val B9 us∧val B9 us<B9^(t+m)*((us.getD (t+m+2) 0*B9+us.getD (t+m+1) 0)*B9+us.getD (t+m) 0+1):=by
 have e1:=jg (b:=B9) us (t+m+3) (fun j hj _=>hz j hj);rw[yg,yg,yg] at e1;have h1:=kp (gm hs (t+m));rw[List.length_take,Nat.min_eq_left om] at h1;generalize us.getD (t+m) 0=x at *
 generalize us.getD (t+m+1) 0=y at *
 generalize us.getD (t+m+2) 0=z at *
 have e2:B9^(t+m)*((z*B9+y)*B9+x)=B9^(t+m)*x+B9^(t+m+1)*y+B9^(t+m+2)*z:=by
  simp only[show t+m+2=t+m+1+1 from rfl,Nat.pow_succ]
  generalize B9^(t+m)=p
  simp only[Nat.mul_add,Nat.mul_comm,Nat.mul_left_comm]
  omega
 rw[Nat.mul_add (B9^(t+m)) _ 1,Nat.mul_one,e2];omega
theorem Sz {vs:List Nat} {t m:Nat} (hs:small B9 vs) (hl:vs.length=m+2) :
 B9^(t+m)*(vs.getD (m+1) 0*B9+vs.getD m 0)≤B9^t*val B9 vs∧B9^t*val B9 vs<B9^(t+m)*(vs.getD (m+1) 0*B9+vs.getD m 0+1):=by
 have e1:=vk (b:=B9) vs (m+2) om;rw[yg,yg] at e1;have h1:=kp (gm hs m);rw[List.length_take,Nat.min_eq_left om] at h1;generalize vs.getD m 0=x at *
 generalize vs.getD (m+1) 0=y at *
 have e2:B9^m*(y*B9+x)=B9^m*x+B9^(m+1)*y:=by
  rw[Nat.pow_succ,Nat.mul_add];have a2:B9^m*(y*B9)=B9^m*B9*y:=by rw[Nat.mul_comm y,Nat.mul_assoc]
  rw[a2];omega
 have h2:B9^m*(y*B9+x)≤val B9 vs:=om;have h3:val B9 vs<B9^m*(y*B9+x+1):=by rw[Nat.mul_add,Nat.mul_one];omega
 rw[Nat.pow_add,Nat.mul_assoc,Nat.mul_assoc];exact ⟨Nat.mul_le_mul_left _ h2,Nat.mul_lt_mul_of_pos_left h3 (Ac jt t)⟩
theorem qik {X V Rz Ry t Q:Nat} {qs:List Nat} (ht:t<qs.length) (h:X=B9^(t+1)*(val B9 (qs.drop (t+1))*V)+Rz) (hq:Ry+B9^t*(Q*V)=Rz) :
 X=B9^t*(val B9 ((qs.set t Q).drop t)*V)+Ry:=by
 rw[drop_set qs t Q ht,h,←hq];simp only[val]
 generalize val B9 (qs.drop (t+1))=W
 have e1:B9^t*((Q+B9*W)*V)=B9^t*(Q*V)+B9^(t+1)*(W*V):=by
  rw[Nat.add_mul,Nat.mul_add,Nat.pow_succ,Nat.mul_assoc B9,Nat.mul_assoc]
 rw[e1];omega
theorem Aw {V Rz Ry t Q:Nat} (hq:Ry+B9^t*(Q*V)=Rz) (hG:Rz<(Q+1)*(B9^t*V)):Ry<B9^t*V:=by
 have e:(Q+1)*(B9^t*V)=B9^t*(Q*V)+B9^t*V:=by rw[Nat.add_mul,Nat.one_mul,Nat.mul_left_comm]
 omega
theorem JW {V Rz Ry t Q:Nat} (hq:Ry+B9^t*(Q*V)=Rz+B9^t*V) (hlt:Rz<B9^t*(Q*V)):1≤Q∧Ry+B9^t*((Q-1)*V)=Rz∧Ry<B9^t*V:=by
 have h1:1≤Q:=by
  rcases Nat.eq_zero_or_pos Q with h | h
  · subst h;simp at hlt
  · exact h
 obtain ⟨q,rfl⟩:∃q,Q=q+1:=⟨Q-1,om⟩;have e:B9^t*((q+1)*V)=B9^t*(q*V)+B9^t*V:=by rw[Nat.add_mul,Nat.one_mul,Nat.mul_add]
 refine ⟨h1,?_,?_⟩
 · rw[Nat.add_sub_cancel];omega
 · omega
theorem SA {X Y Q Z d r:Nat} (h:X*d=Q*(Y*d)+(Z*d+r)) (hr:r<d) (hlt:Z*d+r<Y*d):X=Q*Y+Z∧Z<Y:=by
 have h1:Q*(Y*d)=Q*Y*d:=(Nat.mul_assoc _ _ _).symm;have h2:X*d=(Q*Y+Z)*d+r:=by rw[h,h1,Nat.add_mul];omega
 have h3:X=Q*Y+Z:=by
  have a:(X*d)/d=((Q*Y+Z)*d+r)/d:=by rw[h2]
  rw[Nat.mul_div_cancel _ om,Nat.add_comm,Nat.add_mul_div_right _ _ om,Nat.div_eq_of_lt hr] at a;omega
 refine ⟨h3,?_⟩;rcases Nat.lt_or_ge Z Y with h4 | h4
 · exact h4
 · have:=Nat.mul_le_mul_right d h4;omega
theorem jX {P Q:Prop} (k:Q) (h:(Unit→Q)→P:=by
 intro zK;refine (yrv A c xs _ (hx.below hb1 (Nat.le_refl _)) hs om).mono ?_;exact zK ()):P:=h fun _=>k
theorem Own.at_ {w:World} {base c:Nat} {A:Option Addr} {xs:List Nat} (h:Own w base A c xs) (h0:0<xs.length) :
 ∃g,A=some ⟨g,0,none⟩∧base≤g∧g<w.heap.size∧xs.length≤c∧ ∀k,k<xs.length→w.cell? ⟨g,k,none⟩=some (.int .u64 (nth xs k)):=by
 obtain ⟨b,o,rfl,hb,hc⟩:=h.nums.2 h0;rcases h.1.2 with ⟨_,hn⟩ | ⟨g,cap,cur,hv,hg,hh,hnc,_⟩
 · omega
 · injection hv with hA _ hcc
   injection hA with hA
   injection hA with e1 e2
   subst e1;subst e2;subst hcc;exact ⟨b,rfl,hg,hb,hnc,fun k hk=>by have:=hc k hk;rwa [Nat.zero_add] at this⟩
def vdv (w:World) (X Y:Nat) (e:Ending) (w':World):Prop:=
 ∃A1 c1 qs A2 c2 rs,e= .returned (.tuple #[.slice A1 qs.length c1,.slice A2 rs.length c2])∧aA w' A1 qs∧aA w' A2 rs∧small av qs∧small av rs∧qs.length≤1048576∧rs.length≤1048576∧
  val av qs=X/Y∧val av rs=X%Y∧Below w.heap.size w w'
theorem qqq {xs:List Nat} (hs:small av xs):(aS B9 (val av xs)).length≤2*xs.length:=by
 rw[zz jt,ap3];exact kp hs
theorem Ay (w:World) (x:Int) (a:Nat) (hx:x=(a:Int)) (h:a<18446744073709551616):aA (w.alloc (.cells #[.int .u64 x] 25)) (some ⟨w.heap.size,0,none⟩) [a]:=by
 subst hx;refine ⟨ziv (by simpa using h),fun _=>⟨w.heap.size,0,rfl,by simp,fun k hk=>?_⟩⟩;obtain rfl:k=0:=by simpa using hk
 rw[Nat.zero_add,cell_of_row _ w.heap.size 0 _ _ _ (heap_alloc_new w _)];simp[nth]
theorem SE {X Q V R:Nat} (h:X=Q*V+R) (hlt:R<V):Q=X/V∧R=X%V:=by
 subst h;have hV:0<V:=om;rw[Nat.add_comm (Q*V) R,Nat.add_mul_div_right _ _ hV,Nat.add_mul_mod_self_right,Nat.div_eq_of_lt hlt,Nat.mod_eq_of_lt hlt];simp
set_option maxRecDepth 100000 in
set_option maxHeartbeats 400000 in
theorem Gn (A B:Option Addr) (c d:Nat) (xs ys:List Nat) (w:World) (hx:aA w A xs) (hy:aA w B ys) (hs:small av xs) (ht:small av ys) (hl:xs.length≤1000) (hl':ys.length≤1000)
 (h1:(aS B9 (val av ys)).length=1) :
 Calls prog 148 #[.slice A xs.length c,.slice B ys.length d] w (vdv w (val av xs) (val av ys)):=by
 have hu:=qqq hs;go_enter func148,ntmps148
 go_wp2_with fail
 refine (yrv B d ys _ hy ht om).mono ?_;rintro e w1 ⟨A1,c1,vs,rfl,hv,hvd,hb1⟩;have HVD:=Lib.hid hvd;clear hvd;go_wp2_with fail
 refine jX ?_;rintro e w2 ⟨A2,c2,us,rfl,hus,hud,hb2⟩;have hvd:=HVD.out;have L2:=hb1.trans (hb2.mono hb1.size);have hv2:=hv.below hb2 (Nat.le_refl _);rw[←hvd] at h1;obtain ⟨g,rfl,hg0,hg1,_,hc⟩:=hv2.at_ om;have hc0:=hc 0 om;have hv1:((vs.length:Int)==1)=true:=beq_iff_eq.2 om;have hvl:0<vs.length:=om;have ap4:val av ys=(nth vs 0).toNat:=by
  have e:=kx jt (val av ys);rw[←hvd] at e;rw[←e];match vs,h1 with
  | [v],_=>simp[val,nth]
 have hpos:nth vs 0≠0:=by
  have h2:=zbv jt (val av ys);rw[←hvd] at h2;rcases h2 with h2 | h2
  · omega
  · rw[h1] at h2;unfold nth;simp at h2 ⊢;omega
 have hsv:small B9 vs:=by rw[hvd];exact xd jt _
 have hsu:small B9 us:=by rw[hud];exact xd jt _
 have hv90:=zu vs 0;have hv91:nth vs 0<1000000000:=qr (by unfold B9;omega) hsv 0;have hvx:val B9 us=val av xs:=by rw[hud];exact kx jt _
 have hul:us.length≤2000:=by rw[hud];omega
 have HV:=Lib.hid ap4;have HX:=Lib.hid hvx;clear ap4 hvx hvd hud h1 hc hu;go_wp2_with fail
 refine (qU A2 c2 us (nth vs 0) _ hus.nums hsu om om hv91).mono ?_;rintro e w3 ⟨g3,zs,r,rfl,hrow,hzl,hzs,hr0,hr1,hzv,hg3,hb3⟩;have HZ:=Lib.hid hzl;have HZV:=Lib.hid hzv;clear hzl hzv;go_wp2_with fail
 refine (qdk _ _ zs _ (by exact hrow.nums rfl (fun x hx=>by have:=hzs x hx;unfold B9 at this;omega)) hzs (by have:=HZ.out;omega)).mono ?_;rintro e w4 ⟨A4,c4,qs,rfl,hq,Qe,Ze,Gp,hb4⟩;have HQ:=Lib.hid Ze;clear Ze;go_wp2
 go_ret2
 have er:r=(r.toNat:Int):=om;have Zf:=SE (X:=val av xs) (Q:=val av qs) (V:=val av ys) (R:=r.toNat) (by rw[HQ.out,HV.out,←HX.out];exact HZV.out) (by rw[HV.out];omega);exact ⟨A4,c4,qs,_,1,[r.toNat],rfl,hq.nums.alloc _,Ay _ _ _ er om,Qe,fun x hx=>by simp at hx;subst hx;unfold av;omega,by have:=HZ.out;omega,by simp,Zf.1,by simp only[val,Nat.mul_zero,Nat.add_zero];exact Zf.2,
  ((L2.trans (hb3.mono L2.size)).trans (hb4.mono (L2.trans (hb3.mono L2.size)).size)).alloc (((L2.trans (hb3.mono L2.size)).trans (hb4.mono (L2.trans (hb3.mono L2.size)).size)).size) _⟩
set_option maxRecDepth 100000 in
set_option maxHeartbeats 400000 in
theorem Az (A B:Option Addr) (c d:Nat) (xs ys:List Nat) (w:World) (hx:aA w A xs) (hy:aA w B ys) (hs:small av xs) (ht:small av ys) (hl:xs.length≤1000) (hl':ys.length≤1000)
 (h1:(aS B9 (val av ys)).length≠1) (h2:(aS B9 (val av xs)).length<(aS B9 (val av ys)).length) :
 Calls prog 148 #[.slice A xs.length c,.slice B ys.length d] w (vdv w (val av xs) (val av ys)):=by
 have hlt:val av xs<val av ys:=by
  have:=xi jt (xd jt (val av xs)) (zbv jt (val av ys)) h2;rwa [kx jt,kx jt] at this
 have HLT:=Lib.hid hlt;clear hlt;go_enter func148,ntmps148
 go_wp2_with fail
 refine (yrv B d ys _ hy ht om).mono ?_;rintro e w1 ⟨A1,c1,vs,rfl,hv,hvd,hb1⟩;have HVD:=Lib.hid hvd;clear hvd;go_wp2_with fail
 refine jX ?_;rintro e w2 ⟨A2,c2,us,rfl,hus,hud,hb2⟩;have hvd:=HVD.out;have L2:=hb1.trans (hb2.mono hb1.size);rw[←hvd] at h1;rw[←hvd,←hud] at h2;have hv1:((vs.length:Int)==1)=false:=beq_eq_false_iff_ne.2 om;have h3:(us.length:Int)<(vs.length:Int):=om;clear hvd hud;go_wp2
 go_ret2
 exact ⟨none,0,[],A,c,xs,rfl,⟨fun k=>by rw[yqk];omega,fun h=>by simp at h⟩,hx.below L2 (Nat.le_refl _),ke,hs,by simp,om,by rw[Nat.div_eq_of_lt HLT.out];rfl,(Nat.mod_eq_of_lt HLT.out).symm,L2⟩
theorem ap5 {P:Prop} (h:P:=by
 rw[←ax6.out,←ax7.out];refine bodyPost_ret (v:=.tuple #[.agg #[.bool (decide (qi<0)),.slice A4 (limbs qi).length c4],.agg #[.bool (decide (ri<0)),.slice A5 (limbs ri).length c5],.int .i64 0]) (by simp[results,Tryz.results95,go_sem,r0,r1,s0,s1]) rfl ?_;exact JX Fb ho5 L5 om hr3 om hs3 ax8.out _ _ _ _):P:=h
def jY (W:World) (i j:Int) (f:Int) (e:Ending) (w':World):Prop:=
 ∃A c B d,e= .returned (.tuple #[.agg #[.bool (decide (i<0)),.slice A (limbs i).length c],.agg #[.bool (decide (j<0)),.slice B (limbs j).length d],.int .i64 f])∧
  Own w' W.heap.size A c (limbs i)∧Own w' W.heap.size B d (limbs j)∧Below W.heap.size W w'∧(∀p q,A=some p→B=some q→p.block≠q.block)
@[irreducible] def dq (n1 n2:Bool) (X Y:Nat):Int:=if n1=n2 then ((X/Y:Nat):Int) else if X%Y=0 then -((X/Y:Nat):Int) else -((X/Y+1:Nat):Int)
@[irreducible] def dr (n1 n2:Bool) (X Y:Nat):Int:=if n1=n2 then bJ n1 (X%Y) else if X%Y=0 then 0 else bJ n2 (Y-X%Y)
theorem SF {n1 n2:Bool} {X Y:Nat} (h:n1=n2∨X%Y=0):bJ (n1 !=n2) (X/Y)=dq n1 n2 X Y:=by
 unfold dq bJ;by_cases h1:n1=n2
 · subst h1;simp
 · rcases h with h | h
   · exact absurd h h1
   · simp[h1,h]
theorem SG {n1 n2:Bool} {X Y:Nat} (h:n1=n2∨X%Y=0):bJ n1 (X%Y)=dr n1 n2 X Y:=by
 unfold dr;by_cases h1:n1=n2
 · rw[if_pos h1]
 · rcases h with h | h
   · exact absurd h h1
   · rw[if_neg h1,if_pos h,h];cases n1<;>rfl
theorem JX {W wc:World} {i j f:Int} {A4 A5:Option Addr} {c4 c5 base g0 g1:Nat} (h4:Own wc base A4 c4 (limbs i)) (h5:Own wc base A5 c5 (limbs j)) (L:Below W.heap.size W wc)
 (hg:W.heap.size≤g0) (hgb:g0<base) (hg':W.heap.size≤g1) (hgb':g1<base) (hd:∀p q,A4=some p→A5=some q→p.block≠q.block) (u v u' v':Value) :
 jY W i j f (.returned (.tuple #[.agg #[.bool (decide (i<0)),.slice A4 (limbs i).length c4],.agg #[.bool (decide (j<0)),.slice A5 (limbs j).length c5],.int .i64 f])) ((((wc.setCell ⟨g0,0,none⟩ u).setCell ⟨g0,1,none⟩ v).setCell ⟨g1,0,none⟩ u').setCell ⟨g1,1,none⟩ v').drew:=
 ⟨A4,c4,A5,c5,rfl,(((((h4.aI hgb _).aI hgb _).aI hgb' _).aI hgb' _).mono om).drew,(((((h5.aI hgb _).aI hgb _).aI hgb' _).aI hgb' _).mono om).drew,
  ((((L.setCell hg _).setCell hg _).setCell hg' _).setCell hg' _).drew,hd⟩
theorem ziq (i:Int):val av (limbs i)=i.natAbs:=by rw[qo,kx qk]
theorem Gq {n1 n2 bq:Bool} {xs ys qs rs:List Nat} {qi ri:Int} (hp:¬(n1=n2∨val av xs%val av ys=0)) (hs:small av xs) (hl:xs.length≤30) (ht:small av ys)
 (Ze:val av qs=val av xs/val av ys) (Fe:val av rs=val av xs%val av ys) (hqi:qi=bJ bq (val av qs)) (hri:ri=bJ n1 (val av rs)) (hbq:bq=(n1 !=n2)) (hy0:0<val av ys) :
 qi.natAbs=val av xs/val av ys∧val av (limbs qi)=val av xs/val av ys∧val av (limbs ri)=val av xs%val av ys∧(limbs qi).length≤30∧(limbs ri).length≤ys.length∧0<(limbs ri).length∧
  val av (limbs ri)≤val av ys∧bq=true∧Hid (bJ true (val av xs/val av ys+1)=dq n1 n2 (val av xs) (val av ys))∧Hid (bJ n2 (val av ys-val av xs%val av ys)=dr n1 n2 (val av xs) (val av ys)):=by
 obtain ⟨h1,h2⟩:=not_or.1 hp;have ha:qi.natAbs=val av xs/val av ys:=by rw[hqi,vw,Ze]
 have hb:ri.natAbs=val av xs%val av ys:=by rw[hri,vw,Fe]
 have hX:val av xs<av^30:=Nat.lt_of_lt_of_le (kp hs) (Nat.pow_le_pow_right (by unfold av;omega) hl);have hY:=kp ht;have hmod:val av xs%val av ys<val av ys:=by
  exact Nat.mod_lt _ hy0
 have hl1:(limbs qi).length≤30:=by
  rw[qo,zz qk,ha];exact Nat.lt_of_le_of_lt (Nat.div_le_self _ _) hX
 have hl2:(limbs ri).length≤ys.length:=by
  rw[qo,zz qk,hb];omega
 refine ⟨ha,by rw[ziq,ha],by rw[ziq,hb],hl1,hl2,?_,by rw[ziq,hb];omega,by rw[hbq];cases n1<;>cases n2<;>simp_all,?_,?_⟩
 · rcases Nat.eq_zero_or_pos (limbs ri).length with h0 | h0
   · have:=ziq ri;rw[List.eq_nil_of_length_eq_zero h0,hb] at this;exact absurd this.symm h2
   · exact h0
 · show _=_
   unfold dq bJ;rw[if_neg h1,if_neg h2];simp
 · show _=_
   unfold dr;rw[if_neg h1,if_neg h2]
section
variable (A B:Option Addr) (c d:Nat) (xs ys:List Nat) (w:World)
set_option maxHeartbeats 4000000 in
theorem          AB (hdiv : ∀ w : World,   aA w A xs →   aA w B ys → Calls prog 148 #[.slice A xs.length c, .slice B ys.length d] w (    vdv w (val  av xs) (val  av ys)))
 (n1 n2 : Bool) (hx :   aA w A xs) (hy :   aA w B ys) (hg :    zm n1 xs = true) (hk :    zm n2 ys = true) (h0 : 0 < ys.length) :
 Calls prog 95 #[.agg #[.bool n1, .slice A xs.length c], .agg #[.bool n2, .slice B ys.length d]] w (    jY w (dq n1 n2 (val  av xs) (val  av ys)) (dr n1 n2 (val  av xs) (val  av ys)) 0) := by
 obtain ⟨hs, hn, hl, _⟩ :=         ym hg;obtain ⟨ht, hm, hl', _⟩ :=         ym hk;have HD := Lib.hid hdiv;have hy0 : 0 < val  av ys := Nat.pos_of_ne_zero (        ziz      qk hm om);have h00 : ((ys.length : Int) == 0) = false := beq_eq_false_iff_ne.2 om;clear hdiv;go_enter func95, ntmps95
 go_wp2_with fail
 refine (      yf n1 c _ A xs om ((((hx.alloc _).alloc _).alloc _).alloc _)).mono ?_;rintro e w1 ⟨rfl, hb1⟩;have X1 := (((( aB.new w 24 #[.bool n1, .slice A xs.length c]).alloc (.cells #[.bool n2, .slice B ys.length d] 24)).alloc (.cells #[.bool false, .slice none 0 0] 24)).alloc (.cells #[.bool false, .slice none 0 0] 24)).below hb1 (by simp; omega);have Y1 := ((( aB.new (w.alloc (.cells #[.bool n1, .slice A xs.length c] 24)) 24 #[.bool n2, .slice B ys.length d]).alloc (.cells #[.bool false, .slice none 0 0] 24)).alloc (.cells #[.bool false, .slice none 0 0] 24)).below hb1 (by simp; try omega);have R1 := (( aB.new ((w.alloc (.cells #[.bool n1, .slice A xs.length c] 24)).alloc (.cells #[.bool n2, .slice B ys.length d] 24)) 24 #[.bool false, .slice none 0 0]).alloc (.cells #[.bool false, .slice none 0 0] 24)).below hb1 (by simp);have S1 := ( aB.new (((w.alloc (.cells #[.bool n1, .slice A xs.length c] 24)).alloc (.cells #[.bool n2, .slice B ys.length d] 24)).alloc (.cells #[.bool false, .slice none 0 0] 24)) 24 #[.bool false, .slice none 0 0]).below hb1 (by simp);have L1 : Below w.heap.size w w1 := (((((Below.refl _ _).alloc (Nat.le_refl _) _).alloc (by simp) _).alloc (by simp; omega) _).alloc (by simp; omega) _).trans (hb1.mono (by simp; omega));simp only [World.size_alloc] at X1 Y1 R1 S1
 clear hb1;obtain ⟨x0, x1, x2, x3⟩ := X1.two;obtain ⟨y0, y1, y2, y3⟩ := Y1.two;go_wp2_with fail
 refine (      yf n2 d _ B ys om (hy.below L1 (Nat.le_refl _))).mono ?_;rintro e w2 ⟨rfl, hb2⟩;have X2 := X1.below hb2 X1.lt; have Y2 := Y1.below hb2 Y1.lt; have R2 := R1.below hb2 R1.lt; have S2 := S1.below hb2 S1.lt;have L2 := L1.trans (hb2.mono L1.size);clear x0 x1 x2 x3 y0 y1 y2 y3 X1 Y1 R1 S1 L1 hb2;obtain ⟨x0, x1, x2, x3⟩ := X2.two;obtain ⟨y0, y1, y2, y3⟩ := Y2.two;go_wp2_with fail
 refine (HD.out _ (hx.below L2 (Nat.le_refl _)) (hy.below L2 (Nat.le_refl _))).mono ?_;rintro e w3 ⟨A1, c1, qs, A2, c2, rs, rfl, hq, hr,  Qe, hrs,  Gp, hrl,  Ze,  Fe, hb3⟩;have X3 := X2.below hb3 X2.lt; have Y3 := Y2.below hb3 Y2.lt; have R3 := R2.below hb3 R2.lt; have S3 := S2.below hb3 S2.lt;have L3 := L2.trans (hb3.mono L2.size);have HQV := Lib.hid  Ze; have HRV := Lib.hid  Fe;clear x0 x1 x2 x3 y0 y1 y2 y3 X2 Y2 R2 S2 L2 hb3  Ze  Fe;obtain ⟨x0, x1, x2, x3⟩ := X3.two;obtain ⟨y0, y1, y2, y3⟩ := Y3.two;obtain ⟨bq, hbq⟩ : ∃ b, b = (n1 != n2) := ⟨_, rfl⟩;have hbn : (!(n1 == n2)) = bq := by rw [hbq]; cases n1 <;> cases n2 <;> rfl
 have  be1 : (n1 != n2) = bq := hbq.symm;have HBQ := Lib.hid hbq;clear hbq;have  be2 := X3.lt; have  be3 := Y3.lt; have hR3 : w.heap.size + 1 + 1 < w3.heap.size := R3.lt; have hS3 : w.heap.size + 1 + 1 + 1 < w3.heap.size := S3.lt;obtain ⟨qi, hqi⟩ : ∃ qi, qi =  bJ bq (val  av qs) := ⟨_, rfl⟩;obtain ⟨ri, hri⟩ : ∃ ri, ri =  bJ n1 (val  av rs) := ⟨_, rfl⟩;have HQI := Lib.hid hqi; have HRI := Lib.hid hri;clear hqi hri;go_upto_region 6 with fail
 go_cut [9, 10] (fun s9 s10 wx => ∃ (g9 g10 : Nat) (A4 : Option Addr) (c4 : Nat) (A5 : Option Addr) (c5 : Nat), s9 = .pointer (some ⟨g9, 0, none⟩) ∧ s10 = .pointer (some ⟨g10, 0, none⟩) ∧ g9 ≠ g10 ∧ w3.heap.size ≤ g9 ∧ w3.heap.size ≤ g10 ∧
   aB wx g9 24 #[.bool (decide (qi < 0)), .slice A4 (limbs qi).length c4] ∧  aB wx g10 24 #[.bool (decide (ri < 0)), .slice A5 (limbs ri).length c5] ∧
  Own wx w3.heap.size A4 c4 (limbs qi) ∧ Own wx w3.heap.size A5 c5 (limbs ri) ∧ Below w3.heap.size w3 wx ∧ Hid (∀ p q, A4 = some p → A5 = some q → p.block ≠ q.block))
 case first =>
  go_region_held3 (fun w' => w'.cell? ⟨w.heap.size, 0, none⟩ = some (.bool n1) ∧ w'.cell? ⟨w.heap.size + 1, 0, none⟩ = some (.bool n2))
   (first | (with_reducible exact ⟨x0, y0⟩) | (with_reducible exact ⟨u0, v0⟩) | (with_reducible exact ⟨p0, q0⟩) | (go_simp; done))
   (first
    | (go_at_call_of 97 (Value.slice A1 qs.length c1); refine (      oh bq A1 c1 qs _ (by repeat (first | with_reducible exact hq | with_reducible apply   aA.alloc | with_reducible apply   aA.drew))  Qe  Gp).mono ?_; rintro e w4 ⟨A4, c4, rfl,    cK, hb4⟩; rw [← HQI.out] at    cK ⊢; have X4 :  aB w4 w.heap.size 24 #[.bool n1, .slice A xs.length c] :=  aB.below (w := _) (by repeat (first | with_reducible exact X3 | with_reducible apply  aB.alloc | with_reducible apply  aB.drew)) hb4 (by first | exact X3.lt | (simp; omega)); have Y4 :  aB w4 (w.heap.size + 1) 24 #[.bool n2, .slice B ys.length d] :=  aB.below (w := _) (by repeat (first | with_reducible exact Y3 | with_reducible apply  aB.alloc | with_reducible apply  aB.drew)) hb4 (by first | exact Y3.lt | (simp; omega)); have hr4 :   aA w4 A2 rs :=   aA.below (w := _) (by repeat (first | with_reducible exact hr | with_reducible apply   aA.alloc | with_reducible apply   aA.drew)) hb4 (Nat.le_refl _); obtain ⟨u0, u1, u2, u3⟩ := X4.two; obtain ⟨v0, v1, v2, v3⟩ := Y4.two; have  be4 := X4.lt; have  be5 := Y4.lt; obtain ⟨ aLq,  aLz⟩ :=    JQ hb4; have   SH := hb4.size; (try (simp only [World.size_drew] at  aLq  aLz   SH)); (try (simp only [World.size_alloc] at  aLq  aLz   SH)); have ha4 : w3.heap.size ≤ w4.heap.size := om; (first | (have  aLx : w3.heap.size < w4.heap.size := Nat.lt_of_succ_le   SH) | (have  aLx : w3.heap.size < w4.heap.size := Nat.lt_of_succ_lt (Nat.lt_of_succ_le   SH); have  aW7 : w3.heap.size + 1 < w4.heap.size := Nat.lt_of_succ_le   SH) | skip); (first | (refine (fun (Z4a :  aB w4 w3.heap.size 24 #[.bool false, .slice none 0 0]) => ?_) ?_; rotate_left; focus (refine  aB.below (w := _) ?_ hb4 ?_; all_goals (first | omega | (simp; done) | (simp; omega) | ((repeat (first | with_reducible exact  aB.new _ _ _ | with_reducible apply  aB.alloc | with_reducible apply  aB.drew)); done)))) | skip); (first | (refine (fun (Z4b :  aB w4 (w3.heap.size + 1) 24 #[.bool false, .slice none 0 0]) => ?_) ?_; rotate_left; focus (refine  aB.below (w := _) ?_ hb4 ?_; all_goals (first | omega | (simp; done) | (simp; omega) | ((repeat (first | with_reducible exact  aB.new1 _ _ _ _ | with_reducible apply  aB.alloc | with_reducible apply  aB.drew)); done)))) | skip); have  Fb : Own w4 w3.heap.size A4 c4 (limbs qi) :=    cK.mono (by first | exact Nat.le_refl _ | (simp; done) | (simp; omega)); have l4 : Below w3.heap.size w3 w4 := Below.trans (b := _) (by repeat (first | with_reducible exact Below.refl _ _ | (with_reducible refine Below.alloc ?_ (by first | exact Nat.le_refl _ | (simp; done) | (simp; omega)) _) | with_reducible apply Below.drew)) (hb4.mono (by first | exact Nat.le_refl _ | (simp; done) | (simp; omega))))
    | (go_at_call_of 97 (Value.slice A2 rs.length c2); refine (      oh n1 A2 c2 rs _ (by repeat (first | with_reducible exact hr4 | with_reducible apply   aA.alloc | with_reducible apply   aA.drew)) hrs hrl).mono ?_; rintro e w5 ⟨A5, c5, rfl, hown5, hb5⟩; rw [← HRI.out] at hown5 ⊢; have X5 :  aB w5 w.heap.size 24 #[.bool n1, .slice A xs.length c] :=  aB.below (w := _) (by repeat (first | with_reducible exact X4 | with_reducible apply  aB.alloc | with_reducible apply  aB.drew)) hb5 (by first | exact X4.lt | (simp; omega)); have Y5 :  aB w5 (w.heap.size + 1) 24 #[.bool n2, .slice B ys.length d] :=  aB.below (w := _) (by repeat (first | with_reducible exact Y4 | with_reducible apply  aB.alloc | with_reducible apply  aB.drew)) hb5 (by first | exact Y4.lt | (simp; omega)); obtain ⟨p0, p1, p2, p3⟩ := X5.two; obtain ⟨q0, q1, q2, q3⟩ := Y5.two; have  be6 := X5.lt; have  be7 := Y5.lt; obtain ⟨ aLj,  aM0⟩ :=    JQ hb5; have   SI := hb5.size; (try (simp only [World.size_drew] at  aLj  aM0   SI)); (try (simp only [World.size_alloc] at  aLj  aM0   SI)); have ha5 : w4.heap.size ≤ w5.heap.size := om; (first | (have  aW8 : w4.heap.size < w5.heap.size := Nat.lt_of_succ_le   SI) | (have  aW8 : w4.heap.size < w5.heap.size := Nat.lt_of_succ_lt (Nat.lt_of_succ_le   SI); have  be8 : w4.heap.size + 1 < w5.heap.size := Nat.lt_of_succ_le   SI) | skip); (first | (have    aW9 := Nat.lt_of_lt_of_le  aLx ha5) | skip); (first | (have    aWq := Nat.lt_of_lt_of_le  aW7 ha5) | skip); (first | (refine (fun (Z5a :  aB w5 w3.heap.size 24 #[.bool false, .slice none 0 0]) => ?_) ?_; rotate_left; focus (refine  aB.below (w := _) ?_ hb5 ?_; all_goals (first | omega | (simp; done) | (simp; omega) | ((repeat (first | with_reducible exact Z4a | with_reducible apply  aB.alloc | with_reducible apply  aB.drew)); done)))) | skip); (first | (refine (fun (Z5b :  aB w5 (w3.heap.size + 1) 24 #[.bool false, .slice none 0 0]) => ?_) ?_; rotate_left; focus (refine  aB.below (w := _) ?_ hb5 ?_; all_goals (first | omega | (simp; done) | (simp; omega) | ((repeat (first | with_reducible exact Z4b | with_reducible apply  aB.alloc | with_reducible apply  aB.drew)); done)))) | skip); (first | (refine (fun (Z5c :  aB w5 w4.heap.size 24 #[.bool false, .slice none 0 0]) => ?_) ?_; rotate_left; focus (refine  aB.below (w := _) ?_ hb5 ?_; all_goals (first | omega | (simp; done) | (simp; omega) | ((repeat (first | with_reducible exact  aB.new _ _ _ | with_reducible apply  aB.alloc | with_reducible apply  aB.drew)); done)))) | skip); (first | (refine (fun (Z5d :  aB w5 (w4.heap.size + 1) 24 #[.bool false, .slice none 0 0]) => ?_) ?_; rotate_left; focus (refine  aB.below (w := _) ?_ hb5 ?_; all_goals (first | omega | (simp; done) | (simp; omega) | ((repeat (first | with_reducible exact  aB.new1 _ _ _ _ | with_reducible apply  aB.alloc | with_reducible apply  aB.drew)); done)))) | skip); have  be9 : Own w5 w3.heap.size A4 c4 (limbs (qi)) := Own.below (w := _) (by repeat (first | with_reducible exact  Fb | with_reducible apply Own.alloc | with_reducible apply Own.drew)) hb5 (Nat.le_refl _); have ho5 : Own w5 w3.heap.size A5 c5 (limbs ri) := hown5.mono (by first | omega | (simp; omega)); have l5 : Below w3.heap.size w3 w5 := Below.trans (b := _) (by repeat (first | with_reducible exact l4 | (with_reducible refine Below.alloc ?_ (by first | omega | (simp; omega)) _) | with_reducible apply Below.drew)) (hb5.mono (by first | omega | (simp; omega))); have  ax8 : Hid (∀ p q, A4 = some p → A5 = some q → p.block ≠ q.block) := (fun p q hp hq' => by have h1 :=  Fb.ge p hp; have h2 := hown5.ge q hq'; (try simp at h2); omega)))
  all_goals (go_wp2_with fail)
  all_goals go_meet
  all_goals
   refine ⟨_, _, A4, c4, A5, c5, rfl, rfl, ?_, ?_, ?_, ?_, ?_, ?_, ?_, ?_,  ax8⟩;all_goals (repeat' (first | with_reducible assumption | with_reducible exact  aB.new _ _ _ | with_reducible exact  aB.new1 _ _ _ _ | (with_reducible refine  aB.newAt ?_; (first | omega | (simp; done) | (simp; omega))) | with_reducible apply  aB.alloc | with_reducible refine  aB.set2 (x := .bool false) (y := .slice none 0 0) ?_ _ _ | with_reducible refine  aB.far ?_ ?_ _ | with_reducible apply Own.alloc | with_reducible refine Own.set2 (x := .bool false) (y := .slice none 0 0) (t := 24) ?_ ?_ ?_ _ _ | with_reducible refine Below.alloc ?_ ?_ _ | with_reducible refine Below.setCell ?_ ?_ _ | omega | (simp; omega) | (simp; done) | decide))
 case rest =>
  obtain ⟨g9, g10, A4, c4, A5, c5, rfl, rfl, hne, hg9,  bez, Z9, Z10,  Fb, ho5, l5,  ax8⟩ := hcut;have X5 := X3.below l5 X3.lt; have Y5 := Y3.below l5 Y3.lt; have R5 := R3.below l5 R3.lt; have S5 := S3.below l5 S3.lt;have L5 := L3.trans (l5.mono L3.size);clear x0 x1 x2 x3 y0 y1 y2 y3 X3 Y3 R3 S3 l5 L3;obtain ⟨x0, x1, x2, x3⟩ := X5.two;obtain ⟨y0, y1, y2, y3⟩ := Y5.two;obtain ⟨u0, u1, u2, u3⟩ := Z9.two;obtain ⟨v0, v1, v2, v3⟩ := Z10.two;obtain ⟨r0, r1, r2, r3⟩ := R5.two;obtain ⟨s0, s1, s2, s3⟩ := S5.two;have hr3 : w.heap.size + 1 + 1 < w3.heap.size := hR3;have hs3 : w.heap.size + 1 + 1 + 1 < w3.heap.size := hS3;have e1 : w.heap.size + 1 + 1 ≠ g9 := om;have e2 : w.heap.size + 1 + 1 ≠ g10 := om;have e3 : w.heap.size + 1 + 1 + 1 ≠ g9 := om;have e4 : w.heap.size + 1 + 1 + 1 ≠ g10 := om;by_cases hp : n1 = n2 ∨ val  av xs % val  av ys = 0
  · obtain ⟨L, hL⟩ : ∃ L : Nat, L = (limbs ri).length := ⟨_, rfl⟩;have HQ := Lib.hid (      SF hp); have HR := Lib.hid (      SG hp);have hfin : n1 = n2 ∨ L = 0 := by
     rcases hp with h | h
     · exact Or.inl h
     · right
       rw [hL, HRI.out, HRV.out, h]; cases n1 <;> simp [ bJ,         qt]
    have hnn : n1 ≠ n2 → L = 0 := fun h => hfin.resolve_left h;rw [← hL] at v1;clear hfin hp;have  ax6 : Hid (qi = dq n1 n2 (val  av xs) (val  av ys)) := by show _ = _; rw [HQI.out, HQV.out, HBQ.out]; exact HQ.out
    have  ax7 : Hid (ri = dr n1 n2 (val  av xs) (val  av ys)) := by show _ = _; rw [HRI.out, HRV.out]; exact HR.out
    by_cases h7 : L = 0
    · have h7' : decide ((0 : Int) < (L : Int)) = false := by simp [h7]
      have hlt : ¬ ((0 : Int) < (L : Int)) := om;clear h7 hnn;go_upto_region 10 with fail
      go_region
      go_wp2_with fail
      exact   ap5
    · have h12 : n1 = n2 := Classical.byContradiction fun h => h7 (hnn h);subst h12;have h7' : decide ((0 : Int) < (L : Int)) = true := by simp; omega
      have hlt : (0 : Int) < (L : Int) := om;clear h7 hnn;go_upto_region 10 with fail
      go_region
      go_wp2_with fail
      exact   ap5
  · obtain ⟨hqx,  Ze,  Fe,  bex,  aWz, hL0, hle, hbt,  ax6,  ax7⟩ :=         Gq hp hs hl ht HQV.out HRV.out HQI.out HRI.out HBQ.out hy0;have HX := Lib.hid hp; have HL := Lib.hid hle; have HV := Lib.hid  Ze; have HW := Lib.hid  Fe;clear hp hle  Ze  Fe hqx;subst hbt;obtain ⟨L, hL⟩ : ∃ L : Nat, L = (limbs ri).length := ⟨_, rfl⟩;rw [← hL] at v1;have h7' : decide ((0 : Int) < (L : Int)) = true := by simp; omega
    have hlt : (0 : Int) < (L : Int) := om;have hq5 :=  Fb.nums; have  qW := ho5.nums;go_wp2_with fail
    refine (      jU A4 _ c4 1 (limbs qi) [1] _ (hq5.alloc _) (      Ay wc 1 1 rfl om) (        ztq _) (by intro x hx; simp at hx; subst hx; unfold  av; omega) om (by simp)).mono ?_;rintro e w4 ⟨g, zs, rfl, hrow, hzl, hzs, hzv, hge, hb4⟩;have hcx := X5.lt; have hcy := Y5.lt; have hcr := R5.lt; have hcs := S5.lt;have X6 := (X5.alloc _).below hb4 (by simp; omega); have Y6 := (Y5.alloc _).below hb4 (by simp; omega); have R6 := (R5.alloc _).below hb4 (by simp; omega); have S6 := (S5.alloc _).below hb4 (by simp; omega);have hz9 := Z9.lt; have  bej := Z10.lt;have Z96 := (Z9.alloc _).below hb4 (by simp; omega); have  ax9 := (Z10.alloc _).below hb4 (by simp; omega);have  aM1 := (ho5.alloc _).below hb4 (Nat.le_refl _);have L6 := (L5.alloc L5.size _).trans (hb4.mono (by have := L5.size; simp; omega));have  aWx := hb4.size;simp only [World.size_alloc] at  aWx
    have HZV : Hid ( bJ true (val  av zs) = dq n1 n2 (val  av xs) (val  av ys)) := by
     show _ = _; rw [hzv, HV.out]; exact  ax6.out
    have   aM2 : zs.length ≤ 1048576 := by rw [hzl]; simp; omega
    have hzn := hrow.nums hzl (    ydq hzs);clear hb4 hzl hzv hrow X5 Y5 R5 S5 Z9 Z10  Fb ho5 L5 hq5  qW x0 x1 x2 x3 y0 y1 y2 y3 u0 u1 u2 u3 v0 v1 v2 v3 r0 r1 r2 r3 s0 s1 s2 s3;go_wp2_with fail
    refine (      oh true _ _ zs _ hzn hzs   aM2).mono ?_;rintro e w5 ⟨A6, c6, rfl, ho6, hb5⟩;rw [HZV.out] at ho6 ⊢;have X7 := X6.below hb5 X6.lt; have Y7 := Y6.below hb5 Y6.lt; have R7 := R6.below hb5 R6.lt; have S7 := S6.below hb5 S6.lt;have Z97 := Z96.below hb5 Z96.lt; have  aM3 :=  ax9.below hb5  ax9.lt;have  aM4 :=  aM1.below hb5 (Nat.le_refl _);have L7 := L6.trans (hb5.mono L6.size);have  bf0 := hb5.size;clear hb5 X6 Y6 R6 S6 Z96  ax9  aM1 L6;obtain ⟨u0, u1, u2, u3⟩ := Z97.two;go_upto_region 9 with fail
    have e9x : w.heap.size ≠ g9 := om;have e9y : w.heap.size + 1 ≠ g9 := om;obtain ⟨W, hW⟩ : ∃ W, W = (w5.setCell ⟨g9, 0, none⟩ (.bool (decide (dq n1 n2 (val  av xs) (val  av ys) < 0)))).setCell ⟨g9, 1, none⟩ (.slice A6 (limbs (dq n1 n2 (val  av xs) (val  av ys))).length c6) := ⟨_, rfl⟩;have X8 :  aB W w.heap.size 24 #[.bool n1, .slice A xs.length c] := by rw [hW]; exact (X7.far e9x _).far e9x _
    have Y8 :  aB W (w.heap.size + 1) 24 #[.bool n2, .slice B ys.length d] := by rw [hW]; exact (Y7.far e9y _).far e9y _
    have R8 :  aB W (w.heap.size + 1 + 1) 24 #[.bool false, .slice none 0 0] := by rw [hW]; exact (R7.far e1 _).far e1 _
    have S8 :  aB W (w.heap.size + 1 + 1 + 1) 24 #[.bool false, .slice none 0 0] := by rw [hW]; exact (S7.far e3 _).far e3 _
    have Z98 :  aB W g9 24 #[.bool (decide (dq n1 n2 (val  av xs) (val  av ys) < 0)), .slice A6 (limbs (dq n1 n2 (val  av xs) (val  av ys))).length c6] := by rw [hW]; exact Z97.set2 _ _
    have  axq :  aB W g10 24 #[.bool (decide (ri < 0)), .slice A5 L c5] := by rw [hW, hL]; exact ( aM3.far hne.symm _).far hne.symm _
    have  aWj : Own W w3.heap.size A5 c5 (limbs ri) := by rw [hW]; exact  aM4.set2 Z97 de _ _
    have  aX0 : Own W w4.heap.size A6 c6 (limbs (dq n1 n2 (val  av xs) (val  av ys))) := by rw [hW]; exact ho6.set2 Z97 de _ _
    have L8 : Below w.heap.size w W := by rw [hW]; exact (L7.setCell (by show w.heap.size ≤ g9; omega) _).setCell (by show w.heap.size ≤ g9; omega) _
    have hWs : W.heap.size = w5.heap.size := by rw [hW]; simp
    rw [← hW];clear hW X7 Y7 R7 S7 Z97  aM3  aM4 ho6 L7 u0 u1 u2 u3;have hr8 :=  aWj.nums;have hy8 := hy.below L8 (Nat.le_refl _);obtain ⟨x0, x1, x2, x3⟩ := X8.two;obtain ⟨y0, y1, y2, y3⟩ := Y8.two;obtain ⟨v0, v1, v2, v3⟩ :=  axq.two;subst hL;go_region_with
     (first
      | (go_at_call 150; refine (      jV B A5 d c5 ys (limbs ri) _ (by repeat (first | with_reducible exact hy8 | with_reducible apply   aA.drew)) (by repeat (first | with_reducible exact hr8 | with_reducible apply   aA.drew)) ht (        ztq _) om  aWz HL.out).mono ?_; rintro e w6 ⟨g2, z2, rfl, hrow2,  axz,  aM5,  aM6,  aX1, hb6⟩; (try (simp only [World.size_drew] at  aX1)); have Y9 :=  aB.below (w := _) (by repeat (first | with_reducible exact Y8 | with_reducible apply  aB.drew)) hb6 Y8.lt; have R9 :=  aB.below (w := _) (by repeat (first | with_reducible exact R8 | with_reducible apply  aB.drew)) hb6 R8.lt; have S9 :=  aB.below (w := _) (by repeat (first | with_reducible exact S8 | with_reducible apply  aB.drew)) hb6 S8.lt; have Z99 :=  aB.below (w := _) (by repeat (first | with_reducible exact Z98 | with_reducible apply  aB.drew)) hb6 Z98.lt; have  axx :=  aB.below (w := _) (by repeat (first | with_reducible exact  axq | with_reducible apply  aB.drew)) hb6  axq.lt; have  aM7 := Own.below (w := _) (by repeat (first | with_reducible exact  aX0 | with_reducible apply Own.drew)) hb6 (Nat.le_refl _); have L9 := Below.trans (b := _) (by repeat (first | with_reducible exact L8 | with_reducible apply Below.drew)) (hb6.mono L8.size); have  aX2 := hb6.size; (try (simp only [World.size_drew] at  aX2)); have  aX3 : Hid ( bJ n2 (val  av z2) = dr n1 n2 (val  av xs) (val  av ys)) := (by show _ = _; rw [ aM6, HW.out]; exact  ax7.out); have    axj : z2.length ≤ 1048576 := (by rw [ axz]; omega); have  ay0 := hrow2.nums  axz (    ydq  aM5); clear  aM6  axz; obtain ⟨p0, p1, p2, p3⟩ := Y9.two; obtain ⟨q0, q1, q2, q3⟩ :=  axx.two)
      | (go_at_call 97; refine (      oh n2 _ _ z2 _ (by repeat (first | with_reducible exact  ay0 | with_reducible apply   aA.drew))  aM5    axj).mono ?_; rintro e w7 ⟨A7, c7, rfl, ho7,  SK⟩; rw [ aX3.out] at ho7 ⊢; have Y10 :=  aB.below (w := _) (by repeat (first | with_reducible exact Y9 | with_reducible apply  aB.drew))  SK Y9.lt; have R10 :=  aB.below (w := _) (by repeat (first | with_reducible exact R9 | with_reducible apply  aB.drew))  SK R9.lt; have S10 :=  aB.below (w := _) (by repeat (first | with_reducible exact S9 | with_reducible apply  aB.drew))  SK S9.lt; have  ay1 :=  aB.below (w := _) (by repeat (first | with_reducible exact Z99 | with_reducible apply  aB.drew))  SK Z99.lt; have    AJ :=  aB.below (w := _) (by repeat (first | with_reducible exact  axx | with_reducible apply  aB.drew))  SK  axx.lt; have   ap6 := Own.below (w := _) (by repeat (first | with_reducible exact  aM7 | with_reducible apply Own.drew))  SK (Nat.le_refl _); have L10 := Below.trans (b := _) (by repeat (first | with_reducible exact L9 | with_reducible apply Below.drew)) ( SK.mono L9.size); have  aX4 :=  SK.size; (try (simp only [World.size_drew] at  aX4)); have   aM8 : Hid (∀ p q, A6 = some p → A7 = some q → p.block ≠ q.block) := (fun p q hp hq' => by have h1 :=  aM7.ge p hp; have h2 := ho7.ge q hq'; (try simp at h1 h2); omega); obtain ⟨k0, k1, k2, k3⟩ := Y10.two; obtain ⟨l0, l1, l2, l3⟩ :=    AJ.two; obtain ⟨m0, m1, m2, m3⟩ :=  ay1.two; obtain ⟨r0, r1, r2, r3⟩ := R10.two; obtain ⟨s0, s1, s2, s3⟩ := S10.two))
    all_goals
     obtain ⟨V, hV⟩ : ∃ V, V = (w7.setCell ⟨g10, 0, none⟩ (.bool (decide (dr n1 n2 (val  av xs) (val  av ys) < 0)))).setCell ⟨g10, 1, none⟩ (.slice A7 (limbs (dr n1 n2 (val  av xs) (val  av ys))).length c7) := ⟨_, rfl⟩;have R11 :  aB V (w.heap.size + 1 + 1) 24 #[.bool false, .slice none 0 0] := by rw [hV]; exact (R10.far e2 _).far e2 _
     have S11 :  aB V (w.heap.size + 1 + 1 + 1) 24 #[.bool false, .slice none 0 0] := by rw [hV]; exact (S10.far e4 _).far e4 _
     have  aX5 :  aB V g9 24 #[.bool (decide (dq n1 n2 (val  av xs) (val  av ys) < 0)), .slice A6 (limbs (dq n1 n2 (val  av xs) (val  av ys))).length c6] := by rw [hV]; exact ( ay1.far hne _).far hne _
     have   aM9 :  aB V g10 24 #[.bool (decide (dr n1 n2 (val  av xs) (val  av ys) < 0)), .slice A7 (limbs (dr n1 n2 (val  av xs) (val  av ys))).length c7] := by rw [hV]; exact    AJ.set2 _ _
     have   aMq : Own V w4.heap.size A6 c6 (limbs (dq n1 n2 (val  av xs) (val  av ys))) := by rw [hV]; exact   ap6.set2    AJ de _ _
     have   aMz : Own V w6.heap.size A7 c7 (limbs (dr n1 n2 (val  av xs) (val  av ys))) := by rw [hV]; exact ho7.set2    AJ de _ _
     have L11 : Below w.heap.size w V := by rw [hV]; exact (L10.setCell (by show w.heap.size ≤ g10; omega) _).setCell (by show w.heap.size ≤ g10; omega) _
     rw [← hV];clear hV R10 S10  ay1    AJ   ap6 ho7 L10 k0 k1 k2 k3 l0 l1 l2 l3 m0 m1 m2 m3 r0 r1 r2 r3 s0 s1 s2 s3 p0 p1 p2 p3 q0 q1 q2 q3 x0 x1 x2 x3 y0 y1 y2 y3 v0 v1 v2 v3;obtain ⟨u0, u1, u2, u3⟩ :=  aX5.two;obtain ⟨v0, v1, v2, v3⟩ :=   aM9.two;obtain ⟨r0, r1, r2, r3⟩ := R11.two;obtain ⟨s0, s1, s2, s3⟩ := S11.two;go_upto_region 10 with fail
     go_region
     go_wp2_with fail
     refine bodyPost_ret (v := .tuple #[.agg #[.bool (decide (dq n1 n2 (val  av xs) (val  av ys) < 0)), .slice A6 (limbs (dq n1 n2 (val  av xs) (val  av ys))).length c6], .agg #[.bool (decide (dr n1 n2 (val  av xs) (val  av ys) < 0)), .slice A7 (limbs (dr n1 n2 (val  av xs) (val  av ys))).length c7], .int .i64 0]) (by simp [results, Tryz.results95, go_sem, r0, r1, s0, s1]) rfl ?_;exact      JX (  aMq.mono (b' := w3.heap.size) om) (  aMz.mono (b' := w3.heap.size) om) L11 om hr3 om hs3   aM8.out _ _ _ _
end
theorem SL {P:Prop} (h:P:=by
 have e:((g.toNat*v0.toNat:Nat):Int)=g*v0:=by rw[Int.natCast_mul,Int.toNat_of_nonneg hg,Int.toNat_of_nonneg hv]
 unfold B9;omega):P:=h
theorem aMx {P:Prop} (h:P:=by
 have aMj:(g-1)*v1+(r+v1)=tp:=by rw[Int.sub_mul,Int.one_mul];have:=HGR.out;omega
 have aaz:=Lib.hid aMj;clear aMj;have hsub:(g-1).toNat+1=g.toNat:=om;have ay2:=Lib.hid hsub;clear hsub;by_cases hbr:1000000000≤r+v1
 · have aX6:g-1<1000000000:=AP (tp:=tp) (v1:=v1) (r:=r+v1) aaz.out hbr HTT.out Gr;go_wp2_with fail
   go_quiet (fail)
   have hgt:g-1<1000000000:=aX6;have HGG:Hid (R<((g-1).toNat+1)*D):=by show _<_;rw[ay2.out];exact HGD.out
   have HGH:Hid ((g-1).toNat*D≤R+D):=by show _≤_;have:=Gl Gs.out (by unfold B9;omega) Gt.out (rest:=(r+v1).toNat) (vkk aaz.out HTP.out om om om hb2' hb1') om;omega
   go_wp2_with fail
   have htk:=Au (some ⟨g4,0,none⟩) g3 (us.length+1) t (us.length+1) (m+2+1) uz vz (g-1) (wo.drewN (nn+nq)) (hru.drewN _) HUL.out (hnz _) (fun a ha=>by injection ha with ha;rw[←ha];have:=hgz;show g4≠g3;omega) AQ vN om (by rw[jZ.out];have:=SN.out;omega) om hgt
    (by rw[jZ.out];exact HUB.out) (by have:=HGH.out;rw[HRe.out,HDe.out,Nat.mul_left_comm] at this;exact this)
   rw[jZ.out] at htk;refine htk.mono ?_;rintro e w5 ⟨yz,b,rfl,hry,hyl,hys,hgy,hyv,hyb⟩;have HYL:=Lib.hid hyl;have HYV:=Lib.hid hyv;have HYB:=Lib.hid hyb;clear hyl hyv hyb htk;have j3:Row w5 w4.heap.size L qs:=(hrq.drewN _).of_block (hgy.block _ (by simpa using hrq.lt) (by simp;have:=hgz;omega));have SS:Row w5 g4 (m+2+1) Zg:=(Fe.drewN _).of_block (hgy.block _ (by simpa using Fe.lt) (by simp;have:=hgz;omega));have L5:Below w.heap.size w w5:=(kd hbel _).grown hgy (kd hbel _).size (fun k hk=>by injection hk with hk;omega);have hqc:=j3.cell (j:=t) om;have hqf:=j3.frozen t;have Gp:=j3.lt;have htl:t<L:=om;cases b
   · obtain ⟨n1,n2,n3⟩:=JW (Ry:=val B9 yz) (Rz:=val B9 uz) (t:=t) (Q:=(g-1).toNat) (V:=val B9 vz) (by have:=HYV.out;rw[if_neg (by simp)] at this;exact this) (HYB.out rfl);have hg1':1≤g-1:=om;have e1:(g-1-1).toNat=(g-1).toNat-1:=om;have HN2:Hid (val B9 yz+B9^t*((g-1-1).toNat*val B9 vz)=val B9 uz):=by show _=_;rw[e1];exact n2
     have HN3:=Lib.hid n3;clear n1 n2 n3 e1;go_wp2
     go_roundw
     case rel=>exact ⟨t,yz,qs.set t (g-1-1).toNat,om,by go_num,HYL.out,by rw[List.length_set];exact yP.out,hys,jz MJ _ _ (by unfold B9;omega),hry.setOther (by simp;have:=hgz;omega) _,j3.setInt _ om (by rw[yP.out];omega),
      SS.setOther (by simp;have:=hgz;omega) _,L5.setCell (by simp;have:=L4.size;omega) _,qik (by rw[yP.out];omega) MK.out HN2.out,HN3.out⟩
     case measure=>first | (simp[intOf];done) | (simp[intOf];omega)
   · have hyt:=HYV.out;rw[if_pos rfl,Nat.add_zero] at hyt;have HYT:=Lib.hid hyt;have HN3:=Lib.hid (Aw hyt (by have:=HGG.out;rw[HRe.out,HDe.out] at this;exact this));clear hyt;go_wp2
     go_roundw
     case rel=>exact ⟨t,yz,qs.set t (g-1).toNat,om,by go_num,HYL.out,by rw[List.length_set];exact yP.out,hys,jz MJ _ _ (by unfold B9;omega),hry.setOther (by simp;have:=hgz;omega) _,j3.setInt _ om (by rw[yP.out];omega),
      SS.setOther (by simp;have:=hgz;omega) _,L5.setCell (by simp;have:=L4.size;omega) _,qik (by rw[yP.out];omega) MK.out HYT.out,HN3.out⟩
     case measure=>first | (simp[intOf];done) | (simp[intOf];omega)
 · go_wp2_with fail
   go_quiet (fail)
   go_wp2_with fail
   go_roundw
   case rel=>first | exact ⟨g-1,r+v1,rfl,rfl,om,om,om,om,aaz.out,by rw[ay2.out];exact HGD.out,_,rfl⟩ | ((repeat apply Exists.intro);exact ⟨⟨g-1,r+v1,rfl,rfl,om,om,om,om,aaz.out,by rw[ay2.out];exact HGD.out,_,rfl⟩,rfl⟩)
   case measure=>first | (simp[intOf];done) | (simp[intOf];omega)):P:=h
theorem ML {vs:List Nat} {m:Nat} (hs:small B9 vs) (hl:vs.length=m+2) {d:Nat} (hd:d*(vs.getD (m+1) 0+1)≤B9):val B9 vs*d<B9^(m+2)∨d=0:=by
 rcases Nat.eq_zero_or_pos d with h0 | h0
 · exact .inr h0
 left
 have e1:=vk (b:=B9) vs (m+2) om;rw[yg] at e1;have h1:=kp (gm hs (m+1));rw[List.length_take,Nat.min_eq_left om] at h1;have h2:val B9 vs<B9^(m+1)*(vs.getD (m+1) 0+1):=by rw[Nat.mul_add,Nat.mul_one];omega
 have h3:val B9 vs*d<B9^(m+1)*(vs.getD (m+1) 0+1)*d:=Nat.mul_lt_mul_of_pos_right h2 h0;have h4:B9^(m+1)*(vs.getD (m+1) 0+1)*d≤B9^(m+1)*B9:=by
  rw[Nat.mul_assoc,Nat.mul_comm (vs.getD (m+1) 0+1)];exact Nat.mul_le_mul_left _ hd
 rw[show m+2=m+1+1 from rfl,Nat.pow_succ];omega
theorem Gu {us vs:List Nat} {m N d:Nat} (hu:small B9 us) (hul:us.length=N) (hv:oj vs) (hvl:vs.length=m+2) (hN:m+2≤N) (hd:0<d):val B9 us*d<B9^(N+1-(m+2))*(val B9 vs*d):=by
 have h1:=kp hu;have h2:=jN jt hv om;rw[hul] at h1;rw[hvl] at h2;have h3:B9^(N+1-(m+2))*B9^(m+2-1)≤B9^(N+1-(m+2))*val B9 vs:=Nat.mul_le_mul_left _ h2;rw[←Nat.pow_add,show N+1-(m+2)+(m+2-1)=N from om] at h3;rw[←Nat.mul_assoc];exact Nat.mul_lt_mul_of_pos_right om hd
theorem AU {tp v1 x2 x1:Int} (h2:0≤x2) (h1:0≤x1) (ht:tp=x2*1000000000+x1) (hv:0<v1) (hb2:x2<1000000000:=by omega) (hb1:x1<1000000000:=by omega) :
 0≤tp/v1∧tp/v1≤2000000000000000000∧0≤tp%v1∧tp%v1<v1∧tp/v1*v1+tp%v1=tp∧x2.toNat*B9+x1.toNat<((tp/v1).toNat+1)*v1.toNat:=by
 have a0:0≤tp:=om;have a1:0≤tp/v1:=Int.ediv_nonneg a0 om;have a2:tp/v1≤tp:=Int.ediv_le_self _ a0;have a3:=Int.emod_nonneg tp (show v1≠0 from om);have a4:=Int.emod_lt_of_pos tp hv;have a5:tp/v1*v1+tp%v1=tp:=Int.ediv_mul_add_emod tp v1;refine ⟨a1,om,a3,a4,a5,?_⟩;have e:((((tp/v1).toNat+1)*v1.toNat:Nat):Int)=tp/v1*v1+v1:=by
  rw[Int.natCast_mul,Int.natCast_add,Int.toNat_of_nonneg a1,Int.toNat_of_nonneg om,Int.add_mul,Int.natCast_one,Int.one_mul]
 unfold B9;omega
theorem AP {g r tp v1:Int} (h:g*v1+r=tp) (hr:1000000000≤r) (ht:tp<(v1+1)*1000000000) (hv:0<v1):g<1000000000:=by
 rcases (by omega:g<1000000000∨1000000000≤g) with h1 | h1
 · exact h1
 · exfalso
   have h2:1000000000*v1≤g*v1:=Int.mul_le_mul_of_nonneg_right h1 om;omega
theorem vkk {g r tp v1 x2 x1:Int} (h:g*v1+r=tp) (ht:tp=x2*1000000000+x1) (hg:0≤g) (hr:0≤r) (hv:0≤v1) (h2:0≤x2) (h1:0≤x1):g.toNat*v1.toNat+r.toNat=x2.toNat*B9+x1.toNat:=by
 have e:((g.toNat*v1.toNat:Nat):Int)=g*v1:=by rw[Int.natCast_mul,Int.toNat_of_nonneg hg,Int.toNat_of_nonneg hv]
 unfold B9;omega
theorem MN {g r v0 x0:Int} (h:r*1000000000+x0<g*v0) (hg:0≤g) (hr:0≤r) (hx:0≤x0):1≤g:=by
 rcases Int.lt_or_eq_of_le hg with h1 | h1
 · omega
 · rw[←h1,Int.zero_mul] at h;omega
theorem MP {g r v0 x0:Int} (h:r*1000000000+x0<g*v0) (hg:0≤g) (hr:0≤r) (hx:0≤x0) (hv:0≤v0):r.toNat*B9+x0.toNat<g.toNat*v0.toNat:=by
 exact SL
theorem o8 {g r v0 x0:Int} (h:¬r*1000000000+x0<g*v0) (hg:0≤g) (hr:0≤r) (hx:0≤x0) (hv:0≤v0):g.toNat*v0.toNat≤r.toNat*B9+x0.toNat:=by
 exact SL
set_option maxRecDepth 100000 in
set_option maxHeartbeats 4000000 in
theorem AV (A B:Option Addr) (c d:Nat) (xs ys:List Nat) (w:World) (hx:aA w A xs) (hy:aA w B ys) (hs:small av xs) (ht:small av ys) (hl:xs.length≤1000) (hl':ys.length≤1000)
 (m:Nat) (h1:(aS B9 (val av ys)).length=m+2) (h2:(aS B9 (val av ys)).length≤(aS B9 (val av xs)).length) :
 Calls prog 148 #[.slice A xs.length c,.slice B ys.length d] w (vdv w (val av xs) (val av ys)):=by
 have hu:=qqq hs;have aX7:=qqq ht;go_enter func148,ntmps148
 go_wp2_with fail
 refine (yrv B d ys _ hy ht om).mono ?_;rintro e w1 ⟨A1,c1,vs,rfl,hv,hvd,hb1⟩;have HVD:=Lib.hid hvd;clear hvd;go_wp2_with fail
 refine jX ?_;rintro e w2 ⟨A2,c2,us,rfl,hus,hud,hb2⟩;have L2:=hb1.trans (hb2.mono hb1.size);have hv2:=hv.below hb2 (Nat.le_refl _);have QX:vs.length=m+2:=by rw[HVD.out];exact h1
 have hun:vs.length≤us.length:=by rw[HVD.out,hud];exact h2
 obtain ⟨gv,rfl,hg0,hg1,hcap,hc⟩:=hv2.at_ om;have aN0:=hc (m+1) om;have hsv:small B9 vs:=by rw[HVD.out];exact xd jt _
 have hnv:oj vs:=by rw[HVD.out];exact zbv jt _
 have hsu:small B9 us:=by rw[hud];exact xd jt _
 have hvx:val B9 us=val av xs:=by rw[hud];exact kx jt _
 have hvy:val B9 vs=val av ys:=by rw[HVD.out];exact kx jt _
 have hul:us.length≤2000:=by rw[hud];omega
 have hvl:m+2≤2000:=by rw[←h1];omega
 have aN1:1≤nth vs (m+1):=by
  rcases hnv with h | h
  · omega
  · rw[QX] at h;have:vs.getD (m+1) 0≠0:=h;unfold nth;omega
 have aN2:nth vs (m+1)<1000000000:=qr (by unfold B9;omega) hsv _;have hd0:1≤1000000000/(nth vs (m+1)+1):=Int.le_ediv_of_mul_le om om;have hd1:1000000000/(nth vs (m+1)+1)≤1000000000:=Int.ediv_le_self _ om;have hd2:(nth vs (m+1)+1==0)=false:=beq_eq_false_iff_ne.2 om;have Zf:1000000000/(nth vs (m+1)+1)*(nth vs (m+1)+1)≤1000000000:=Int.ediv_mul_le _ om;have hd9:1000000000/(nth vs (m+1)+1)≤500000000:=by
  have h:1000000000/(nth vs (m+1)+1)<500000001:=Int.ediv_lt_of_lt_mul om om;omega
 have hv1:((vs.length:Int)==1)=false:=beq_eq_false_iff_ne.2 om;have hlt:¬(us.length:Int)<(vs.length:Int):=om;have HX:=Lib.hid hvx;have HY:=Lib.hid hvy;have HN:=Lib.hid QX;have HDM:=Lib.hid Zf;have HNV:=Lib.hid hnv;have hm1:(m:Int)+2≤(us.length:Int):=om;clear hvx hvy hud h1 h2 hc hu aX7 hun Zf hnv;rw[QX] at hv1 hlt ⊢;clear QX;obtain ⟨dd,hdd⟩:∃dd,dd=1000000000/(nth vs (m+1)+1):=⟨_,rfl⟩;rw[←hdd] at hd0 hd1 hd9;have aN3:1000000000/(nth vs (m+1)+1)=dd:=hdd.symm;have HDD:=Lib.hid hdd;clear hdd;go_wp2_with fail
 refine (jW A2 c2 us dd _ (by exact hus.nums) hsu om om hd1).mono ?_;rintro e w3 ⟨g3,us0,rfl,hr3,hl3,hs3,ap7,hg3,hb3⟩;have hu0:us0.length=us.length+1:=hl3;have HU0:=Lib.hid hu0;have HV3:=Lib.hid ap7;rw[hl3];clear hl3 hu0 ap7;have hv3:=hv2.below hb3 (Nat.le_refl _);go_wp2_with fail
 have hsc:=jW (some ⟨gv,0,none⟩) c1 vs dd w3 hv3.nums hsv (by rw[HN.out];omega) om hd1;rw[HN.out] at hsc;refine hsc.mono ?_;rintro e w4 ⟨g4,Zg,rfl,hr4,hl4,hs4,ap8,hg4,hb4⟩;have HV0:Hid (Zg.length=m+3):=hl4;have HV4:=Lib.hid ap8;rw[hl4];clear hl4 ap8 hsc;have aN4:=hr3.below hb4 hr3.lt;have L3:=L2.trans (hb3.mono L2.size);have L4:=L3.trans (hb4.mono L3.size);obtain ⟨L,hLe⟩:∃L,L=us.length+1-(m+2):=⟨_,rfl⟩;have hmk:=qcx L om;have hL:(us.length:Int)+1-((m:Int)+2)=(L:Int):=om;have hLN:us.length+1=L+m+2:=om;have hL1:1≤L:=om;have SN:=Lib.hid hLN;have hlow:val B9 Zg<B9^(m+2):=by
  rw[HV4.out];rcases ML hsv HN.out (d:=dd.toNat) (by
   have h:=HDM.out;rw[aN3] at h;have e1:nth vs (m+1)=((vs.getD (m+1) 0:Nat):Int):=by unfold nth;rfl
   rw[e1] at h;obtain ⟨q,rfl⟩:=Int.eq_ofNat_of_zero_le (show 0≤dd from om);have h2:((q*(vs.getD (m+1) 0+1):Nat):Int)≤1000000000:=by rw[Int.natCast_mul,Int.natCast_add];exact h
   simp only[Int.toNat_natCast];unfold B9;omega) with h | h
  · exact h
  · omega
 have hz4:=zdv jt hlow;obtain ⟨vz,JY⟩:∃vz,vz=Zg.take (m+2):=⟨_,rfl⟩;have aN5:vz.length=m+2:=by rw[JY,List.length_take,HV0.out];omega
 have vN:small B9 vz:=by rw[JY];exact gm hs4 _
 have aax:val B9 vz=val B9 vs*dd.toNat:=by rw[JY,jg Zg (m+2) (fun j hj _=>hz4 j hj)];exact HV4.out
 have aN6:∀j,j<m+2→nth Zg j=nth vz j:=fun j hj=>by rw[JY,Ad _ _ _ hj]
 have hstart:val B9 us0<B9^L*val B9 vz:=by
  have h:=Gu (N:=us.length) (d:=dd.toNat) hsu rfl HNV.out HN.out om om;rw[HV3.out,aax,hLe];exact h
 have ap9:0<nth vz (m+1):=by
  have h1:=zu vz (m+1);rcases Int.lt_or_eq_of_le h1 with h | h
  · exact h
  · exfalso
    have hzf:Sr vz (m+1):=fun j hj=>by
     by_cases e:j=m+1
     · rw[e];unfold nth at h;omega
     · exact ylk _ _ om
    have h2:=ywk jt vN hzf;have h3:=jN jt HNV.out (by rw[HN.out];omega);rw[HN.out,show m+2-1=m+1 from rfl] at h3;have h4:val B9 vs*1≤val B9 vs*dd.toNat:=Nat.mul_le_mul_left _ om;rw[aax] at h2;omega
 have HVT:=Lib.hid ap9;clear ap9;have qW:=(Row.made w4 L).fill;simp only[List.nil_append,List.length_nil,Nat.sub_zero] at qW
 have L5:Below w.heap.size w (w4.alloc (.cells (madeCells #[.int .u64 0] L) 25)):=L4.alloc L4.size _;have aN7:Row (w4.alloc (.cells (madeCells #[.int .u64 0] L) 25)) g3 (us.length+1) us0:=aN4.alloc _;have aN8:Row (w4.alloc (.cells (madeCells #[.int .u64 0] L) 25)) g4 (m+2+1) Zg:=hr4.alloc _;have hgz:w2.heap.size≤g3∧g3<g4∧g4<w4.heap.size:=⟨hg3,by have:=hr3.lt;omega,hr4.lt⟩;have bf1:w.heap.size≤g3:=by have:=L2.size;omega
 have HVN:=Lib.hid aN6;have jZ:=Lib.hid aN5;have aN9:=Lib.hid aax;have HST:=Lib.hid hstart;clear hLN hLe JY aN5 aax aN6 hstart hlow hz4 HV4 HV0 hs4 hr3 aN4 hr4 hb4 hb3 hg3 hg4 L3 hv3 hv2 hv hus hb1 hb2 L2 hg0 hcap;go_wp2_with fail
 clear aN0 aN1 aN2 hd2 aN3 hL hmk;go_loopw [13] (fun v wr=>∃(k:Nat) (uz qs:List Nat),k≤L∧v= .int .i64 ((k:Int)-1)∧uz.length=us.length+1∧qs.length=L∧small B9 uz∧small B9 qs∧Row wr g3 (us.length+1) uz∧Row wr w4.heap.size L qs∧
  Row wr g4 (m+2+1) Zg∧Below w.heap.size w wr∧val B9 us0=B9^k*(val B9 (qs.drop k)*val B9 vz)+val B9 uz∧val B9 uz<B9^k*val B9 vz) (fun v _=>(intOf v+1).toNat)
 case atStart=>exact ⟨L,us0,List.replicate L 0,Nat.le_refl _,rfl,HU0.out,by simp,hs3,fun x hx=>by rw[List.mem_replicate] at hx;rw[hx.2];unfold B9;omega,aN7,qW,aN8,L5,by simp[val],HST.out⟩
 case round=>
  obtain ⟨k,uz,qs,hk,rfl,aNq,aNz,AQ,MJ,hru,hrq,Fe,hbel,hval,hlt'⟩:=hrel;have HUL:=Lib.hid aNq;have yP:=Lib.hid aNz;have MK:=Lib.hid hval;have HLT:=Lib.hid hlt';clear aNq aNz hval hlt' aN7 aN8 qW L5;by_cases hk0:k=0
  · subst hk0;have hve:=MK.out;have hle:=HLT.out;simp only[Nat.pow_zero,Nat.one_mul,List.drop_zero] at hve hle
    have hub:val B9 uz<B9^(m+2):=by
     have h2:=kp vN;rw[jZ.out] at h2;omega
    have hut:(uz.take (m+2)).length=m+2:=by rw[List.length_take,HUL.out];have:=SN.out;omega
    have huv:val B9 (uz.take (m+2))=val B9 uz:=jg uz (m+2) (fun j hj _=>zdv jt hub j hj);have hnu:aA wr (some ⟨g3,0,none⟩) (uz.take (m+2)):=⟨ziv (fun x hx=>by have:=gm AQ (m+2) x hx;unfold B9 at this;omega),fun _=>⟨g3,0,rfl,hru.lt,fun j hj=>by
     rw[Nat.zero_add,Ad _ _ _ (by rw[←hut];exact hj)];exact hru.cell (by rw[hut] at hj;have:=SN.out;omega)⟩⟩
    have hnq:aA wr (some ⟨w4.heap.size,0,none⟩) qs:=⟨ziv (fun x hx=>by have:=MJ x hx;unfold B9 at this;omega),fun _=>⟨w4.heap.size,0,rfl,hrq.lt,fun j hj=>by
     rw[Nat.zero_add];exact hrq.cell (by rw[←yP.out];exact hj)⟩⟩
    have HVE:=Lib.hid hve;have yO:=Lib.hid hle;have HUV:=Lib.hid huv;have HUT:=Lib.hid hut;have hm3:(0:Int)≤(m:Int)+2:=om;have hm4:(m:Int)+2≤(us.length:Int)+1:=om;clear hve hle huv hut MK HLT HDD;go_wp2_with fail
    have hsh:=qU (some ⟨g3,0,none⟩) (us.length+1) (uz.take (m+2)) dd wr hnu (gm AQ _) (by rw[HUT.out];omega) om om;rw[HUT.out] at hsh;refine hsh.mono ?_;rintro e w6 ⟨g6,zs,r,rfl,hr6,hz6,aNx,bf2,bf3,hv6,hg6,hb6⟩;have HZ6:=Lib.hid hz6;have HV6:=Lib.hid hv6;clear hz6 hv6 hsh;go_wp2_with fail
    have hdb:=qdk (some ⟨w4.heap.size,0,none⟩) L qs w6 (hnq.below hb6 (Nat.le_refl _)) MJ (by rw[yP.out];have:=SN.out;omega);rw[yP.out] at hdb;refine hdb.mono ?_;rintro e w7 ⟨A7,c7,q7,rfl,hq7,aX8,aNj,bf4,SK⟩;have HQ7:=Lib.hid aNj;clear aNj hdb;go_wp2_with fail
    refine (qdk _ _ zs _ (by exact (hr6.nums rfl (fun x hx=>by have:=aNx x hx;unfold B9 at this;omega)).below SK (Nat.le_refl _)) aNx (by have:=HZ6.out;omega)).mono ?_;rintro e w8 ⟨A8,c8,q8,rfl,hq8,aX9,aO0,bf5,hb8⟩;have HQ8:=Lib.hid aO0;clear aO0;go_wp2
    go_ret2
    obtain ⟨d1,d2⟩:=SA (X:=val av xs) (Y:=val av ys) (Q:=val B9 qs) (Z:=val B9 zs) (d:=dd.toNat) (r:=r.toNat) (by
     rw[←HX.out,←HV3.out,HVE.out,aN9.out,HY.out,←HUV.out,HV6.out]) om (by rw[←HY.out,←aN9.out,←HV6.out,HUV.out];exact yO.out)
    obtain ⟨e1,e2⟩:=SE d1 d2;have L6:=hbel.trans (hb6.mono hbel.size);have L7:=L6.trans (SK.mono L6.size);exact ⟨A7,c7,q7,A8,c8,q8,rfl,hq7.nums.below hb8 (Nat.le_refl _),hq8.nums,aX8,aX9,by have:=SN.out;omega,by have:=HZ6.out;omega,by rw[HQ7.out];exact e1,by rw[HQ8.out];exact e2,L7.trans (hb8.mono L7.size)⟩
  · obtain ⟨t,rfl⟩:∃t,k=t+1:=⟨k-1,om⟩;obtain ⟨wo,rfl⟩:∃wo:World,wo=wr:=⟨_,rfl⟩;have ht1:((t+1:Nat):Int)-1=(t:Int):=om;rw[ht1];clear ht1 hk0;have hc2:=hru.cell (j:=t+(m+2)) (by have:=SN.out;omega);have hc1:=hru.cell (j:=t+(m+1)) (by have:=SN.out;omega);have hc0:=hru.cell (j:=t+m) (by have:=SN.out;omega);have aO1:=Fe.cell (j:=m+1) om;have aO2:=Fe.cell (j:=m) om;rw[HVN.out _ om] at aO1 aO2;have aO3:val B9 uz<B9^(t+(m+2)+1):=by
     have h1:=HLT.out;have h2:=kp vN;rw[jZ.out] at h2;have h3:B9^(t+1)*val B9 vz<B9^(t+1)*B9^(m+2):=Nat.mul_lt_mul_of_pos_left h2 (Ac jt _);rw[←Nat.pow_add,show t+1+(m+2)=t+(m+2)+1 from om] at h3;omega
    have hzu:Sr uz (t+m+3):=zdv jt (by rw[show t+m+3=t+(m+2)+1 from om];exact aO3);obtain ⟨Gt,MQ⟩:=Sy (us:=uz) (t:=t) (m:=m) AQ hzu (by have:=HUL.out;have:=SN.out;omega);obtain ⟨Gv,Gs⟩:=Sz (vs:=vz) (t:=t) (m:=m) vN jZ.out;have hb2:nth uz (t+(m+2))<1000000000:=qr (by unfold B9;omega) AQ _;have hb1:nth uz (t+(m+1))<1000000000:=qr (by unfold B9;omega) AQ _;have hb0:nth uz (t+m)<1000000000:=qr (by unfold B9;omega) AQ _;have hb2':=zu uz (t+(m+2));have hb1':=zu uz (t+(m+1));have aaj:=zu uz (t+m);have aXq:nth vz (m+1)<1000000000:=qr (by unfold B9;omega) vN _;have aXz:nth vz m<1000000000:=qr (by unfold B9;omega) vN _;have AX:=zu vz m;have Gr:0<nth vz (m+1):=HVT.out;have hR:val B9 uz<B9*(B9^t*val B9 vz):=by have:=HLT.out;rw[Nat.pow_succ,Nat.mul_assoc,Nat.mul_left_comm] at this;exact this
    obtain ⟨R,hRe⟩:∃R,R=val B9 uz:=⟨_,rfl⟩;obtain ⟨D,hDe⟩:∃D,D=B9^t*val B9 vz:=⟨_,rfl⟩;obtain ⟨Pw,hPe⟩:∃Pw,Pw=B9^(t+m):=⟨_,rfl⟩;rw[←hRe,←hPe] at Gt MQ;rw[←hDe,←hPe] at Gv Gs;rw[←hRe,←hDe] at hR;obtain ⟨x2,hx2⟩:∃x,x=nth uz (t+(m+2)):=⟨_,rfl⟩;obtain ⟨x1,hx1⟩:∃x,x=nth uz (t+(m+1)):=⟨_,rfl⟩;obtain ⟨x0,hx0⟩:∃x,x=nth uz (t+m):=⟨_,rfl⟩;obtain ⟨v1,ay3⟩:∃x,x=nth vz (m+1):=⟨_,rfl⟩;obtain ⟨v0,ay4⟩:∃x,x=nth vz m:=⟨_,rfl⟩;have ex2:uz.getD (t+m+2) 0=x2.toNat:=by rw[hx2,ykv];rfl
    have ex1:uz.getD (t+m+1) 0=x1.toNat:=by rw[hx1,ykv];rfl
    have ex0:uz.getD (t+m) 0=x0.toNat:=by rw[hx0,ykv]
    have ev1:vz.getD (m+1) 0=v1.toNat:=by rw[ay3,ykv]
    have dR:vz.getD m 0=v0.toNat:=by rw[ay4,ykv]
    rw[ex2,ex1,ex0] at Gt MQ;rw[ev1,dR] at Gv Gs;rw[←hx2] at hc2 hb2 hb2';rw[←hx1] at hc1 hb1 hb1';rw[←hx0] at hc0 hb0 aaj;rw[←ay3] at aO1 aXq Gr;rw[←ay4] at aO2 aXz AX;have HRe:=Lib.hid hRe;have HDe:=Lib.hid hDe;have Gt:=Lib.hid Gt;have MQ:=Lib.hid MQ;have Gv:=Lib.hid Gv;have Gs:=Lib.hid Gs;have hR:=Lib.hid hR;clear hRe hDe hPe hx2 hx1 hx0 ay3 ay4 ex2 ex1 ex0 ev1 dR;have hi1:(t:Int)+((m:Int)+2)<(us.length:Int)+1:=by have:=SN.out;omega
    have hi0:(0:Int)≤(t:Int)+((m:Int)+2):=om;have hw1:IntKind.i64.wrap ((t:Int)+((m:Int)+2))=(t:Int)+((m:Int)+2):=IntWalk.i64_in _ om;have hw2:IntKind.i64.wrap ((t:Int)+((m:Int)+2)-1)=(t:Int)+((m:Int)+2)-1:=IntWalk.i64_in _ om;have hw3:IntKind.i64.wrap ((m:Int)+2-1)=(m:Int)+2-1:=IntWalk.i64_in _ om;obtain ⟨tp,htp⟩:∃tp,tp=x2*1000000000+x1:=⟨_,rfl⟩;have hq1:IntKind.u64.wrap (x2*1000000000)=x2*1000000000:=by simp[IntKind.wrap,IntKind.signed,IntKind.bits];omega
    have hq2:IntKind.u64.wrap (x2*1000000000+x1)=tp:=by rw[htp];simp[IntKind.wrap,IntKind.signed,IntKind.bits];omega
    have bf6:0≤tp:=om;have bf7:tp<1000000000000000000:=om;have bf8:(v1==0)=false:=beq_eq_false_iff_ne.2 om;have HTP:=Lib.hid htp;clear htp;go_wp2
    go_quiet (fail)
    go_wp2_with fail
    go_quiet (fail)
    go_wp2_with fail
    have htt:tp<(v1+1)*1000000000:=by
     have h:=MH Gs.out (by unfold B9;omega) Gt.out hR.out;have e:=HTP.out;unfold B9 at h;omega
    have HTT:=Lib.hid htt;clear htt;have HUB:Hid (val B9 uz<B9^(t+(m+2)+1)):=aO3;have hnz:∀k,aA (wo.drewN k) (some ⟨g4,0,none⟩) vz:=fun k=>⟨ziv (fun x hx=>by have:=vN x hx;unfold B9 at this;omega),fun _=>⟨g4,0,rfl,(Fe.drewN k).lt,fun j hj=>by rw[Nat.zero_add,←HVN.out j (by rw[←jZ.out];exact hj)];exact (Fe.drewN k).cell (by rw[jZ.out] at hj;omega)⟩⟩;have hgf:=AU (tp:=tp) (v1:=v1) (x2:=x2) (x1:=x1) hb2' hb1' HTP.out Gr;obtain ⟨f0,f1,f2,f3,f4,f5⟩:=hgf;have hG0:R<((tp/v1).toNat+1)*D:=Av Gv.out MQ.out (by unfold B9;omega) f5;have HG0:=Lib.hid hG0;have HF4:=Lib.hid f4;clear hG0 f4 f5 hq1 hq2 hw1 hw2 hc2 hc1;have hw4:IntKind.i64.wrap ((t:Int)+((m:Int)+2)-2)=(t:Int)+(m:Int):=by rw[IntWalk.i64_in _ om];omega
    have hw5:IntKind.i64.wrap ((m:Int)+2-2)=(m:Int):=by rw[IntWalk.i64_in _ om];omega
    have hw1:IntKind.i64.wrap ((t:Int)+((m:Int)+2))=(t:Int)+((m:Int)+2):=IntWalk.i64_in _ om;go_loopw [15,16] (fun gv rv wx=>∃g r:Int,gv= .int .u64 g∧rv= .int .u64 r∧0≤g∧g≤2000000000000000000∧0≤r∧r<1000000000∧g*v1+r=tp∧R<(g.toNat+1)*D∧ ∃nn,wx=wo.drewN nn) (fun gv _ _=>(intOf gv).toNat)
    case atStart=>exact ⟨_,_,rfl,rfl,f0,f1,f2,om,HF4.out,HG0.out,_,by simp only[World.drewN_drewN];rfl⟩
    case round=>
     obtain ⟨g,r,rfl,rfl,hg0,hg1,hr0,hr1,hgr,hG,nn,rfl⟩:=hrel;have HGR:=Lib.hid hgr;have HG:=Lib.hid hG;clear hgr hG f0 f1 f2 f3;have bf9:decide (r<1000000000)=true:=by simpa using hr1
     by_cases hg9:1000000000≤g
     · have aXx:decide (1000000000≤g)=true:=by simpa using hg9
       have hgp:1≤g:=om;have HGD:Hid (R<g.toNat*D):=Gj hR.out (by unfold B9;omega);exact aMx
     · have aXx:decide (1000000000≤g)=false:=by simp;omega
       have hp0:0≤g*v0:=Int.mul_nonneg hg0 AX;have hp1:g*v0≤999999999*999999999:=Int.mul_le_mul om om AX om;have hwp:IntKind.u64.wrap (g*v0)=g*v0:=by simp[IntKind.wrap,IntKind.signed,IntKind.bits];omega
       have hwr:IntKind.u64.wrap (r*1000000000)=r*1000000000:=by simp[IntKind.wrap,IntKind.signed,IntKind.bits];omega
       have hws:IntKind.u64.wrap (r*1000000000+x0)=r*1000000000+x0:=by simp[IntKind.wrap,IntKind.signed,IntKind.bits];omega
       by_cases hcmp:r*1000000000+x0<g*v0
       · have hcd:decide (r*1000000000+x0<g*v0)=true:=by simpa using hcmp
         have hgp:1≤g:=MN hcmp hg0 hr0 aaj;have HGD:Hid (R<g.toNat*D):=vM Gv.out MQ.out (vkk HGR.out HTP.out hg0 hr0 om hb2' hb1') (MP hcmp hg0 hr0 aaj AX);exact aMx
       · have hcd:decide (r*1000000000+x0<g*v0)=false:=by simpa using hcmp
         go_wp2_with fail
         go_quiet (fail)
         have hgt:g<1000000000:=om;have HGG:Hid (R<((g).toNat+1)*D):=HG;have HGH:Hid ((g).toNat*D≤R+D):=by show _≤_;exact Gm Gs.out Gv.out om Gt.out (vkk HGR.out HTP.out hg0 hr0 om hb2' hb1') (by unfold B9;omega) (o8 (by have:=hcmp;omega) hg0 hr0 aaj AX)
         go_wp2_with fail
         have htk:=Au (some ⟨g4,0,none⟩) g3 (us.length+1) t (us.length+1) (m+2+1) uz vz (g) (wo.drewN (nn+nq)) (hru.drewN _) HUL.out (hnz _) (fun a ha=>by injection ha with ha;rw[←ha];have:=hgz;show g4≠g3;omega) AQ vN om (by rw[jZ.out];have:=SN.out;omega) om hgt
          (by rw[jZ.out];exact HUB.out) (by have:=HGH.out;rw[HRe.out,HDe.out,Nat.mul_left_comm] at this;exact this)
         rw[jZ.out] at htk;refine htk.mono ?_;rintro e w5 ⟨yz,b,rfl,hry,hyl,hys,hgy,hyv,hyb⟩;have HYL:=Lib.hid hyl;have HYV:=Lib.hid hyv;have HYB:=Lib.hid hyb;clear hyl hyv hyb htk;have j3:Row w5 w4.heap.size L qs:=(hrq.drewN _).of_block (hgy.block _ (by simpa using hrq.lt) (by simp;have:=hgz;omega));have SS:Row w5 g4 (m+2+1) Zg:=(Fe.drewN _).of_block (hgy.block _ (by simpa using Fe.lt) (by simp;have:=hgz;omega));have L5:Below w.heap.size w w5:=(kd hbel _).grown hgy (kd hbel _).size (fun k hk=>by injection hk with hk;omega);have hqc:=j3.cell (j:=t) om;have hqf:=j3.frozen t;have Gp:=j3.lt;have htl:t<L:=om;cases b
         · obtain ⟨n1,n2,n3⟩:=JW (Ry:=val B9 yz) (Rz:=val B9 uz) (t:=t) (Q:=(g).toNat) (V:=val B9 vz) (by have:=HYV.out;rw[if_neg (by simp)] at this;exact this) (HYB.out rfl);have hg1':1≤g:=om;have e1:(g-1).toNat=(g).toNat-1:=om;have HN2:Hid (val B9 yz+B9^t*((g-1).toNat*val B9 vz)=val B9 uz):=by show _=_;rw[e1];exact n2
           have HN3:=Lib.hid n3;clear n1 n2 n3 e1;go_wp2
           go_roundw
           case rel=>exact ⟨t,yz,qs.set t (g-1).toNat,om,by go_num,HYL.out,by rw[List.length_set];exact yP.out,hys,jz MJ _ _ (by unfold B9;omega),hry.setOther (by simp;have:=hgz;omega) _,j3.setInt _ om (by rw[yP.out];omega),
            SS.setOther (by simp;have:=hgz;omega) _,L5.setCell (by simp;have:=L4.size;omega) _,qik (by rw[yP.out];omega) MK.out HN2.out,HN3.out⟩
           case measure=>first | (simp[intOf];done) | (simp[intOf];omega)
         · have hyt:=HYV.out;rw[if_pos rfl,Nat.add_zero] at hyt;have HYT:=Lib.hid hyt;have HN3:=Lib.hid (Aw hyt (by have:=HGG.out;rw[HRe.out,HDe.out] at this;exact this));clear hyt;go_wp2
           go_roundw
           case rel=>exact ⟨t,yz,qs.set t (g).toNat,om,by go_num,HYL.out,by rw[List.length_set];exact yP.out,hys,jz MJ _ _ (by unfold B9;omega),hry.setOther (by simp;have:=hgz;omega) _,j3.setInt _ om (by rw[yP.out];omega),
            SS.setOther (by simp;have:=hgz;omega) _,L5.setCell (by simp;have:=L4.size;omega) _,qik (by rw[yP.out];omega) MK.out HYT.out,HN3.out⟩
           case measure=>first | (simp[intOf];done) | (simp[intOf];omega)
theorem vO {W wc:World} {f:Int} {g0 g1:Nat} (L:Below W.heap.size W wc)
 (hg:W.heap.size≤g0) (hg':W.heap.size≤g1) (u v u' v':Value) :
 jY W 0 0 f (.returned (.tuple #[.agg #[.bool false,.slice none 0 0],.agg #[.bool false,.slice none 0 0],.int .i64 f])) ((((wc.setCell ⟨g0,0,none⟩ u).setCell ⟨g0,1,none⟩ v).setCell ⟨g1,0,none⟩ u').setCell ⟨g1,1,none⟩ v'):=
 ⟨none,0,none,0,by rw[qt];rfl,by rw[qt];exact Own.nil _ _,by rw[qt];exact Own.nil _ _,(((L.setCell hg _).setCell hg _).setCell hg' _).setCell hg' _,fun _ _ h=>by cases h⟩
section
variable (A B:Option Addr) (c d:Nat) (xs ys:List Nat) (w:World)
set_option maxHeartbeats 1000000 in
theorem AY (n1 n2:Bool) (hx:aA w A xs) (hy:aA w B ys) (hg:zm n1 xs=true) (hk:zm n2 ys=true) (h0:ys.length=0) :
 Calls prog 95 #[.agg #[.bool n1,.slice A xs.length c],.agg #[.bool n2,.slice B ys.length d]] w (jY w 0 0 6):=by
 obtain ⟨_,_,hlx,_⟩:=ym hg;have h00:((ys.length:Int)==0)=true:=beq_iff_eq.2 om;have pq:ys.length≤9223372036854775807:=om;clear h0;go_enter func95,ntmps95
 go_wp2_with fail
 refine (yf n1 c _ A xs om ((((hx.alloc _).alloc _).alloc _).alloc _)).mono ?_;rintro e w1 ⟨rfl,hb1⟩;have Y1:=(((aB.new (w.alloc (.cells #[.bool n1,.slice A xs.length c] 24)) 24 #[.bool n2,.slice B ys.length d]).alloc (.cells #[.bool false,.slice none 0 0] 24)).alloc (.cells #[.bool false,.slice none 0 0] 24)).below hb1 (by simp;try omega);have R1:=((aB.new ((w.alloc (.cells #[.bool n1,.slice A xs.length c] 24)).alloc (.cells #[.bool n2,.slice B ys.length d] 24)) 24 #[.bool false,.slice none 0 0]).alloc (.cells #[.bool false,.slice none 0 0] 24)).below hb1 (by simp);have S1:=(aB.new (((w.alloc (.cells #[.bool n1,.slice A xs.length c] 24)).alloc (.cells #[.bool n2,.slice B ys.length d] 24)).alloc (.cells #[.bool false,.slice none 0 0] 24)) 24 #[.bool false,.slice none 0 0]).below hb1 (by simp);have L1:Below w.heap.size w w1:=(((((Below.refl _ _).alloc (Nat.le_refl _) _).alloc (by simp) _).alloc (by simp;omega) _).alloc (by simp;omega) _).trans (hb1.mono (by simp;omega));simp only[World.size_alloc] at Y1 R1 S1
 clear hb1;obtain ⟨y0,y1,y2,y3⟩:=Y1.two;go_wp2_with fail
 refine (yf n2 d _ B ys om (hy.below L1 (Nat.le_refl _))).mono ?_;rintro e w2 ⟨rfl,hb2⟩;have Y2:=Y1.below hb2 Y1.lt;have R2:=R1.below hb2 R1.lt;have S2:=S1.below hb2 S1.lt;have L2:=L1.trans (hb2.mono L1.size);clear y0 y1 y2 y3 Y1 R1 S1 L1 hb2;obtain ⟨y0,y1,y2,y3⟩:=Y2.two;obtain ⟨r0,r1,r2,r3⟩:=R2.two;obtain ⟨s0,s1,s2,s3⟩:=S2.two;go_wp2_with fail
 refine bodyPost_ret (v:=.tuple #[.agg #[.bool false,.slice none 0 0],.agg #[.bool false,.slice none 0 0],.int .i64 6]) (by simp[results,Tryz.results95,go_sem,r0,r1,s0,s1]) rfl ?_;exact vO L2 om om _ _ _ _
theorem Gw (hx:aA w A xs) (hy:aA w B ys) (hs:small av xs) (ht:small av ys) (hl:xs.length≤1000) (hl':ys.length≤1000) (h0:0<val av ys) :
 Calls prog 148 #[.slice A xs.length c,.slice B ys.length d] w (vdv w (val av xs) (val av ys)):=by
 have hp:=RL jt (n:=val av ys) om;by_cases h1:(aS B9 (val av ys)).length=1
 · exact Gn A B c d xs ys w hx hy hs ht hl hl' h1
 by_cases h2:(aS B9 (val av xs)).length<(aS B9 (val av ys)).length
 · exact Az A B c d xs ys w hx hy hs ht hl hl' h1 h2
 exact AV A B c d xs ys w hx hy hs ht hl hl' ((aS B9 (val av ys)).length-2) om om
theorem vmq (n1 n2:Bool) (hx:aA w A xs) (hy:aA w B ys) (hg:zm n1 xs=true) (hk:zm n2 ys=true) (h0:0<ys.length) :
 Calls prog 95 #[.agg #[.bool n1,.slice A xs.length c],.agg #[.bool n2,.slice B ys.length d]] w (jY w (dq n1 n2 (val av xs) (val av ys)) (dr n1 n2 (val av xs) (val av ys)) 0):=by
 obtain ⟨hs,_,hl,_⟩:=ym hg;obtain ⟨ht,hm,hl',_⟩:=ym hk;exact AB A B c d xs ys w (fun w' hx' hy'=>Gw A B c d xs ys w' hx' hy' hs ht om om (Nat.pos_of_ne_zero (ziz qk hm om))) n1 n2 hx hy hg hk h0
end
theorem aM.room {w:World} {base:Nat} {A:Option Addr} {c:Nat} {xs:List Nat} (h:aM w base A c xs):xs.length≤c:=by
 rcases h.1.2 with ⟨hv,h0⟩ | ⟨g,cap,cur,hv,_,_,hle,_⟩
 · omega
 · injection hv;omega
set_option maxRecDepth 100000 in
set_option maxHeartbeats 1000000 in
theorem SX (A:Option Addr) (c:Nat) (ds:List Nat) (w:World) (hx:aH w A ds) (hs:small 10 ds) (hc:ds.length≤c) (hl:ds.length≤9223372036854775807) :
 Calls prog 106 #[.slice A ds.length c] w fun e w'=>e= .returned (.slice A (aS 10 (val 10 ds)).length c)∧aS 10 (val 10 ds)=ds.take (aS 10 (val 10 ds)).length∧(aS 10 (val 10 ds)).length≤ds.length∧w'=w:=by
 go_enter func106,ntmps106
 go_wp2
 go_loop [3] (fun v=>∃k:Nat,k≤ds.length∧v= .int .i64 k∧ ∀j,k≤j→nth ds j=0) (fun v=>(intOf v).toNat)
 case atStart=>exact ⟨ds.length,Nat.le_refl _,rfl,fun j hj=>kl ds j hj⟩
 case round=>
  obtain ⟨k,hk,rfl,hz⟩:=hrel;have HZ:=Lib.hid hz;clear hz;have hend:(k=0∨nth ds (k-1)≠0)→ds.take k=aS 10 (val 10 ds):=fun h=>
   Ab de hs hk (fun j hj _=>by have:=HZ.out j om;unfold nth at this;omega) (fun h0=>by
    rcases h with h | h
    · omega
    · unfold nth at h;omega)
  have hlen:(ds.take k).length=k:=by rw[List.length_take];omega
  by_cases hk0:k=0
  · have he:=hend (Or.inl hk0);subst hk0;have HE:=Lib.hid he;clear hend he;go_wp2
    go_ret
    refine ⟨?_,?_,?_,rfl⟩
    · rw[←HE.out];rfl
    · rw[←HE.out];rfl
    · rw[←HE.out];simp
  · obtain ⟨m,rfl⟩:∃m,k=m+1:=⟨k-1,om⟩;obtain ⟨b,o,rfl,hb,hcell'⟩:=hx.2 om;have hcell:=hcell' m om;have hm1:(m:Int)<(ds.length:Int):=om;have hmc:m+1≤c:=om;clear hcell';by_cases hl0:nth ds m=0
    · have hb0:(nth ds m==0)=true:=beq_iff_eq.2 hl0;have H0:=Lib.hid hl0;clear hl0 hend;go_wp2
      go_round
      case rel=>exact ⟨m,om,by go_num,fun j hj=>by
       by_cases e:j=m
       · rw[e];exact H0.out
       · exact HZ.out j om⟩
      case measure=>simp[intOf]
    · have hb0:(nth ds m==0)=false:=beq_eq_false_iff_ne.2 hl0;have he:=hend (Or.inr (by rw[Nat.add_sub_cancel];exact hl0));have HE:=Lib.hid he;have HL:=Lib.hid hlen;clear hend he hl0 hlen;go_wp2
      go_ret
      refine ⟨?_,?_,?_,rfl⟩
      · rw[←HE.out,HL.out];rfl
      · rw[←HE.out,HL.out]
      · rw[←HE.out,HL.out];exact hk
def Zh (W:World) (i:Int) (e:Ending) (w':World):Prop:=
 ∃A c,e= .returned (.agg #[.bool (decide (i<0)),.slice A (ah i).length c])∧aM w' W.heap.size A c (ah i)∧Below W.heap.size W w'
theorem oa (w:World) (x:Int) (a:Nat) (hx:x=(a:Int)) :
 ∀j u,([a].map fun x:Nat=>Value.int .u8 (x:Int))[j]? =some u→(w.alloc (.cells #[.int .u8 x] 5)).cell? ((⟨w.heap.size,0,none⟩:Addr).add j)=some u:=by
 subst hx;intro j u hj;match j,hj with
 | 0,hj=>simp at hj;subst hj;simp[Addr.add]
theorem JZ (u:Int) (h:0≤u) (h9:u<256):IntKind.u8.wrap u=u:=by
 exact jP
theorem AZ {u:Int} (h:0<u):aS 10 u.toNat=(u%10).toNat::aS 10 (u/10).toNat:=by
 rw[kg de (by omega:u.toNat≠0)];have e1:(u%10).toNat=u.toNat%10:=om;have e2:(u/10).toNat=u.toNat/10:=om;rw[e1,e2]
theorem A9 (n:Int) (h0:-9223372036854775808≤n) (hn:n<0):IntKind.u64.wrap (-IntKind.u64.wrap n)=(n.natAbs:Int):=by
 exact jP
theorem Bb (n:Int) (h1:n≤9223372036854775807) (hn:0≤n):IntKind.u64.wrap n=(n.natAbs:Int):=by
 exact jP
set_option maxHeartbeats 1000000 in
theorem qwz (n:Int) (w:World) (h0:-9223372036854775808≤n) (h1:n≤9223372036854775807) :
 Calls prog 22 #[.int .i64 n] w (Zh w n):=by
 have ab0:n.natAbs≤9223372036854775808:=om;by_cases hn:n<0
 all_goals
  first | have hw:=A9 n h0 hn | have hw:=Bb n h1 om
  obtain ⟨m,hm⟩:∃m,m=n.natAbs:=⟨_,rfl⟩;rw[←hm] at hw ab0;have HM:=Lib.hid hm;clear hm;go_enter func22,ntmps22
  go_wp2_with fail
  go_loopw [3,4] (fun uv dv wr=>∃(u:Int) (A':Option Addr) (c':Nat) (zs:List Nat),uv= .int .u64 u∧0≤u∧u≤9223372036854775808∧dv= .slice A' zs.length c'∧aM wr (w.heap.size+1) A' c' zs∧zs.length+u.toNat≤17592186044416+9223372036854775808∧small 10 zs∧
   Hid (zs++aS 10 u.toNat=aS 10 m)∧Below (w.heap.size+1) (w.alloc (.cells #[.bool false,.slice none 0 0] 48)) wr) (fun uv _ _=>(intOf uv).toNat)
  case atStart=>exact ⟨(m:Int),none,0,[],rfl,om,om,rfl,aM.nil _ _,by simp;omega,ke,rfl,Below.refl _ _⟩
  case round=>
   obtain ⟨u,A',c',zs,rfl,hu0,hu1,rfl,hown,hzl,hzs,HZ,hbel⟩:=hrel;have hlen:zs.length≤20:=by
    have h1:(aS 10 m).length≤20:=(zz de m 20).2 (Nat.lt_of_le_of_lt ab0 de);have h2:=HZ.out;rw[←h2,List.length_append] at h1;omega
   have R1:=(aB.new w 48 #[.bool false,.slice none 0 0]).below hbel om;have hsz:=hbel.size;simp only[World.size_alloc] at hsz
   by_cases hu:0<u
   · have hd:=AZ hu;have hw8:=JZ (u%10) om om;have e1:u%10=(((u%10).toNat:Nat):Int):=om;have HC:=Lib.hid (oa wr _ _ e1);have H8:Hid (∀x∈ [(u%10).toNat],x<256):=by intro x hx';simp only[List.mem_cons,List.not_mem_nil,or_false] at hx';omega
     have HN:Hid (zs.length+ [(u%10).toNat].length≤17592186044416):=by show zs.length+1≤_;omega
     have HD:=Lib.hid hd;clear e1 hd hzl;go_wp2_with (at_builtin;go_loud (refine kw rfl (.tmp 13) (.tmp 17) rfl (w.heap.size+1) A' c' zs rfl (hown.alloc _) [(u%10).toNat] ⟨wr.heap.size,0,none⟩ 1 1 rfl rfl (by exact HC.out) H8.out HN.out (by simp;omega) (fun A2 c2 w2 hown2 hg2=>?_)))
     go_roundw
     case rel=>exact ⟨u/10,A2,c2,zs++ [(u%10).toNat],by go_num,om,om,by simp,hown2,by simp;omega,
      yoq.2 ⟨hzs,by intro y hy;simp only[List.mem_cons,List.not_mem_nil,or_false] at hy;omega⟩,by show _=_;rw[List.append_assoc,List.singleton_append,←HD.out];exact HZ.out,Below.oW (hbel.alloc (by simpa using hsz) _) (hown.alloc _) (by simp;omega) hg2⟩
     case measure=>simp[intOf];omega
   · obtain rfl:u=0:=om;have hz:zs=ah n:=by
      have:=HZ.out;rw[show (0:Int).toNat=0 from rfl,ymq,List.append_nil] at this;rw[this,qa,HM.out]
     obtain ⟨r0,r1,r2,r3⟩:=R1.two;subst hz;clear hzl HZ;go_wp2_with fail
     refine bodyPost_ret (v:=.agg #[.bool (decide (n<0)),.slice A' (ah n).length c']) (by simp[results,Tryz.results22,go_sem,r0,r1,hn]) rfl ?_;exact ⟨A',c',rfl,((hown.aI (by show w.heap.size<w.heap.size+1;omega) _).aI (by show w.heap.size<w.heap.size+1;omega) _).mono om,
      (((Below.refl _ _).alloc (Nat.le_refl _) _).trans (hbel.mono om)).setCell (Nat.le_refl _) _ |>.setCell (Nat.le_refl _) _⟩
theorem MS (base:Nat) (A:Option Addr) (c:Nat) (ds:List Nat) (i:Int) (w:World) (hown:aM w base A c ds) (hs:small 10 ds) (hv:val 10 ds=i.natAbs) (hl:ds.length≤9223372036854775807) :
 Calls prog 106 #[.slice A ds.length c] w fun e w'=>e= .returned (.slice A (ah i).length c)∧aM w base A c (ah i)∧w=w':=by
 refine (SX A c ds w hown.nums hs hown.room hl).mono fun e w' h=>?_;obtain ⟨rfl,h2,h3,rfl⟩:=h;rw[hv,←qa] at h2 h3 ⊢;refine ⟨rfl,?_,rfl⟩;by_cases h0:ds= []
 · subst h0;have:ah i= []:=List.eq_nil_of_length_eq_zero (by simpa using h3);rw[this];exact hown
 · rw[h2];exact hown.cut h0 h3
theorem znv (base:Nat) (A:Option Addr) (c:Nat) (ds:List Nat) (i:Int) (w:World) (hown:aM w base A c ds) (hs:small 10 ds) (hv:val 10 ds=i.natAbs) (hl:ds.length≤1048576) :
 Calls prog 106 #[.slice A ds.length c] w fun e w'=>e= .returned (.slice A (ah i).length c)∧aM w base A c (ah i)∧w=w':=MS base A c ds i w hown hs hv om
theorem ab1 {xs:List Nat} (h:small av xs) {k j:Nat} (hj:j<18) {l:Int} (hl:l=((xs.getD k 0/10^j:Nat):Int)) :
 pad (18*k+j) (val av xs)++ [(l%10).toNat]=pad (18*k+(j+1)) (val av xs)∧l/10=((xs.getD k 0/10^(j+1):Nat):Int):=by
 have h1:=Gd h k j hj;have h2:=qaz (18*k+j) (val av xs);rw[←h1] at h2;have h3:xs.getD k 0/10^(j+1)=xs.getD k 0/10^j/10:=by rw[Nat.pow_succ,Nat.div_div_eq_div_mul]
 subst hl;refine ⟨?_,by rw[h3];omega⟩;rw[show 18*k+(j+1)=18*k+j+1 from om,h2];congr 2
theorem MU (xs:List Nat) (k:Nat):nth xs k=((xs.getD k 0/10^0:Nat):Int):=by unfold nth;simp
set_option maxHeartbeats 1000000 in
theorem J2 (n1:Bool) (A:Option Addr) (c:Nat) (xs:List Nat) (w:World) (hx:aA w A xs) (hg:zm n1 xs=true) :
 Calls prog 85 #[.agg #[.bool n1,.slice A xs.length c]] w (Zh w (num n1 xs)):=by
 obtain ⟨hs,hn,hl,_⟩:=ym hg;have HS:=Lib.hid hs;have HN:=Lib.hid (vux hg);have HA:=Lib.hid (xy n1 xs);clear hs hn hg;generalize num n1 xs=i at *
 go_enter func85,ntmps85
 go_wp2_with fail
 go_loopw [3,4,5,6] (fun dv iv _ _ wr=>∃(k:Nat) (A':Option Addr) (c':Nat) (zs:List Nat),k≤xs.length∧iv= .int .i64 k∧dv= .slice A' zs.length c'∧zs.length≤18*k∧aM wr (w.heap.size+2) A' c' zs∧
  Hid (zs=pad (18*k) (val av xs))∧Below (w.heap.size+2) ((w.alloc (.cells #[.bool n1,.slice A xs.length c] 24)).alloc (.cells #[.bool false,.slice none 0 0] 48)) wr) (fun _ iv _ _ _=>xs.length-(intOf iv).toNat)
 case atStart=>exact ⟨0,none,0,[],Nat.zero_le _,rfl,rfl,by simp,aM.nil _ _,rfl,Below.refl _ _⟩
 case round=>
  obtain ⟨k,A',c',zs,hk,rfl,rfl,hzl,hown,HZ,hbel⟩:=hrel;have R0:=(aB.first w 24 #[.bool n1,.slice A xs.length c] (.cells #[.bool false,.slice none 0 0] 48)).below hbel om;have R1:=(aB.new1 w (.cells #[.bool n1,.slice A xs.length c] 24) 48 #[.bool false,.slice none 0 0]).below hbel om;have Qf:aA wr A xs:=hx.below (w:=w) (B:=w.heap.size) ((((Below.refl _ _).alloc (Nat.le_refl _) _).alloc (by simp) _).trans (hbel.mono om)) (Nat.le_refl _);obtain ⟨r0,r1,r2,r3⟩:=R0.two;have hsz:=hbel.size;simp only[World.size_alloc] at hsz
  by_cases hkn:k<xs.length
  · obtain ⟨b,o,rfl,hb,hc⟩:=Qf.2 om;have hcell:=hc k hkn;have hm1:(k:Int)<(xs.length:Int):=om;have hm0:(0:Int)≤(k:Int):=om;have hnn:=zu xs k;have hnl:=qr (by unfold av;omega) HS.out k;rw[F7] at hnl;have HL0:=Lib.hid (MU xs k);clear hc;go_wp2_with fail
    obtain ⟨wo,rfl⟩:∃wo:World,wo=wr:=⟨_,rfl⟩;go_loopw [3,5,6] (fun dv lv jv wi=>∃(j:Nat) (l:Int) (A':Option Addr) (c':Nat) (zs:List Nat),j≤18∧jv= .int .i64 j∧lv= .int .u64 l∧0≤l∧l<1000000000000000000∧dv= .slice A' zs.length c'∧zs.length≤18*k+j∧aM wi (w.heap.size+2) A' c' zs∧
     Hid (l=((xs.getD k 0/10^j:Nat):Int))∧Hid (zs=pad (18*k+j) (val av xs))∧Below (w.heap.size+2) ((w.alloc (.cells #[.bool n1,.slice (some ⟨b,o,none⟩) xs.length c] 24)).alloc (.cells #[.bool false,.slice none 0 0] 48)) wi) (fun _ _ jv _=>18-(intOf jv).toNat)
    case atStart=>exact ⟨0,nth xs k,A',c',zs,om,rfl,rfl,hnn,om,rfl,om,hown,HL0,HZ,hbel⟩
    case round=>
     obtain ⟨j,l,A2,c2,ys,hj,rfl,rfl,hl0,hl1,rfl,hyl,hown2,HL,HY,dN⟩:=hrel;have hsz2:=dN.size;simp only[World.size_alloc] at hsz2
     by_cases aXj:j<18
     · have hstep:=ab1 HS.out aXj HL.out;have hw8:=JZ (l%10) om om;have e1:l%10=(((l%10).toNat:Nat):Int):=om;have HC:=Lib.hid (oa wr _ _ e1);have H8:Hid (∀x∈ [(l%10).toNat],x<256):=by intro x hx';simp only[List.mem_cons,List.not_mem_nil,or_false] at hx';omega
       have HN:Hid (ys.length+ [(l%10).toNat].length≤17592186044416):=by show ys.length+1≤_;omega
       have HST:=Lib.hid hstep;have bd2:(j:Int)<18:=om;clear e1 hstep;go_wp2_with (at_builtin;go_loud (refine kw rfl (.tmp 23) (.tmp 27) rfl (w.heap.size+2) A2 c2 ys rfl (hown2.alloc _) [(l%10).toNat] ⟨wr.heap.size,0,none⟩ 1 1 rfl rfl (by exact HC.out) H8.out HN.out (by simp;omega) (fun A3 c3 w3 hown3 hg3=>?_)))
       go_roundw
       case rel=>exact ⟨j+1,l/10,A3,c3,ys++ [(l%10).toNat],om,by go_num,by go_num,om,om,by simp,by simp;omega,hown3,HST.out.2,by show _=_;rw[HY.out];exact HST.out.1,Below.oW (dN.alloc (by simpa using hsz2) _) (hown2.alloc _) (by simp;omega) hg3⟩
       case measure=>simp[intOf];omega
     · obtain rfl:j=18:=om;have HY2:Hid (ys=pad (18*(k+1)) (val av xs)):=HY;clear HY;go_wp2_with fail
       go_roundw
       case rel=>exact ⟨k+1,A2,c2,ys,om,by go_num,rfl,om,hown2,HY2,dN⟩
       case measure=>simp[intOf];omega
  · obtain rfl:k=xs.length:=om;have JY:val 10 zs=i.natAbs:=by
     rw[HZ.out,vtz,Nat.mod_eq_of_lt (Sl HS.out),HA.out]
    have apq:small 10 zs:=by rw[HZ.out];exact qgq _ _
    have HV:=Lib.hid JY;have H10:=Lib.hid apq;clear JY apq;obtain ⟨q0,q1,q2,q3⟩:=R1.two;go_wp2_with fail
    go_region_with (go_at_call 106;refine (znv (w.heap.size+2) _ _ _ i _ (by first | exact hown | exact hown.drew) H10.out HV.out om).mono ?_;rintro e w' ⟨rfl,hown3,rfl⟩)
    all_goals
     go_wp2_with fail
     refine bodyPost_ret (v:=.agg #[.bool n1,.slice A' (ah i).length c']) (by simp[results,Tryz.results85,go_sem,q0,q1]) rfl ?_;exact ⟨A',c',by rw[HN.out],((hown3.aI (by show w.heap.size+1<w.heap.size+2;omega) _).aI (by show w.heap.size+1<w.heap.size+2;omega) _).mono om,
      ((((((Below.refl _ _).alloc (Nat.le_refl _) _).alloc (by simp) _).trans (hbel.mono om)).drew).setCell (by show w.heap.size≤w.heap.size+1;omega) _).setCell (by show w.heap.size≤w.heap.size+1;omega) _⟩
theorem apz {P:Prop} (h:P:=by
 exact ⟨A',c',by rw[←HB.out],(((hown.aI (by show w.heap.size+2<w.heap.size+3;omega) _).aI (by show w.heap.size+1<w.heap.size+3;omega) _).aI (by show w.heap.size+1<w.heap.size+3;omega) _).mono om,
  ((((((Below.refl _ _).alloc (Nat.le_refl _) _).alloc (by simp) _).trans (hbel.mono om)).setCell (by show w.heap.size≤w.heap.size+2;omega) _).setCell (by show w.heap.size≤w.heap.size+1;omega) _).setCell (by show w.heap.size≤w.heap.size+1;omega) _⟩):P:=h
theorem ab2 (n:Int) (m j:Nat) (hj:j<18) {l:Int} (hl:l=((n.natAbs/av^m%av/10^(j+1):Nat):Int)) :
 l*10+nth (ah n) (18*m+j)=((n.natAbs/av^m%av/10^j:Nat):Int)∧0≤l∧l<100000000000000000:=by
 have h1:=Ms (n.natAbs/av^m) j hj;have h2:nth (ah n) (18*m+j)=((n.natAbs/av^m/10^j%10:Nat):Int):=by rw[ztz,qP]
 have h3:n.natAbs/av^m%av/10^(j+1)<100000000000000000:=by
  have h4:n.natAbs/av^m%av<av:=Nat.mod_lt _ (by unfold av;omega);have h5:n.natAbs/av^m%av/10^(j+1)≤n.natAbs/av^m%av/10:=by
   rw[Nat.pow_succ,Nat.mul_comm,←Nat.div_div_eq_div_mul];exact Nat.div_le_self _ _
  unfold av at h4 h5 ⊢;omega
 subst hl;rw[h2];refine ⟨?_,om,om⟩;rw[h1];omega
theorem aB.app {w w3:World} {g:Nat} {t:TypeId} {cs:Array Value} {base:Nat} {A:Option Addr} {c:Nat} {xs:List Nat} (h:aB w g t cs) (hown:Own w base A c xs) (hg:w.grownBy w3 (Value.slice A xs.length c).ownBlock) (ht:25≠t):aB w3 g t cs:=
 h.grown hg (fun e=>qpx hown.1 h ht e.symm)
theorem ay5:(25:TypeId)≠24:=de
theorem ay6 (n:Int) (m:Nat):(0:Int)=((n.natAbs/av^m%av/10^18:Nat):Int):=by
 have h4:n.natAbs/av^m%av<10^18:=Nat.mod_lt _ (by unfold av;omega);rw[Nat.div_eq_of_lt h4];rfl
theorem ab3 (n:Int) (m:Nat) (h:¬(ah n).length≤18*m) {zs:List Nat} (hz:zs++aS av (n.natAbs/av^m)=limbs n) {l:Int} (hl:l=((n.natAbs/av^m%av/10^0:Nat):Int)) :
 (zs++ [l.toNat])++aS av (n.natAbs/av^(m+1))=limbs n∧l.toNat<1000000000000000000:=by
 rw[Mr qk _ _ (fun e=>h ((JV n m).2 e))] at hz;subst hl;refine ⟨?_,?_⟩
 · rw[List.append_assoc,←hz,Nat.pow_zero,Nat.div_one,Int.toNat_natCast,List.singleton_append]
 · have h4:n.natAbs/av^m%av<av:=Nat.mod_lt _ (by unfold av;omega);unfold av at h4 ⊢;simp only[Nat.pow_zero,Nat.div_one]
   omega
theorem ay7 (n:Int) (m:Nat) (h:(ah n).length≤18*m) {zs:List Nat} (hz:zs++aS av (n.natAbs/av^m)=limbs n):zs=limbs n:=by
 rw[(JV n m).1 h,ymq,List.append_nil] at hz;exact hz
theorem SY {n:Int} (h:n<0):0<(ah n).length:=by
 rw[qa];exact RL de om
set_option maxHeartbeats 1000000 in
theorem J3 (A:Option Addr) (c:Nat) (n:Int) (w:World) (hx:aH w A (ah n)) (hl:(ah n).length≤1048576) :
 Calls prog 57 #[.agg #[.bool (decide (n<0)),.slice A (ah n).length c]] w (jO w n):=by
 obtain ⟨bn,hbn⟩:∃bn,bn=decide (n<0):=⟨_,rfl⟩;rw[←hbn];have HB:=Lib.hid hbn;have hpos:bn=true→0<(ah n).length:=fun e=>SY (by rw[e] at hbn;simpa using hbn.symm);have HP:=Lib.hid hpos;clear hbn hpos;have hsm:=jx n;have HS:=Lib.hid hsm;clear hsm;go_enter func57,ntmps57
 go_wp2_with fail
 go_loopw [4,5,6] (fun iv _ _ wr=>∃(I:Int) (m:Nat) (A':Option Addr) (c':Nat) (zs:List Nat),iv= .int .i64 I∧0≤I∧I≤2000000∧zs.length≤m∧Hid (I=18*(m:Int))∧aB wr (w.heap.size+2) 24 #[.bool false,.slice A' zs.length c']∧Own wr (w.heap.size+3) A' c' zs∧
  Hid (zs++aS av (n.natAbs/av^m)=limbs n)∧Below (w.heap.size+2) ((w.alloc (.cells #[.bool bn,.slice A (ah n).length c] 48)).alloc (.cells #[.bool false,.slice none 0 0] 24)) wr) (fun iv _ _ _=>2000000-(intOf iv).toNat)
 case atStart=>exact ⟨0,0,none,0,[],rfl,om,om,by simp,by show _=_;rfl,aB.newAt (by simp),Own.nil _ _,by show _=_;rw[qo];simp,(Below.refl _ _).alloc (by simp) _⟩
 case round=>
  obtain ⟨I,m,A',c',zs,rfl,hI0,hI1,hzm,HI,RX,hown,HZ,hbel⟩:=hrel;have R0:=(aB.first w 48 #[.bool bn,.slice A (ah n).length c] (.cells #[.bool false,.slice none 0 0] 24)).below hbel om;have R1:=(aB.new1 w (.cells #[.bool bn,.slice A (ah n).length c] 48) 24 #[.bool false,.slice none 0 0]).below hbel om;have Qf:aH wr A (ah n):=hx.below (w:=w) (B:=w.heap.size) ((((Below.refl _ _).alloc (Nat.le_refl _) _).alloc (by simp) _).trans (hbel.mono om)) (Nat.le_refl _);obtain ⟨r0,r1,r2,r3⟩:=R0.two;obtain ⟨q0,q1,q2,q3⟩:=R1.two;obtain ⟨x0,x1,x2,x3⟩:=RX.two;have hsz:=RX.lt;by_cases hkn:I<((ah n).length:Int)
  · have HN1:Hid (¬(ah n).length≤18*m):=by have:=HI.out;show ¬_;omega
    obtain ⟨b,o,rfl,hb,hc⟩:=Qf.2 om;have HC:=Lib.hid hc;clear hc;go_wp2_with fail
    go_loop [5,6] (fun lv kv=>∃(j:Nat) (l K:Int),lv= .int .u64 l∧kv= .int .i64 K∧j≤18∧Hid (K=I+(j:Int)-1)∧Hid (l=((n.natAbs/av^m%av/10^j:Nat):Int))∧0≤l∧l<1000000000000000000∧I-1≤K∧K≤I+17) (fun _ kv=>(intOf kv+1).toNat)
    case atStart=>exact ⟨18,0,I+17,rfl,rfl,om,by show _=_;omega,ay6 n m,om,om,om,om⟩
    case round=>
     obtain ⟨j,l,K,rfl,rfl,hj,HK,HL,hl0,hl1,hK0,hK1⟩:=hrel;by_cases hj0:j=0
     · subst hj0;have hKI:K<I:=by have:=HK.out;omega
       have apx:=ab3 n m HN1.out HZ.out HL.out;have HPL:=Lib.hid apx;have e1:l=(l.toNat:Int):=om;have hC1:=vmv wr _ _ e1;have H64:Hid (∀x∈ [l.toNat],x<18446744073709551616):=by intro x hx';simp only[List.mem_cons,List.not_mem_nil,or_false] at hx';omega
       have HN:Hid (zs.length+ [l.toNat].length≤17592186044416):=by have:=HI.out;show zs.length+1≤_;omega
       have HC1:=Lib.hid hC1;have hmI:Hid (I+18=18*((m+1:Nat):Int)):=by have:=HI.out;show _=_;omega
       have hIl:I<1048576:=om;have HB0:Hid (w.heap.size+3≤(wr.alloc (.cells #[.int .u64 l] 25)).heap.size):=by show _≤_;simp;omega
       clear e1 hC1 apx hl;go_wp2_with (at_builtin;(refine ynv rfl (.tmp 37) (.tmp 39) rfl (w.heap.size+3) A' c' zs rfl (hown.alloc _) [l.toNat] ⟨wr.heap.size,0,none⟩ 1 1 rfl rfl (by exact HC1.out) H64.out HN.out HB0.out (fun A3 c3 w3 hown3 hg3=>?_));(have RX3:=(RX.alloc _).app (hown.alloc _) hg3 ay5);obtain ⟨y0,y1,y2,y3⟩:=RX3.two)
       go_roundw
       case rel=>exact ⟨I+18,m+1,A3,c3,zs++ [l.toNat],rfl,om,om,by simp;omega,hmI,by simpa using RX3.uj 1 (.slice A3 (zs++ [l.toNat]).length c3),hown3.aI (by show w.heap.size+2<w.heap.size+3;omega) _,HPL.out.1,
        (Below.own (hbel.alloc om _) ((hown.alloc _).mono om) (by simp;omega) hg3).setCell (by show w.heap.size+2≤w.heap.size+2;omega) _⟩
       case measure=>simp[intOf];omega
     · obtain ⟨j,rfl⟩:∃j',j=j'+1:=⟨j-1,om⟩;have hKI:I≤K:=by have:=HK.out;omega
       obtain ⟨hs1,_,hs3⟩:=ab2 n m j om HL.out;have hKj:K.toNat=18*m+j:=by have:=HK.out;have:=HI.out;omega
       have aO4:K-1=I+(j:Int)-1:=by have:=HK.out;omega
       rw[←hKj] at hs1;have hnn:=zu (ah n) K.toNat;have aY0:=qr om HS.out K.toNat;have hKp:0≤K:=om;have bfz:IntKind.u64.wrap (l*10)=l*10:=by simp[IntKind.wrap,IntKind.signed,IntKind.bits];omega
       have HS1:=Lib.hid hs1;have aO5:=Lib.hid aO4;clear hKj hs1 aO4;by_cases hKl:K<((ah n).length:Int)
       · have hcell:=HC.out K.toNat om;go_wp2
         go_round
         case rel=>exact ⟨j,_,K-1,rfl,rfl,om,aO5,HS1,om,om,om,om⟩
         case measure=>simp[intOf];omega
       · have hz0:nth (ah n) K.toNat=0:=kl _ _ om;have HS2:Hid (l*10=((n.natAbs/av^m%av/10^j:Nat):Int)):=by have:=HS1.out;rw[hz0] at this;show _=_;omega
         clear hz0;go_wp2
         go_round
         case rel=>exact ⟨j,_,K-1,rfl,rfl,om,aO5,HS2,om,om,om,om⟩
         case measure=>simp[intOf];omega
  · have hze:=ay7 n m (by have:=HI.out;omega) HZ.out;subst hze;clear HZ;cases bn
    · go_wp2_with fail
      refine bodyPost_ret (v:=.agg #[.bool false,.slice A' (limbs n).length c']) (by simp[results,Tryz.results57,go_sem,q0,q1]) rfl ?_;exact apz
    · have hp0:0<(ah n).length:=HP.out rfl;go_wp2_with fail
      refine bodyPost_ret (v:=.agg #[.bool true,.slice A' (limbs n).length c']) (by simp[results,Tryz.results57,go_sem,q0,q1]) rfl ?_;exact apz
theorem Ta {P:Prop} (h:P:=by
 unfold Zi;have:(xs==ys)=false:=beq_eq_false_iff_ne.2 fun e=>h (by rw[e]);rw[this,Bool.and_false]):P:=h
def Zi (n1:Bool) (xs:List Nat) (n2:Bool) (ys:List Nat):Bool:=(n1==n2)&&(xs==ys)
theorem j4 {xs ys:List Nat} (hl:xs.length=ys.length) (h:∀j,j<xs.length→nth xs j=nth ys j):xs=ys:=by
 apply List.ext_getElem hl
 intro j h1 h2;have:=(yqv xs ys j j).1 (h j h1);simpa [List.getD,List.getElem?_eq_getElem h1,List.getElem?_eq_getElem h2] using this
theorem MV {n1 n2:Bool} {xs ys:List Nat} (h:n1≠n2):Zi n1 xs n2 ys=false:=by unfold Zi;simp[h]
theorem MW {n1 n2:Bool} {xs ys:List Nat} (h:xs.length≠ys.length):Zi n1 xs n2 ys=false:=by
 exact Ta
theorem Bd {n1 n2:Bool} {xs ys:List Nat} {k:Nat} (h:nth xs k≠nth ys k):Zi n1 xs n2 ys=false:=by
 exact Ta
theorem MX {n:Bool} {xs ys:List Nat} (hl:xs.length=ys.length) (h:∀j,j<xs.length→nth xs j=nth ys j):Zi n xs n ys=true:=by
 rw[j4 hl h];unfold Zi;simp
section
variable (A B:Option Addr) (c d:Nat) (xs ys:List Nat) (w:World)
set_option maxHeartbeats 1000000 in
theorem qX (n1 n2:Bool) (hx:aA w A xs) (hy:aA w B ys) (hl:xs.length≤1048576) (hl':ys.length≤1048576) :
 Calls prog 46 #[.agg #[.bool n1,.slice A xs.length c],.agg #[.bool n2,.slice B ys.length d]] w fun e w'=>e= .returned (.bool (Zi n1 xs n2 ys))∧Below w.heap.size w w':=by
 have L0:Below w.heap.size w ((w.alloc (.cells #[.bool n1,.slice A xs.length c] 24)).alloc (.cells #[.bool n2,.slice B ys.length d] 24)):=((Below.refl _ _).alloc (Nat.le_refl _) _).alloc (by simp) _;by_cases hn:n1=n2
 · subst hn;by_cases hlen:xs.length=ys.length
   · have hne:((xs.length:Int) !=(ys.length:Int))=false:=by simp[hlen]
     have hnn:(n1 !=n1)=false:=by simp
     have HL:=Lib.hid hlen;clear hlen;go_enter func46,ntmps46
     go_wp2
     go_loopw [5] (fun v wr=>∃k:Nat,k≤xs.length∧v= .int .i64 k∧(∀j,j<k→nth xs j=nth ys j)∧ ∃n,wr=((w.alloc (.cells #[.bool n1,.slice A xs.length c] 24)).alloc (.cells #[.bool n1,.slice B ys.length d] 24)).drewN n) (fun v _=>xs.length-(intOf v).toNat)
     case atStart=>exact ⟨0,Nat.zero_le _,rfl,fun j hj=>absurd hj om,0,rfl⟩
     case round=>
      obtain ⟨k,hk,rfl,hz,n,rfl⟩:=hrel;have HZ:=Lib.hid hz;clear hz;rcases Nat.lt_or_ge k xs.length with hk' | hk'
      · obtain ⟨b,o,rfl,hb,hc⟩:=hx.2 om;obtain ⟨b',o',rfl,hb',hc'⟩:=hy.2 (by rw[←HL.out];omega);have hcell:=hc k om;have hcell':=hc' k (by rw[←HL.out];omega);have hm1:(k:Int)<(xs.length:Int):=om;have hm2:(k:Int)<(ys.length:Int):=by have:=HL.out;omega
        have hm0:(0:Int)≤(k:Int):=om;clear hc hc';by_cases h:nth xs k=nth ys k
        · have hne':(nth xs k !=nth ys k)=false:=by simp[h]
          have H:=Lib.hid h;clear h;go_wp2
          go_quiet (fail)
          go_wp2
          go_roundw
          case rel=>exact ⟨k+1,om,by go_num,fun j hj=>by
           by_cases e:j=k
           · rw[e];exact H.out
           · exact HZ.out j om,_,by first | rfl | (simp only[World.drewN_drewN];rfl)⟩
          case measure=>simp[intOf];omega
        · have hne':(nth xs k !=nth ys k)=true:=by simpa using h
          have H:=Lib.hid h;clear h;go_wp2
          go_quiet (fail)
          go_wp2
          go_ret
          exact ⟨zsv (Bd H.out).symm,by first | exact L0.drewN _ | exact ⟨L0.os,L0.tape,L0.output,L0.size,L0.block⟩⟩
      · obtain rfl:k=xs.length:=om;go_wp2
        go_ret
        exact ⟨zsv (MX HL.out HZ.out).symm,by exact ⟨L0.os,L0.tape,L0.output,L0.size,L0.block⟩⟩
   · have hne:((xs.length:Int) !=(ys.length:Int))=true:=by simp;omega
     have hnn:(n1 !=n1)=false:=by simp
     have H:=Lib.hid hlen;clear hlen;go_enter func46,ntmps46
     go_wp2
     go_ret
     exact ⟨zsv (MW H.out).symm,L0⟩
 · have hnn:(n1 !=n2)=true:=by simpa using hn
   have H:=Lib.hid hn;clear hn;go_enter func46,ntmps46
   go_wp2
   go_ret
   exact ⟨zsv (MV H.out).symm,L0⟩
end
theorem jw {a b w':World} (h:Below a.heap.size a b) (k:Below b.heap.size b w'):Below a.heap.size a w':=h.trans (k.mono h.size)
theorem vdx {a w':World} (k:Below a.drew.heap.size a.drew w'):Below a.heap.size a w':=⟨k.os,k.tape,k.output,k.size,k.block⟩
theorem aA.since {a b:World} {A:Option Addr} {xs:List Nat} (h:aA a A xs) (k:Below a.heap.size a b):aA b A xs:=h.below k (Nat.le_refl _)
theorem aH.since {a b:World} {A:Option Addr} {xs:List Nat} (h:aH a A xs) (k:Below a.heap.size a b):aH b A xs:=h.below k (Nat.le_refl _)
@[irreducible] def bE (ok:Bool) (s:Int):Int:=if ok then (if s.natAbs<av^30 then s else 0) else 0
@[irreducible] def bg (ok:Bool) (s:Int):Int:=if ok then (if s.natAbs<av^30 then 0 else 7) else 3
theorem xa {s:Int} (h:s.natAbs<av^30):bE true s=s:=by unfold bE;rw[if_pos rfl,if_pos h]
theorem xh {s:Int} (h:s.natAbs<av^30):bg true s=0:=by unfold bg;rw[if_pos rfl,if_pos h]
theorem qav {s:Int} (h:av^30≤s.natAbs):bE true s=0:=by unfold bE;rw[if_pos rfl,if_neg om]
theorem ykq {s:Int} (h:av^30≤s.natAbs):bg true s=7:=by unfold bg;rw[if_pos rfl,if_neg om]
theorem j5 (s:Int):bE false s=0:=by unfold bE;rfl
theorem j6 (s:Int):bg false s=3:=by unfold bg;rfl
section
variable (A B:Option Addr) (c d:Nat) (xs ys:List Nat) (w:World)
theorem vP (n1 n2:Bool) (hx:aA w A xs) (hy:aA w B ys) (hl:xs.length≤9223372036854775807) (hl':ys.length≤9223372036854775807) :
 Calls prog 119 #[.agg #[.bool n1,.slice A xs.length c],.agg #[.bool n2,.slice B ys.length d]] w
  (ya w (bE (zm n1 xs&&zm n2 ys) (num n1 xs+num n2 ys)) (bg (zm n1 xs&&zm n2 ys) (num n1 xs+num n2 ys))):=by
 cases h:(zm n1 xs&&zm n2 ys)
 · rw[j5,j6];exact Sn A B c d xs ys w n1 n2 hx hy hl hl' h
 · obtain ⟨hg,hk⟩:=Bool.and_eq_true_iff.1 h;rcases Nat.lt_or_ge (num n1 xs+num n2 ys).natAbs (av^30) with hf | hf
   · rw[xa hf,xh hf];exact ax5 A B c d xs ys w n1 n2 hx hy hg hk hf
   · rw[qav hf,ykq hf];exact Mx A B c d xs ys w n1 n2 hx hy hg hk hf
set_option maxHeartbeats 1000000 in
theorem ab4 (n1 n2:Bool) (hy:aA w B ys) (hl':ys.length≤9223372036854775807) (hk:zm n2 ys=false) :
 Calls prog 120 #[.agg #[.bool n1,.slice A xs.length c],.agg #[.bool n2,.slice B ys.length d]] w (ya w 0 3):=by
 go_enter func120,ntmps120
 go_wp2_with fail
 refine (yf n2 d _ B ys hl' (((hy.alloc _).alloc _).alloc _)).mono ?_;rintro e w1 ⟨rfl,hb1⟩;have R1:=(aB.new ((w.alloc (.cells #[.bool n1,.slice A xs.length c] 24)).alloc (.cells #[.bool n2,.slice B ys.length d] 24)) 24 #[.bool false,.slice none 0 0]).below hb1 (by simp);have L1:Below w.heap.size w w1:=((((Below.refl _ _).alloc (Nat.le_refl _) _).alloc (by simp) _).alloc (by simp;omega) _).trans (hb1.mono (by simp;omega));simp only[World.size_alloc] at R1
 clear hb1;obtain ⟨r0,r1,r2,r3⟩:=R1.two;go_wp2_with fail
 refine bodyPost_ret (v:=.tuple #[.agg #[.bool false,.slice none 0 0],.int .i64 3]) (by simp[results,Tryz.results120,go_sem,r0,r1]) rfl ?_;exact vav L1 om _ _
set_option maxHeartbeats 1000000 in
theorem       Tc (n1 n2 : Bool) (hx :   aA w A xs) (hy :   aA w B ys) (hl : xs.length ≤ 9223372036854775807) (hk :    zm n2 ys = true) :
 Calls prog 120 #[.agg #[.bool n1, .slice A xs.length c], .agg #[.bool n2, .slice B ys.length d]] w
  (       ya w (  bE (   zm n1 xs) (num n1 xs - num n2 ys)) (  bg (   zm n1 xs) (num n1 xs - num n2 ys))) := by
 obtain ⟨_, _, hl', _⟩ :=         ym hk;have hv :=     vK hk;have hgl :=         vh (i := - num n2 ys) (by rw [Int.natAbs_neg]; exact hv);have hnl :=        jr (- num n2 ys);obtain ⟨y', hy'⟩ : ∃ y', y' = - num n2 ys := ⟨_, rfl⟩;rw [← hy'] at hgl hnl;have hll := (        ym hgl).2.2.1;have HV : Hid (  bE (   zm n1 xs &&    zm (decide (y' < 0)) (limbs y')) (num n1 xs + num (decide (y' < 0)) (limbs y')) =   bE (   zm n1 xs) (num n1 xs - num n2 ys)) := by
  show _ = _; rw [hgl, hnl, Bool.and_true, hy', Int.sub_eq_add_neg]
 have HE : Hid (  bg (   zm n1 xs &&    zm (decide (y' < 0)) (limbs y')) (num n1 xs + num (decide (y' < 0)) (limbs y')) =   bg (   zm n1 xs) (num n1 xs - num n2 ys)) := by
  show _ = _; rw [hgl, hnl, Bool.and_true, hy', Int.sub_eq_add_neg]
 have HY := Lib.hid hy';clear hv hgl hnl hy';go_enter func120, ntmps120
 go_wp2_with fail
 refine (      yf n2 d _ B ys om (((hy.alloc _).alloc _).alloc _)).mono ?_;rintro e w1 ⟨rfl, hb1⟩;have X1 := ((( aB.new w 24 #[.bool n1, .slice A xs.length c]).alloc (.cells #[.bool n2, .slice B ys.length d] 24)).alloc (.cells #[.bool false, .slice none 0 0] 24)).below hb1 (by simp; omega);have Y1 := (( aB.new (w.alloc (.cells #[.bool n1, .slice A xs.length c] 24)) 24 #[.bool n2, .slice B ys.length d]).alloc (.cells #[.bool false, .slice none 0 0] 24)).below hb1 (by simp);have R1 := ( aB.new ((w.alloc (.cells #[.bool n1, .slice A xs.length c] 24)).alloc (.cells #[.bool n2, .slice B ys.length d] 24)) 24 #[.bool false, .slice none 0 0]).below hb1 (by simp);have L1 : Below w.heap.size w w1 := ((((Below.refl _ _).alloc (Nat.le_refl _) _).alloc (by simp) _).alloc (by simp; omega) _).trans (hb1.mono (by simp; omega));simp only [World.size_alloc] at X1 Y1 R1
 clear hb1;have hx1 := hx.below L1 (Nat.le_refl _); have hy1 := hy.below L1 (Nat.le_refl _);obtain ⟨x0, x1, x2, x3⟩ := X1.two;obtain ⟨y0, y1, y2, y3⟩ := Y1.two;have hz : w.heap.size + 1 + 1 < w1.heap.size := R1.lt;go_wp2_with fail
 go_region_held3 (fun w' => w'.cell? ⟨w.heap.size, 0, none⟩ = some (.bool n1) ∧ w'.cell? ⟨w.heap.size, 1, none⟩ = some (.slice A xs.length c) ∧ w'.cell? ⟨w.heap.size + 1, 0, none⟩ = some (.bool n2) ∧ w'.cell? ⟨w.heap.size + 1, 1, none⟩ = some (.slice B ys.length d))
  (first | (with_reducible exact ⟨x0, x1, y0, y1⟩) | (with_reducible exact ⟨u0, u1, v0, v1⟩) | (with_reducible exact ⟨p0, p1, q0, q1⟩) | (go_simp; done))
  (first
   | (go_at_call 48; refine (      Sk B d ys _ n2 (by repeat (first | with_reducible exact hy1 | with_reducible apply   aA.drew)) hk).mono ?_; rintro e w2 ⟨A2, c2, rfl, hown2, hb2⟩; rw [← HY.out] at hown2 ⊢; have X2 :=  aB.below (w := _) (by repeat (first | with_reducible exact X1 | with_reducible apply  aB.drew)) hb2 X1.lt; have Y2 :=  aB.below (w := _) (by repeat (first | with_reducible exact Y1 | with_reducible apply  aB.drew)) hb2 Y1.lt; have R2 :=  aB.below (w := _) (by repeat (first | with_reducible exact R1 | with_reducible apply  aB.drew)) hb2 R1.lt; have hx2 :=   aA.below (w := _) (by repeat (first | with_reducible exact hx1 | with_reducible apply   aA.drew)) hb2 (Nat.le_refl _); have L2 := Below.trans (b := _) (by repeat (first | with_reducible exact L1 | with_reducible apply Below.drew)) (hb2.mono L1.size); have hn2 := hown2.nums; obtain ⟨u0, u1, u2, u3⟩ := X2.two; obtain ⟨v0, v1, v2, v3⟩ := Y2.two)
   | (go_at_call 119; refine (     vP A A2 c c2 xs (limbs y') _ n1 (decide (y' < 0)) (by repeat (first | with_reducible exact hx2 | with_reducible apply   aA.drew)) (by repeat (first | with_reducible exact hn2 | with_reducible apply   aA.drew)) hl om).mono ?_; rintro e w3 ⟨A3, c3, rfl, hown3, hb3⟩; rw [HV.out] at hown3 ⊢; rw [HE.out]; have X3 :=  aB.below (w := _) (by repeat (first | with_reducible exact X2 | with_reducible apply  aB.drew)) hb3 X2.lt; have Y3 :=  aB.below (w := _) (by repeat (first | with_reducible exact Y2 | with_reducible apply  aB.drew)) hb3 Y2.lt; have R3 :=  aB.below (w := _) (by repeat (first | with_reducible exact R2 | with_reducible apply  aB.drew)) hb3 R2.lt; have L3 := Below.trans (b := _) (by repeat (first | with_reducible exact L2 | with_reducible apply Below.drew)) (hb3.mono L2.size); have hrz := R2.lt; obtain ⟨p0, p1, p2, p3⟩ := X3.two; obtain ⟨q0, q1, q2, q3⟩ := Y3.two; obtain ⟨r0, r1, r2, r3⟩ := R3.two))
 all_goals
  go_wp2_with fail
  refine bodyPost_ret (v := .tuple #[.agg #[.bool (decide (  bE (   zm n1 xs) (num n1 xs - num n2 ys) < 0)), .slice A3 (limbs (  bE (   zm n1 xs) (num n1 xs - num n2 ys))).length c3], .int .i64 (  bg (   zm n1 xs) (num n1 xs - num n2 ys))]) (by simp [results, Tryz.results120, go_sem, r0, r1]) rfl ?_;exact     qjz hown3 L3 om hrz _ _
theorem ab5 (n1 n2:Bool) (hx:aA w A xs) (hy:aA w B ys) (hl:xs.length≤9223372036854775807) (hl':ys.length≤9223372036854775807) :
 Calls prog 120 #[.agg #[.bool n1,.slice A xs.length c],.agg #[.bool n2,.slice B ys.length d]] w
  (ya w (bE (zm n1 xs&&zm n2 ys) (num n1 xs-num n2 ys)) (bg (zm n1 xs&&zm n2 ys) (num n1 xs-num n2 ys))):=by
 cases hk:zm n2 ys
 · rw[Bool.and_false,j5,j6];exact ab4 A B c d xs ys w n1 n2 hy hl' hk
 · rw[Bool.and_true];exact Tc A B c d xs ys w n1 n2 hx hy hl hk
end
end Go.Proofs.YtmnmebdmpigddaaGreatDoor

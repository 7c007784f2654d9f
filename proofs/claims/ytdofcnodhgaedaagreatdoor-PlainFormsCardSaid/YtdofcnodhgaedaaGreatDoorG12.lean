/- Texts of this claim. -/
import Derived.Test.YtdofcnodhgaedaaGreatDoorG11
import Derived.Test.YtdofcnodhgaedaaGreatDoorRows
import Derived.WalkSpells
import Derived.WalkLawsBesides
import Derived.BigQuiet
import Derived.Deep.QuietTactic
import Derived.Deep.RegionHeld3
import Derived.Deep.DeepCutAuto
import Derived.Lib.Hide
import Derived.Laws.CopyOwn
set_option maxRecDepth 100000
namespace Go.Proofs.YtdofcnodhgaedaaGreatDoor
open Go.RowKit Proofs.Tryz
theorem Ms {P:Prop} (h:P:=by
 have h1:=hown.ge q rfl;simp only[Value.ownBlock,Option.some.injEq] at hk
 omega):P:=h
theorem Cu {P:Prop} (h:P:=by
 exact ⟨some ⟨g,0,none⟩,cap,rfl,h,h64⟩):P:=h
theorem Mt {P:Prop} (h:P:=by
 have e:v=(v.toNat:Int):=om;have h1:=h.set i v.toNat hi;rw[←e] at h1;exact h1):P:=h
theorem Mv {P:Prop} (h:P:=by
 subst hk;have e:v=(v.toNat:Int):=om;have h1:=h.snoc v.toNat hn;rw[←e] at h1;exact h1):P:=h
theorem Mw {P:Prop} (h:P:=by
 refine ⟨⟨h.1.1,?_⟩,h.2⟩;rcases h.1.2 with h2 | ⟨g,cap,cur,hv,hg,r⟩
 · exact .inl h2
 · exact .inr ⟨g,cap,cur,hv,om,r⟩):P:=h
theorem Mx {P:Prop} (h:P:=by
 have hne:∀q,A=some q→q.block≠g:=fun q hq e=>by
  subst hq;exact yfk h.1 hb ht (by simp[Value.ownBlock,e])
 exact (h.setCell hne u).setCell hne v):P:=h
theorem MC {P:Prop} (h:P:=by
 unfold nth;by_cases hk:k<xs.length
 · have:=h _ (List.getElem_mem hk);simp only[List.getD,List.getElem?_eq_getElem hk,Option.getD_some];omega
 · rw[zmx xs k om];simp):P:=h
theorem ME {P:Prop} (h:P:=by
 by_cases h1:i<ys.length
 · simp[List.getElem?_append_left h1]
 · simp[List.getElem?_append_right (show ys.length≤i from om),List.getElem?_eq_none (show ys.length≤i from om),List.getElem?_replicate]
   split<;>rfl):P:=h
theorem MG {P:Prop} (h:P:=by
 refine ⟨⟨h.1.1,?_⟩,h.2⟩;rcases h.1.2 with h2 | ⟨g,cap,cur,hv,hg,hh,r⟩
 · exact .inl h2
 · refine .inr ⟨g,cap,cur,hv,hg,?_,r⟩;rw[Below.heap_setCell _ _ _ _ (by injection hv with e1;exact hp _ e1)];exact hh):P:=h
theorem MH {P:Prop} (h:P:=by
 rcases h.1.2 with ⟨_,hn⟩ | ⟨g,cap,cur,hv,hg,hh,hnc,_,hsz,hcur⟩
 · omega
 · injection hv with hA _ hc
   subst hA;refine ⟨g,0,rfl,(Array.getElem?_eq_some_iff.1 hh).1,fun k hk=>?_⟩;rw[Nat.zero_add,cell_of_row w g k cur _ (0,0) hh];have e:cur[k]? =cur.toList[k]? :=by simp
   have e2:cur.toList[k]? =(cur.toList.take (xs.length*1))[k]? :=by rw[List.getElem?_take,if_pos om]
   rw[e,e2,hcur];simp[nth,hk]):P:=h
theorem MJ {P:Prop} (h:P:=by
 refine ⟨⟨by simp,?_⟩,fun x hx=>h.2 x (List.mem_of_mem_take hx)⟩;rcases h.1.2 with ⟨_,h0⟩ | ⟨g,cap,cur,hv,hg,hh,hle,hcap,hsz,hcur⟩
 · exact absurd (List.eq_nil_of_length_eq_zero h0) hc
 · injection hv with hA hn hcc
   subst hA;subst hcc;have hkl:(xs.take k).length=k:=by rw[List.length_take];omega
   refine .inr ⟨g,c,cur,rfl,hg,hh,om,hcap,hsz,?_⟩;rw[hkl,List.map_take,←hcur,List.take_take,Nat.mul_one,Nat.mul_one,Nat.min_eq_left hk]):P:=h
def lenOf:Value→Nat | .slice _ n _=>n | _=>0
theorem VK {a b:Bool} (h:a=b):Ending.returned (.bool a)= .returned (.bool b):=by rw[h]
theorem YQ {a b:Int} (h:a=b):Ending.returned (.int .i64 a)= .returned (.int .i64 b):=by rw[h]
theorem qj {b:Nat} (hb:0<b) {xs:List Nat} (h:zi b xs) (k:Nat):nth xs k<b:=by
 unfold nth;have:=zov hb h k;omega
theorem xa (xs:List Nat) (k:Nat) (h:xs.length≤k):nth xs k=0:=by
 unfold nth;rw[zmx xs k h];rfl
theorem zlk (xs:List Nat) (k:Nat):(nth xs k).toNat=xs.getD k 0:=by unfold nth;omega
theorem kU (ys:List Nat) (v:Nat) (j:Nat):nth (ys++ [v]) j=if j=ys.length then (v:Int) else nth ys j:=by
 unfold nth;by_cases h:j=ys.length
 · subst h;simp
 · rw[if_neg h];by_cases h1:j<ys.length
   · simp[List.getElem?_append_left h1]
   · simp[List.getElem?_append_right (show ys.length≤j from om),List.getElem?_eq_none (show ys.length≤j from om)]
     rw[List.getElem?_eq_none];rfl;simp;omega
theorem ylv (ys:List Nat) (i v:Nat) (h:i<ys.length) (j:Nat):nth (ys.set i v) j=if j=i then (v:Int) else nth ys j:=by
 unfold nth;by_cases hj:j=i
 · subst hj;simp[h]
 · rw[if_neg hj];simp[show ¬i=j from fun e=>hj e.symm]
theorem xL (ys:List Nat) (k j:Nat) (h:j<k):nth (ys.take k) j=nth ys j:=by
 unfold nth;simp[h]
theorem nk (n j:Nat):nth (List.replicate n 0) j=0:=by
 unfold nth;by_cases h:j<n<;>simp[h]
theorem yaq (j:Nat):nth [] j=0:=by unfold nth;simp
def VL (ys:List Nat) (j:Nat):Value:=.int .u64 (nth ys j)
def Row (w:World) (g n:Nat) (ys:List Nat):Prop:=w.rowIs g 25 n (VL ys)∧ys.length≤n
section
variable {w w':World} {g n:Nat} {ys:List Nat}
theorem Row.cell (h:Row w g n ys) {j:Nat} (hj:j<n):w.cell? ⟨g,j,none⟩=some (.int .u64 (nth ys j)):=h.1.cell hj
theorem Row.frozen (h:Row w g n ys) (j:Nat):w.frozen? ⟨g,j,none⟩=false:=h.1.frozen j
theorem Row.lt (h:Row w g n ys):g<w.heap.size:=h.1.lt
theorem Row.made (w:World) (n:Nat):Row (w.alloc (.cells (madeCells #[.int .u64 0] n) 25)) w.heap.size n []:=
 ⟨(World.rowIs_made w _ n _).congr fun i _=>by unfold VL;rw[yaq],Nat.zero_le _⟩
theorem Row.snoc (h:Row w g n ys) (v:Nat) (hn:ys.length<n):Row (w.setCell ⟨g,ys.length,none⟩ (.int .u64 (v:Int))) g n (ys++ [v]):=
 ⟨(h.1.set ys.length _).congr fun i _=>by unfold VL;rw[kU];split<;>rfl,by simp;omega⟩
theorem Row.bE (h:Row w g n ys) (v:Int) (h0:0≤v) {k:Nat} (hk:ys.length=k) (hn:k<n):Row (w.setCell ⟨g,k,none⟩ (.int .u64 v)) g n (ys++ [v.toNat]):=by
 exact Mv
theorem Row.set (h:Row w g n ys) (i v:Nat) (hi:i<ys.length):Row (w.setCell ⟨g,i,none⟩ (.int .u64 (v:Int))) g n (ys.set i v):=
 ⟨(h.1.set i _).congr fun j _=>by unfold VL;rw[ylv _ _ _ hi];split<;>rfl,by simpa using h.2⟩
theorem Row.setInt (h:Row w g n ys) (v:Int) (h0:0≤v) {i:Nat} (hi:i<ys.length):Row (w.setCell ⟨g,i,none⟩ (.int .u64 v)) g n (ys.set i v.toNat):=by
 exact Mt
theorem Row.of_block (h:Row w g n ys) (e:w'.heap[g]? =w.heap[g]?):Row w' g n ys:=⟨h.1.of_block e,h.2⟩
theorem Row.alloc (h:Row w g n ys) (o:Obj):Row (w.alloc o) g n ys:=⟨h.1.alloc o,h.2⟩
theorem Row.drew (h:Row w g n ys):Row w.drew g n ys:=h
theorem Row.drewN (h:Row w g n ys) (k:Nat):Row (w.drewN k) g n ys:=h
theorem Row.setOther (h:Row w g n ys) {a:Addr} (ha:g≠a.block) (v:Value):Row (w.setCell a v) g n ys:=⟨h.1.setOther ha v,h.2⟩
theorem Row.below {B:Nat} (h:Row w g n ys) (hb:Below B w w') (hg:g<B):Row w' g n ys:=h.of_block (hb.block g hg)
theorem Row.fill (h:Row w g n ys):Row w g n (ys++List.replicate (n-ys.length) 0):=by
 refine ⟨h.1.congr fun i hi=>?_,by have:=h.2;simp;omega⟩;unfold VL nth;exact ME
end
def Own (w:World) (base:Nat) (A:Option Addr) (c:Nat) (xs:List Nat):Prop:=
 w.ownsRow base 25 1 (.slice A xs.length c) xs.length (xs.map fun x:Nat=>Value.int .u64 (x:Int))∧ ∀x∈xs,x<18446744073709551616
section
variable {w w':World} {base:Nat} {A:Option Addr} {c:Nat} {xs:List Nat}
theorem xj (h:∀x∈xs,x<18446744073709551616) (k:Nat):nth xs k<18446744073709551616:=by
 exact MC
theorem Own.nums (h:Own w base A c xs):ay w A xs:=by
 refine ⟨xj h.2,fun h0=>?_⟩;exact MH
theorem Own.nil (w:World) (base:Nat):Own w base none 0 []:=⟨World.ownsRow_nil _ _ _ _,fun _ h=>by cases h⟩
theorem Own.Cv {g n:Nat} {ys:List Nat} (h:Row w g n ys) (hb:base≤g) (hc:n≤maxLen) (hx:xs.length≤n) (he:∀j,j<xs.length→nth ys j=nth xs j) (h64:∀x∈xs,x<18446744073709551616):Own w base (some ⟨g,0,none⟩) n xs:=by
 obtain ⟨⟨cur,hh,hsz,hcell⟩,hle⟩:=h;refine ⟨⟨by simp,.inr ⟨g,n,cur,rfl,hb,hh,hx,hc,om,?_⟩⟩,h64⟩;apply List.ext_getElem?
 intro j;rw[List.getElem?_take];by_cases hj:j<xs.length
 · rw[if_pos om];have h1:=hcell j om;rw[Array.getElem?_toList,h1];unfold VL;rw[he j hj];simp[nth,hj]
 · rw[if_neg om,List.getElem?_eq_none (by simpa using Nat.le_of_not_lt hj)]
theorem Own.kept {row:Option Nat} (h:Own w base A c xs) (hg:w.grownBy w' row) (hne:(Value.slice A xs.length c).ownBlock=none∨(Value.slice A xs.length c).ownBlock≠row):Own w' base A c xs:=⟨h.1.kept hg hne,h.2⟩
theorem Own.below {B:Nat} (h:Own w base A c xs) (hb:Below B w w') (hB:w.heap.size≤B):Own w' base A c xs:=
 h.kept (row:=none) ⟨hb.os,hb.tape,hb.output,hb.size,fun k hk _=>hb.block k om⟩ (by cases (Value.slice A xs.length c).ownBlock<;>simp)
theorem Own.alloc (h:Own w base A c xs) (o:Obj):Own (w.alloc o) base A c xs:=⟨h.1.alloc o,h.2⟩
theorem Own.drew (h:Own w base A c xs):Own w.drew base A c xs:=h
theorem Own.drewN (h:Own w base A c xs) (k:Nat):Own (w.drewN k) base A c xs:=h
theorem Own.mono {b':Nat} (h:Own w base A c xs) (hb:b'≤base):Own w b' A c xs:=by
 exact Mw
theorem Own.setCell (h:Own w base A c xs) {p:Addr} (hp:∀q,A=some q→q.block≠p.block) (u:Value):Own (w.setCell p u) base A c xs:=by
 exact MG
theorem Own.aG (h:Own w base A c xs) {p:Addr} (hp:p.block<base) (u:Value):Own (w.setCell p u) base A c xs:=
 ⟨ownsRow_setCell_below h.1 hp u,h.2⟩
theorem Own.set2 (h:Own w base A c xs) {g:Nat} {t:TypeId} {x y:Value} (hb:aA w g t #[x,y]) (ht:25≠t) (u v:Value):Own ((w.setCell ⟨g,0,none⟩ u).setCell ⟨g,1,none⟩ v) base A c xs:=by
 exact Mx
theorem Own.ge (h:Own w base A c xs):∀q,A=some q→base≤q.block∧q.block<w.heap.size:=by
 intro q hq;subst hq;exact h.1.lt q.block rfl
theorem ay.keep (h:ay w A xs) (hs:w.heap.size≤w'.heap.size) (hk:∀p:Addr,p.block<w.heap.size→w'.cell? p=w.cell? p):ay w' A xs:=
 ⟨h.1,fun h0=>by
  obtain ⟨b,o,rfl,hb,hc⟩:=h.2 h0;exact ⟨b,o,rfl,om,fun k hk'=>(hk _ hb).trans (hc k hk')⟩⟩
theorem ay.alloc (h:ay w A xs) (o:Obj):ay (w.alloc o) A xs:=h.keep (by simp) fun p hp=>World.cell?_alloc_lt w o p hp
theorem ay.drew (h:ay w A xs):ay w.drew A xs:=h
theorem ay.drewN (h:ay w A xs) (k:Nat):ay (w.drewN k) A xs:=h
theorem ay.below {B:Nat} (h:ay w A xs) (hb:Below B w w') (hB:w.heap.size≤B):ay w' A xs:=h.keep hb.size fun _ hp=>hb.cell om
theorem ay.setCell (h:ay w A xs) {p:Addr} (hp:∀q,A=some q→q.block≠p.block) (u:Value):ay (w.setCell p u) A xs:=
 ⟨h.1,fun h0=>by
  obtain ⟨b,o,rfl,hb,hc⟩:=h.2 h0;refine ⟨b,o,rfl,by simpa [World.setCell] using hb,fun k hk'=>?_⟩;rw[World.cell?_setCell_other _ _ _ _ (fun e=>hp _ rfl (by rw[e]))];exact hc k hk'⟩
end
theorem Fq {W w1:World} (hb:Below W.heap.size W w1):(∀b o,b<W.heap.size→w1.cell? ⟨b,o,none⟩=W.cell? ⟨b,o,none⟩)∧(∀b o,b<W.heap.size→w1.frozen? ⟨b,o,none⟩=W.frozen? ⟨b,o,none⟩):=
 ⟨fun b o h=>hb.cell (p:=⟨b,o,none⟩) h,fun b o h=>hb.frozen (p:=⟨b,o,none⟩) h⟩
theorem aA.two {w:World} {g:Nat} {t:TypeId} {u v:Value} (h:aA w g t #[u,v]) :
 w.cell? ⟨g,0,none⟩=some u∧w.cell? ⟨g,1,none⟩=some v∧w.frozen? ⟨g,0,none⟩=false∧w.frozen? ⟨g,1,none⟩=false:=
 ⟨h.cell 0,h.cell 1,h.frozen 0,h.frozen 1⟩
theorem aA.first (w:World) (t:TypeId) (cs:Array Value) (o:Obj):aA ((w.alloc (.cells cs t)).alloc o) w.heap.size t cs:=(aA.new w t cs).alloc o
theorem aA.new1 (w:World) (o:Obj) (t:TypeId) (cs:Array Value):aA ((w.alloc o).alloc (.cells cs t)) (w.heap.size+1) t cs:=by
 have h:=aA.new (w.alloc o) t cs;rwa [World.size_alloc] at h
theorem aA.newAt {w:World} {g:Nat} {t:TypeId} {cs:Array Value} (h:g=w.heap.size):aA (w.alloc (.cells cs t)) g t cs:=by subst h;exact aA.new w t cs
theorem aA.set2 {w:World} {g:Nat} {t:TypeId} {x y:Value} (h:aA w g t #[x,y]) (u v:Value):aA ((w.setCell ⟨g,0,none⟩ u).setCell ⟨g,1,none⟩ v) g t #[u,v]:=(h.pO 0 u).pO 1 v
theorem Hz {w:World} (g n dCap c:Nat) (A:Option Addr) (xs:List Nat) (hrow:Row w g n []) (hx:ay w A xs) :
 ∃w',(Builtin.copy_ #[22,22] 3 #[.slice (some ⟨g,0,none⟩) n dCap,.slice A xs.length c]).run prog w= .ok (goInt (xs.take n).length) w'∧
  Row w' g n (xs.take n)∧w.grownBy w' (some g)∧w'.heap.size=w.heap.size:=by
 have hsz:(prog.info? 25).map (·.size)=some 1:=kr;by_cases h0:(xs.take n).length=0
 · have hrun:=run_copy_none (P:=prog) w 22 22 3 25 (some ⟨g,0,none⟩) A n dCap xs.length c u22 hsz (by rw[List.length_take] at h0;rw[Nat.min_comm] at h0;exact h0);have hk:xs.take n= []:=List.eq_nil_of_length_eq_zero h0;exact ⟨w,by rw[hrun,h0];rfl,by rw[hk];exact hrow,World.grownBy.refl w _,rfl⟩
 · have hl:(xs.take n).length=min n xs.length:=List.length_take;obtain ⟨b,off,rfl,hb,hc⟩:=hx.2 om;obtain ⟨cur,hg,hsz2,hcur⟩:=hrow.1;have hrun:=run_copy_row (P:=prog) w 22 22 3 25 g 0 n dCap ⟨b,off,none⟩ xs.length c cur _ ((xs.take n).map fun x:Nat=>Value.int .u64 (x:Int)) u22 hsz hg
    (by rw[List.length_map,hl,Nat.min_comm]) (fun j v hj=>?_) (by rw[List.length_map,hl,hsz2];omega) (fun v hv=>?_)
   · refine ⟨_,hrun.trans (by rw[List.length_map]),⟨⟨_,setRow_heap w g _ _ _ _ hg,?_,fun i hi=>?_⟩,by rw[hl];omega⟩,⟨rfl,rfl,rfl,by simp[World.setRow],fun k hk hne=>setRow_other w g k _ (fun e=>hne (by rw[e]))⟩,by simp[World.setRow]⟩
     · simp[hsz2];omega
     · simp only[List.take_zero,List.nil_append,Nat.zero_add,List.getElem?_toArray]
       by_cases hik:i<(xs.take n).length
       · rw[List.getElem?_append_left (by simpa using hik),List.getElem?_map,List.getElem?_eq_getElem hik];unfold VL nth;rw[List.getD,List.getElem?_eq_getElem hik];rfl
       · rw[List.getElem?_append_right (by simpa using hik),List.getElem?_drop];rw[List.length_map];have e2:(xs.take n).length+(i-(xs.take n).length)=i:=om;rw[e2,Array.getElem?_toList,hcur i hi];unfold VL;rw[yaq,xa _ _ om]
   · rw[List.getElem?_map,List.getElem?_take] at hj;split at hj
     · by_cases hjx:j<xs.length
       · rw[List.getElem?_eq_getElem hjx] at hj;simp only[Option.map_some,Option.some.injEq] at hj
         rw[←hj];have h2:=hc j hjx;rw[show (⟨b,off,none⟩:Addr).add j= ⟨b,off+j,none⟩ from by unfold Addr.add;split<;>simp_all,h2];simp[nth,hjx]
       · rw[List.getElem?_eq_none om] at hj;simp at hj
     · simp at hj
   · rw[List.mem_map] at hv;obtain ⟨x,_,rfl⟩:=hv;rfl
theorem xM:∃i,prog.info? 25=some i∧i.zero=some (.int .u64 0)∧i.size=1∧i.bytes=8:=by
 obtain ⟨i,hi,h⟩:=Option.map_eq_some_iff.1 (show (prog.info? 25).map (fun i=>(i.zero,i.size,i.bytes))=some (some (.int .u64 0),1,8) from kr);simp only[Prod.mk.injEq] at h
 exact ⟨i,hi,h.1,h.2.1,h.2.2⟩
theorem Own.iq {w:World} {base n:Nat} {v:Value} {xs:List Nat} (h:w.ownsRow base 25 1 v n (xs.map fun x:Nat=>Value.int .u64 (x:Int))) (h64:∀x∈xs,x<18446744073709551616) :
 ∃A c,v= .slice A xs.length c∧Own w base A c xs:=by
 have hn:xs.length=n:=by simpa using h.1
 subst hn;rcases h.2 with ⟨rfl,hz⟩ | ⟨g,cap,cur,rfl,r⟩
 · exact ⟨none,0,by rw[hz],by rw[List.eq_nil_of_length_eq_zero hz];exact Own.nil _ _⟩
 · exact Cu
theorem zoz {w:World} {ops:Array Oper} {rest:List Oper} {o:Oper} {a:Act} {Q:Exit→Act→World→Prop} (hgd:o.guard=none) (s x:Operand)
 (ho:o.op= .call { callee:=.builtin .append,args:=#[s,x],argTypes:=#[22,22] }) (base:Nat) (A:Option Addr) (c:Nat) (xs:List Nat) (hs:a.eval s= .slice A xs.length c)
 (hown:Own w base A c xs) (ys:List Nat) (ad:Addr) (m cc:Nat) (hx:a.eval x= .slice (some ad) m cc) (hm:ys.length=m)
 (hnews:∀j u,(ys.map fun x:Nat=>Value.int .u64 (x:Int))[j]? =some u→w.cell? (ad.add j)=some u) (h64:∀x∈ys,x<18446744073709551616) (hl:xs.length+ys.length≤17592186044416) (hbase:base≤w.heap.size)
 (h:∀A' c' w',Own w' base A' c' (xs++ys)→w.grownBy w' (Value.slice A xs.length c).ownBlock→wpList prog ops Q rest (a.put o.dst (.slice A' (xs++ys).length c')) w'):wpList prog ops Q (o::rest) a w:=by
 obtain ⟨i,hi,hz,hsz,hby⟩:=xM;subst hm;refine wpList_append_own w hgd s x _ ho base 25 i _ 1 8 u22 hi hz hsz hby rfl de _ _ _ hs hown.1 ad ys.length cc (ys.map fun x:Nat=>Value.int .u64 (x:Int)) hx (by simp) hnews
  (fun u hu=>by rw[List.mem_map] at hu;obtain ⟨y,_,rfl⟩:=hu;rfl) (by unfold maxLen;omega) om hbase ?_
 intro v' w' hown' hg' _;rw[←List.map_append] at hown';obtain ⟨A',c',hv,ho'⟩:=Own.iq hown' (fun y hy=>by
  rcases List.mem_append.1 hy with h1 | h1
  · exact hown.2 y h1
  · exact h64 y h1)
 rw[hv];exact h A' c' w' ho' hg'
theorem Below.own {w0 w w':World} {base:Nat} {A:Option Addr} {c:Nat} {xs:List Nat} (hb:Below base w0 w) (hown:Own w base A c xs) (hbase:base≤w.heap.size) (hg:w.grownBy w' (Value.slice A xs.length c).ownBlock):Below base w0 w':=
 hb.grown hg hbase (fun k hk=>by
  match A,hown,hk with
  | some q,hown,hk=>
   exact Ms
  | none,_,hk=>simp[Value.ownBlock] at hk)
theorem Own.cut {w:World} {base:Nat} {A:Option Addr} {c:Nat} {xs:List Nat} (h:Own w base A c xs) (hc:xs≠ []) {k:Nat} (hk:k≤xs.length):Own w base A c (xs.take k):=by
 exact MJ
def au:Nat:=1000000000000000000
theorem yq:2≤au:=by unfold au;omega
theorem Cw:au=1000000000000000000:=rfl
@[irreducible] def limbs (i:Int):List Nat:=aI au i.natAbs
theorem yo (i:Int):limbs i=aI au i.natAbs:=by unfold limbs;rfl
theorem VN {xs:List Nat} (h:zi au xs):∀x∈xs,x<18446744073709551616:=fun x hx=>by have:=h x hx;unfold au at this;omega
theorem zbx (i:Int):zi au (limbs i):=by rw[yo];exact jo yq _
def bg (neg:Bool) (n:Nat):Int:=if neg then -(n:Int) else n
theorem vo (neg:Bool) (n:Nat):(bg neg n).natAbs=n:=by unfold bg;cases neg<;>simp
theorem r9 (neg:Bool) (n:Nat):decide (bg neg n<0)=(neg&&decide (n≠0)):=by
 cases neg
 · simp[bg]
 · simp only[bg,if_true,Bool.true_and];by_cases h:n=0<;>simp[h];omega
def sj (W:World) (i:Int) (e:Ending) (w':World):Prop:=
 ∃A c,e= .returned (.agg #[.bool (decide (i<0)),.slice A (limbs i).length c])∧Own w' W.heap.size A c (limbs i)∧Below W.heap.size W w'
def yb (W:World) (i:Int) (f:Int) (e:Ending) (w':World):Prop:=
 ∃A c,e= .returned (.tuple #[.agg #[.bool (decide (i<0)),.slice A (limbs i).length c],.int .i64 f])∧Own w' W.heap.size A c (limbs i)∧Below W.heap.size W w'
def Cx (W:World) (b len v:Nat) (e:Ending) (w':World):Prop:=
 ∃g zs,e= .returned (.slice (some ⟨g,0,none⟩) zs.length zs.length)∧Row w' g len zs∧zs.length=len∧zi b zs∧val b zs=v∧W.heap.size≤g∧Below W.heap.size W w'
theorem Row.nums {w':World} {g len:Nat} {zs:List Nat} (h:Row w' g len zs) (hz:zs.length=len) (h64:∀x∈zs,x<18446744073709551616):ay w' (some ⟨g,0,none⟩) zs:=
 ⟨xj h64,fun _=>⟨g,0,rfl,h.lt,fun k hk=>by rw[Nat.zero_add];exact h.cell om⟩⟩
theorem qn:limbs 0= []:=by rw[yo];rfl
theorem xO {W w':World} (hb:Below W.heap.size W w'):sj W 0 (.returned (.agg #[.bool false,.slice none 0 0])) w':=
 ⟨none,0,by rw[qn];rfl,by rw[qn];exact Own.nil _ _,hb⟩
theorem ymv {W w4:World} {i f:Int} {A4:Option Addr} {c4 base g0:Nat} (hown:Own w4 base A4 c4 (limbs i)) (L:Below W.heap.size W w4) (hg:W.heap.size≤g0) (hgb:g0<base) (u v:Value) :
 yb W i f (.returned (.tuple #[.agg #[.bool (decide (i<0)),.slice A4 (limbs i).length c4],.int .i64 f])) ((w4.setCell ⟨g0,0,none⟩ u).setCell ⟨g0,1,none⟩ v):=
 ⟨A4,c4,rfl,((hown.aG hgb _).aG hgb _).mono om,(L.setCell hg _).setCell hg _⟩
theorem kV {W w4:World} {f:Int} {g0:Nat} (L:Below W.heap.size W w4) (hg:W.heap.size≤g0) (u v:Value) :
 yb W 0 f (.returned (.tuple #[.agg #[.bool false,.slice none 0 0],.int .i64 f])) ((w4.setCell ⟨g0,0,none⟩ u).setCell ⟨g0,1,none⟩ v):=
 ⟨none,0,by rw[qn];rfl,by rw[qn];exact Own.nil _ _,(L.setCell hg _).setCell hg _⟩
theorem YR:(prog.info? 25).map (fun i=>(i.zero,i.size,i.bytes))=some (some (.int .u64 0),1,8):=kr
theorem VO (n:Nat) (h:n≤35184372088832):∀w:World,(Instr.makeSlice 22 (.int .i64 (n:Int)) (.int .i64 (n:Int))).run prog w= .ok (.slice (some ⟨w.heap.size,0,none⟩) n n) (w.alloc (.cells (madeCells #[.int .u64 0] n) 25)):=
 fun w=>run_make_row' _ _ _ 8 u22 YR rfl _ _ n om om w
def P5 (xs:List Nat):Bool:=(List.range xs.length).all fun k=>decide (nth xs k<1000000000000000000)
theorem xP {xs:List Nat} {k:Nat} (hk:k<xs.length) (h:1000000000000000000≤nth xs k):P5 xs=false:=by
 unfold P5;rw[List.all_eq_false];exact ⟨k,by simpa using hk,by simpa using h⟩
theorem yvz {xs:List Nat} (h:∀k,k<xs.length→nth xs k<1000000000000000000):P5 xs=true:=by
 unfold P5;rw[List.all_eq_true];intro k hk;simpa using h k (by simpa using hk)
def zm (neg:Bool) (xs:List Nat):Bool:=
 if xs.length=0 then !neg else if 30<xs.length then false else if nth xs (xs.length-1)=0 then false else P5 xs
section
variable (neg:Bool) (c:Nat) (w:World)
theorem MK (A:Option Addr) :
 Calls prog 29 #[.agg #[.bool neg,.slice A 0 c]] w fun e w'=>e= .returned (.bool !neg)∧Below w.heap.size w w':=by
 go_enter func29,ntmps29
 go_wp2
 go_ret
 exact ⟨rfl,(Below.refl _ _).alloc (Nat.le_refl _) _⟩
theorem H6 (A:Option Addr) (n:Nat) (hn:30<n) (hm:n≤9223372036854775807) :
 Calls prog 29 #[.agg #[.bool neg,.slice A n c]] w fun e w'=>e= .returned (.bool false)∧Below w.heap.size w w':=by
 go_enter func29,ntmps29
 go_wp2
 go_ret
 exact ⟨rfl,(Below.refl _ _).alloc (Nat.le_refl _) _⟩
theorem H7 (b o:Nat) (n:Nat) (h0:0<n) (hn:n≤30) (hb:b<w.heap.size) (hc:w.cell? ⟨b,o+(n-1),none⟩=some (.int .u64 0)) :
 Calls prog 29 #[.agg #[.bool neg,.slice (some ⟨b,o,none⟩) n c]] w fun e w'=>e= .returned (.bool false)∧Below w.heap.size w w':=by
 go_enter func29,ntmps29
 go_wp2
 go_ret
 exact ⟨rfl,(Below.refl _ _).alloc (Nat.le_refl _) _⟩
set_option maxHeartbeats 400000 in
theorem H9 (b o:Nat) (xs:List Nat) (h0:0<xs.length) (hn:xs.length≤30) (hb:b<w.heap.size)
 (hc:∀k,k<xs.length→w.cell? ⟨b,o+k,none⟩=some (.int .u64 (nth xs k))) (hl:nth xs (xs.length-1)≠0) :
 Calls prog 29 #[.agg #[.bool neg,.slice (some ⟨b,o,none⟩) xs.length c]] w fun e w'=>e= .returned (.bool (P5 xs))∧Below w.heap.size w w':=by
 have hc1:=hc (xs.length-1) om;have hl0:(nth xs (xs.length-1)==0)=false:=by simpa using hl
 have hl1:((xs.length:Int)==0)=false:=beq_eq_false_iff_ne.2 om;go_enter func29,ntmps29
 go_wp2
 go_loop [25] (fun i=>∃k:Nat,k≤xs.length∧i= .int .i64 k∧ ∀j,j<k→nth xs j<1000000000000000000) (fun i=>xs.length-(intOf i).toNat)
 case atStart=>exact ⟨0,Nat.zero_le _,rfl,fun j hj=>absurd hj om⟩
 case round=>
  obtain ⟨k,hk,rfl,hlt⟩:=hrel;have HL:=Lib.hid hlt;clear hlt;have hcell:k<xs.length→w.cell? ⟨b,o+k,none⟩=some (.int .u64 (nth xs k)):=hc k;clear hc hc1;go_wp2
  · go_ret
    exact ⟨VK (xP (by assumption) (by assumption)).symm,(Below.refl _ _).alloc (Nat.le_refl _) _⟩
  · have h1:k<xs.length:=by assumption
    have h2:nth xs k<1000000000000000000:=by assumption
    go_round
    case rel=>exact ⟨k+1,om,by go_num,fun j hj=>by
     by_cases hjk:j=k
     · rw[hjk];exact h2
     · exact HL.out j om⟩
    case measure=>simp[intOf];omega
  · have h1:¬k<xs.length:=by assumption
    go_ret
    exact ⟨VK (yvz fun j hj=>HL.out j om).symm,(Below.refl _ _).alloc (Nat.le_refl _) _⟩
theorem ye (A:Option Addr) (xs:List Nat) (hm:xs.length≤9223372036854775807) (hx:ay w A xs) :
 Calls prog 29 #[.agg #[.bool neg,.slice A xs.length c]] w fun e w'=>e= .returned (.bool (zm neg xs))∧Below w.heap.size w w':=by
 unfold zm;by_cases h0:xs.length=0
 · rw[if_pos h0,h0];exact MK neg c w A
 rw[if_neg h0];by_cases h1:30<xs.length
 · rw[if_pos h1];exact H6 neg c w A _ h1 hm
 rw[if_neg h1];obtain ⟨b,o,rfl,hb,hc⟩:=hx.2 om;by_cases h2:nth xs (xs.length-1)=0
 · rw[if_pos h2];exact H7 neg c w b o _ om om hb (by rw[hc _ om,h2])
 rw[if_neg h2];exact H9 neg c w b o xs om om hb hc h2
end
section
variable (neg:Bool) (c:Nat) (w:World)
theorem Ia (A:Option Addr) :
 Calls prog 30 #[.agg #[.bool neg,.slice A 0 c]] w fun e w'=>e= .returned (.bool !neg)∧Below w.heap.size w w':=by
 go_enter func30,ntmps30
 go_wp2
 go_ret
 exact ⟨rfl,(Below.refl _ _).alloc (Nat.le_refl _) _⟩
theorem Cy (A:Option Addr) (n:Nat) (hn:30<n) (hm:n≤9223372036854775807) :
 Calls prog 30 #[.agg #[.bool neg,.slice A n c]] w fun e w'=>e= .returned (.bool false)∧Below w.heap.size w w':=by
 go_enter func30,ntmps30
 go_wp2
 go_ret
 exact ⟨rfl,(Below.refl _ _).alloc (Nat.le_refl _) _⟩
set_option maxHeartbeats 400000 in
theorem Cz (b o:Nat) (xs:List Nat) (h0:0<xs.length) (hn:xs.length≤30) (hb:b<w.heap.size)
 (hc:∀k,k<xs.length→w.cell? ⟨b,o+k,none⟩=some (.int .u64 (nth xs k))) :
 Calls prog 30 #[.agg #[.bool neg,.slice (some ⟨b,o,none⟩) xs.length c]] w fun e w'=>e= .returned (.bool (if nth xs (xs.length-1)=0 then false else P5 xs))∧Below w.heap.size w w':=by
 have hc1:=hc (xs.length-1) om;have hl1:((xs.length:Int)==0)=false:=beq_eq_false_iff_ne.2 om;obtain ⟨last,hlast⟩:∃v,v=nth xs (xs.length-1):=⟨_,rfl⟩;rw[←hlast] at hc1;rw[show (if nth xs (xs.length-1)=0 then false else P5 xs)=(last !=0&&P5 xs) from by rw[←hlast];by_cases h:last=0<;>simp[h]];go_enter func30,ntmps30
 go_wp2
 go_loop [4] (fun i=>∃k:Nat,k≤xs.length∧i= .int .i64 k∧ ∀j,j<k→nth xs j<1000000000000000000) (fun i=>xs.length-(intOf i).toNat)
 case atStart=>exact ⟨0,Nat.zero_le _,rfl,fun j hj=>absurd hj om⟩
 case round=>
  obtain ⟨k,hk,rfl,hlt⟩:=hrel;have HL:=Lib.hid hlt;clear hlt;have hcell:k<xs.length→w.cell? ⟨b,o+k,none⟩=some (.int .u64 (nth xs k)):=hc k;clear hc hlast;go_wp2
  · go_ret
    exact ⟨VK (by rw[xP (by assumption) (by assumption),Bool.and_false]),(Below.refl _ _).alloc (Nat.le_refl _) _⟩
  · have h1:k<xs.length:=by assumption
    have h2:nth xs k<1000000000000000000:=by assumption
    go_round
    case rel=>exact ⟨k+1,om,by go_num,fun j hj=>by
     by_cases hjk:j=k
     · rw[hjk];exact h2
     · exact HL.out j om⟩
    case measure=>simp[intOf];omega
  · have h1:¬k<xs.length:=by assumption
    go_ret
    exact ⟨VK (by rw[yvz fun j hj=>HL.out j om,Bool.and_true]),(Below.refl _ _).alloc (Nat.le_refl _) _⟩
theorem oI (A:Option Addr) (xs:List Nat) (hm:xs.length≤9223372036854775807) (hx:ay w A xs) :
 Calls prog 30 #[.agg #[.bool neg,.slice A xs.length c]] w fun e w'=>e= .returned (.bool (zm neg xs))∧Below w.heap.size w w':=by
 unfold zm;by_cases h0:xs.length=0
 · rw[if_pos h0,h0];exact Ia neg c w A
 rw[if_neg h0];by_cases h1:30<xs.length
 · rw[if_pos h1];exact Cy neg c w A _ h1 hm
 rw[if_neg h1];obtain ⟨b,o,rfl,hb,hc⟩:=hx.2 om;exact Cz neg c w b o xs om om hb hc
end
set_option maxRecDepth 100000 in
set_option maxHeartbeats 400000 in
theorem kh (neg:Bool) (A:Option Addr) (c:Nat) (xs:List Nat) (w:World) (hx:ay w A xs) (hs:zi au xs) (hl:xs.length≤1048576) :
 Calls prog 89 #[.bool neg,.slice A xs.length c] w (sj w (bg neg (val au xs))):=by
 go_enter func89,ntmps89
 go_wp2
 go_loop [5] (fun v=>∃k:Nat,k≤xs.length∧v= .int .i64 k∧ ∀j,k≤j→nth xs j=0) (fun v=>(intOf v).toNat)
 case atStart=>exact ⟨xs.length,Nat.le_refl _,rfl,fun j hj=>xa xs j hj⟩
 case round=>
  obtain ⟨k,hk,rfl,hz⟩:=hrel;have HZ:=Lib.hid hz;clear hz;by_cases hk0:k=0
  · subst hk0;go_wp2
    refine bodyPost_ret (v:=.agg #[.bool false,.slice none 0 0]) (by simp[results,Tryz.results89,go_sem]) rfl ?_;have hv:bg neg (val au xs)=0:=by
     have h1:=qp (b:=au) xs 0 (fun j _ _=>by have:=HZ.out j om;unfold nth at this;omega);rw[←h1];cases neg<;>rfl
    rw[hv];exact xO ((Below.refl _ _).alloc (Nat.le_refl _) _)
  · obtain ⟨m,rfl⟩:∃m,k=m+1:=⟨k-1,om⟩;obtain ⟨b,o,rfl,hb,hc⟩:=hx.2 om;have hcell:=hc m om;have hmk:=VO (m+1) om;rw[show ((m+1:Nat):Int)=(m:Int)+1 from om] at hmk;obtain ⟨w1,hcp,ahx,hg1,hz1⟩:=Hz (w:=(w.alloc (.cells #[.bool false,.slice none 0 0] 24)).alloc (.cells (madeCells #[.int .u64 0] (m+1)) 25)) (w.heap.size+1) (m+1) (m+1) c (some ⟨b,o,none⟩) xs
     (by have:=Row.made (w.alloc (.cells #[.bool false,.slice none 0 0] 24)) (m+1);simpa using this) ((hx.alloc _).alloc _)
    have hN:w1.heap[w.heap.size]? =some (.cells #[.bool false,.slice none 0 0] 24 (0,0)):=by
     rw[hg1.block _ (by simp;omega) (by simp),Below.heap_alloc _ _ _ (by simp)];exact heap_alloc_new _ _
    have hc0:=cell_of_row w1 _ 0 _ _ _ hN;have hc1:=cell_of_row w1 _ 1 _ _ _ hN;have hf0:w1.frozen? ⟨w.heap.size,0,none⟩=false:=by simp[World.frozen?,hN]
    have hf1:w1.frozen? ⟨w.heap.size,1,none⟩=false:=by simp[World.frozen?,hN]
    have HN:=Lib.hid hN;simp at hc0 hc1
    simp only[World.size_alloc] at hz1
    clear hN;go_wp2
    · have h0:(nth xs m==0)=true:=by assumption
      go_round
      case rel=>exact ⟨m,om,rfl,fun j hj=>by
       by_cases e:j=m
       · rw[e];exact beq_iff_eq.1 h0
       · exact HZ.out j om⟩
      case measure=>simp[intOf]
    · have hne:(nth xs m==0)=false:=by assumption
      have hlast:xs.getD m 0≠0:=by
       have:=beq_eq_false_iff_ne.1 hne;unfold nth at this;omega
      have hst:xs.take (m+1)=aI au (val au xs):=
       xJ yq hs hk (fun j hj _=>by have:=HZ.out j om;unfold nth at this;omega) (fun _=>hlast)
      have hlim:limbs (bg neg (val au xs))=xs.take (m+1):=by rw[yo,vo,hst]
      have hlen:(xs.take (m+1)).length=m+1:=by rw[List.length_take];omega
      have hv0:val au xs≠0:=fun e=>by rw[e,znx] at hst;rw[hst] at hlen;simp at hlen
      have hneg:decide (bg neg (val au xs)<0)=neg:=by rw[r9];simp[hv0]
      refine bodyPost_ret (v:=.agg #[.bool neg,.slice (some ⟨w.heap.size+1,0,none⟩) (m+1) (m+1)]) (by simp[results,Tryz.results89,go_sem,hc0,hc1]) rfl ?_;refine ⟨some ⟨w.heap.size+1,0,none⟩,m+1,by rw[hlim,hneg,hlen],?_,?_⟩
      · rw[hlim];exact (Own.Cv (base:=w.heap.size) ahx om (by unfold maxLen;omega) om (fun _ _=>rfl) (VN (vm hs _))).setCell (by rintro q ⟨⟩;simp) _ |>.setCell (by rintro q ⟨⟩;simp) _
      · exact ((((Below.refl _ _).alloc (Nat.le_refl _) _).alloc (by simp) _).grown hg1 (by simp;omega) (by rintro k ⟨⟩;omega)).setCell (by simp) _ |>.setCell (by simp) _
theorem xQ {P:Prop} (h:P:=by
 simp[IntKind.wrap,IntKind.signed,IntKind.bits];omega):P:=h
set_option maxRecDepth 100000 in
set_option maxHeartbeats 400000 in
theorem ymk (neg:Bool) (A:Option Addr) (c:Nat) (xs:List Nat) (w:World) (hx:ay w A xs) (hs:zi au xs) (hl:xs.length≤1048576) (hf:val au xs<au^30) :
 Calls prog 129 #[.bool neg,.slice A xs.length c] w (yb w (bg neg (val au xs)) 0):=by
 have hlen:(limbs (bg neg (val au xs))).length≤30:=by rw[yo,vo];exact (yp yq _ _).2 hf
 obtain ⟨i,hi⟩:∃i,i=bg neg (val au xs):=⟨_,rfl⟩;rw[←hi] at hlen ⊢;have HI:=Lib.hid hi;clear hi;go_enter func129,ntmps129
 go_wp2_with fail
 refine (kh neg A c xs _ (hx.alloc _) hs hl).mono ?_;rintro e w1 ⟨A1,c1,rfl,hown,hbel⟩;rw[←HI.out] at hown ⊢;have hz:w.heap.size<w1.heap.size:=by have:=hbel.size;simp at this;omega
 obtain ⟨hc,hf⟩:=Fq hbel;simp only[World.size_alloc] at hc hf
 go_wp2
 refine bodyPost_ret (v:=.tuple #[.agg #[.bool (decide (i<0)),.slice A1 (limbs i).length c1],.int .i64 0]) (by simp[results,Tryz.results129,go_sem,hc,hz]) rfl ?_;simp only[World.size_alloc] at hown hbel
 exact ⟨A1,c1,rfl,(((hown.aG (by simp) _).aG (by simp) _).alloc _).mono (by simp),(((((Below.refl _ _).alloc (Nat.le_refl _) _).trans (hbel.mono (by simp))).setCell (by simp) _).setCell (by simp) _).alloc (by simp;omega) _⟩
set_option maxRecDepth 100000 in
set_option maxHeartbeats 400000 in
theorem Fu (neg:Bool) (A:Option Addr) (c:Nat) (xs:List Nat) (w:World) (hx:ay w A xs) (hs:zi au xs) (hl:xs.length≤1048576) (hf:au^30≤val au xs) :
 Calls prog 129 #[.bool neg,.slice A xs.length c] w (yb w 0 7):=by
 have hlen:30<(limbs (bg neg (val au xs))).length:=by
  rw[yo,vo];rcases Nat.lt_or_ge 30 (aI au (val au xs)).length with h | h
  · exact h
  · have:=(yp yq _ _).1 h;omega
 have hlen:(30:Int)<((limbs (bg neg (val au xs))).length:Int):=om;obtain ⟨i,hi⟩:∃i,i=bg neg (val au xs):=⟨_,rfl⟩;rw[←hi] at hlen;have HI:=Lib.hid hi;clear hi;go_enter func129,ntmps129
 go_wp2_with fail
 refine (kh neg A c xs _ (hx.alloc _) hs hl).mono ?_;rintro e w1 ⟨A1,c1,rfl,hown,hbel⟩;rw[←HI.out] at hown ⊢;have hz:w.heap.size<w1.heap.size:=by have:=hbel.size;simp at this;omega
 obtain ⟨hc,hf⟩:=Fq hbel;simp only[World.size_alloc] at hc hf
 go_wp2
 refine bodyPost_ret (v:=.tuple #[.agg #[.bool false,.slice none 0 0],.int .i64 7]) (by simp[results,Tryz.results129,go_sem,hc,hz]) rfl ?_;simp only[World.size_alloc] at hbel
 exact ⟨none,0,by rw[qn];rfl,by rw[qn];exact Own.nil _ _,(((((Below.refl _ _).alloc (Nat.le_refl _) _).trans (hbel.mono (by simp))).setCell (by simp) _).setCell (by simp) _).alloc (by simp;omega) _⟩
theorem ML (w:World) (o:Obj) (x y:Nat) (hx:x<18446744073709551616) (hy:y<18446744073709551616) :
 ay ((w.alloc o).alloc (.cells #[.int .u64 (x:Int),.int .u64 (y:Int)] 25)) (some ⟨w.heap.size+1,0,none⟩) [x,y]:=by
 have h:=cell_of_row ((w.alloc o).alloc (.cells #[.int .u64 (x:Int),.int .u64 (y:Int)] 25)) (w.heap.size+1);refine ⟨xj (by simp;omega),fun _=>⟨w.heap.size+1,0,rfl,by simp,fun k hk=>?_⟩⟩;have hh:((w.alloc o).alloc (.cells #[.int .u64 (x:Int),.int .u64 (y:Int)] 25)).heap[w.heap.size+1]? =some (.cells #[.int .u64 (x:Int),.int .u64 (y:Int)] 25 (0,0)):=by
  have:=heap_alloc_new (w.alloc o) (.cells #[.int .u64 (x:Int),.int .u64 (y:Int)] 25);simpa using this
 rw[h (0+k) _ _ _ hh];match k,hk with
 | 0,_=>simp[nth]
 | 1,_=>simp[nth]
 | k+2,hk=>simp only[List.length_cons,List.length_nil] at hk;omega
theorem MN (n:Int) (m:Nat) (h0:-9223372036854775808≤n) (hn:n<0) (hm:m=n.natAbs):IntKind.u64.wrap (-IntKind.u64.wrap n)=(m:Int):=by
 exact xQ
theorem MP (n:Int) (m:Nat) (h1:n≤9223372036854775807) (hn:0≤n) (hm:m=n.natAbs):IntKind.u64.wrap n=(m:Int):=by
 exact xQ
theorem YS (n:Int) (m:Nat) (hm:m=n.natAbs):bg (decide (n<0)) (val au [m%1000000000000000000,m/1000000000000000000])=n:=by
 have e:val au [m%1000000000000000000,m/1000000000000000000]=m:=by simp only[val,Nat.mul_zero,Nat.add_zero];unfold au;omega
 rw[e];unfold bg;by_cases h:n<0
 · simp[h];omega
 · simp[h];omega
theorem MQ (m:Nat) (hm:m≤9223372036854775808):zi au [m%1000000000000000000,m/1000000000000000000]:=by
 intro x hx;simp at hx
 unfold au;omega
set_option maxRecDepth 100000 in
set_option maxHeartbeats 400000 in
theorem Rw (n:Int) (w:World) (h0:-9223372036854775808≤n) (h1:n≤9223372036854775807) :
 Calls prog 68 #[.int .i64 n] w (sj w n):=by
 obtain ⟨m,hm⟩:∃m,m=n.natAbs:=⟨_,rfl⟩;have hmb:m≤9223372036854775808:=om;have hval:=YS n m hm;have Fv:=fun (o:Obj)=>ML w o (m%1000000000000000000) (m/1000000000000000000) om om;have hsm:=MQ m hmb;by_cases hn:n<0
 · have hwr:=MN n m h0 hn hm;simp only[hn,decide_true] at hval
   have HV:=Lib.hid hval;have HS:=Lib.hid hsm;have HN:=Lib.hid Fv;clear hval hsm Fv hm;go_enter func68,ntmps68
   go_wp2_with fail
   refine (kh true _ 2 [m%1000000000000000000,m/1000000000000000000] _ (HN.out _) HS.out (by simp)).mono ?_;rintro e w1 ⟨A1,c1,rfl,hown,hbel⟩;rw[HV.out] at hown ⊢;simp only[World.size_alloc] at hown
   have hz:w.heap.size<w1.heap.size:=by have:=hbel.size;simp at this;omega
   obtain ⟨c0,c1',f0,f1⟩:=((aA.first w 24 #[.bool false,.slice none 0 0] _).below hbel (by simp;omega)).two;go_wp2
   refine bodyPost_ret (v:=.agg #[.bool true,.slice A1 (limbs n).length c1]) (by simp[results,Tryz.results68,go_sem,c0,c1']) rfl ?_;exact ⟨A1,c1,by rw[decide_eq_true hn],((hown.aG (by simp;omega) _).aG (by simp;omega) _).mono om,((((Below.refl _ _).alloc (Nat.le_refl _) _).alloc (by simp) _).trans (hbel.mono (by simp;omega))).setCell (by simp) _ |>.setCell (by simp) _⟩
 · have hwr:=MP n m h1 om hm;simp only[hn,decide_false] at hval
   have HV:=Lib.hid hval;have HS:=Lib.hid hsm;have HN:=Lib.hid Fv;clear hval hsm Fv hm;go_enter func68,ntmps68
   go_wp2_with fail
   refine (kh false _ 2 [m%1000000000000000000,m/1000000000000000000] _ (HN.out _) HS.out (by simp)).mono ?_;rintro e w1 ⟨A1,c1,rfl,hown,hbel⟩;rw[HV.out] at hown ⊢;simp only[World.size_alloc] at hown
   have hz:w.heap.size<w1.heap.size:=by have:=hbel.size;simp at this;omega
   obtain ⟨c0,c1',f0,f1⟩:=((aA.first w 24 #[.bool false,.slice none 0 0] _).below hbel (by simp;omega)).two;go_wp2
   refine bodyPost_ret (v:=.agg #[.bool false,.slice A1 (limbs n).length c1]) (by simp[results,Tryz.results68,go_sem,c0,c1'];omega) rfl ?_;exact ⟨A1,c1,by rw[decide_eq_false om],((hown.aG (by simp;omega) _).aG (by simp;omega) _).mono om,((((Below.refl _ _).alloc (Nat.le_refl _) _).alloc (by simp) _).trans (hbel.mono (by simp;omega))).setCell (by simp) _ |>.setCell (by simp) _⟩
theorem kW {xs ys:List Nat} (hs:zi au xs) (hm:xg ys) (h:xs.length<ys.length):rZ (val au xs) (val au ys)= -1∧rZ (val au ys) (val au xs)=1:=by
 have:=kk yq hs hm h;unfold rZ;exact ⟨if_pos this,by rw[if_neg om,if_pos this]⟩
theorem CB (xs ys:List Nat) (j k:Nat):nth xs j<nth ys k↔xs.getD j 0<ys.getD k 0:=by unfold nth;omega
theorem ygx (xs ys:List Nat) (j k:Nat):nth xs j=nth ys k↔xs.getD j 0=ys.getD k 0:=by unfold nth;omega
theorem oJ {xs ys:List Nat} (hs:zi au xs) (h:xs.length=ys.length) {k:Nat} (hk:k<xs.length) (hd:∀j,k+1≤j→nth xs j=nth ys j) (hlt:nth xs k<nth ys k) :
 rZ (val au xs) (val au ys)= -1∧rZ (val au ys) (val au xs)=1:=by
 have:=gU hs h hk (fun j hj _=>(ygx _ _ _ _).1 (hd j hj)) ((CB _ _ _ _).1 hlt);unfold rZ;exact ⟨if_pos this,by rw[if_neg om,if_pos this]⟩
theorem MR {xs ys:List Nat} (h:xs.length=ys.length) (hd:∀j,0≤j→nth xs j=nth ys j):rZ (val au xs) (val au ys)=0:=by
 have:xs=ys:=by
  apply List.ext_getElem h
  intro j h1 h2;have:=(ygx _ _ _ _).1 (hd j (Nat.zero_le _));simpa [List.getD,List.getElem?_eq_getElem h1,List.getElem?_eq_getElem h2] using this
 subst this;simp[rZ]
set_option maxRecDepth 100000 in
set_option maxHeartbeats 400000 in
theorem yiv (A B:Option Addr) (c d:Nat) (xs ys:List Nat) (w:World) (hx:ay w A xs) (hy:ay w B ys) (hs:zi au xs) (ht:zi au ys) (hn:xg xs) (hm:xg ys)
 (hl:xs.length≤1048576) (hl':ys.length≤1048576) :
 Calls prog 135 #[.slice A xs.length c,.slice B ys.length d] w fun e w'=>e= .returned (.int .i64 (rZ (val au xs) (val au ys)))∧ ∃n,w'=w.drewN n:=by
 by_cases hlen:xs.length=ys.length
 · have hne:((xs.length:Int) !=(ys.length:Int))=false:=by simp[hlen]
   have HL:=Lib.hid hlen;clear hlen;go_enter func135,ntmps135
   go_wp2
   go_loopw [5] (fun v wr=>∃k:Nat,k≤xs.length∧v= .int .i64 ((k:Int)-1)∧(∀j,k≤j→nth xs j=nth ys j)∧ ∃n,wr=w.drewN n) (fun v _=>(intOf v+1).toNat)
   case atStart=>exact ⟨xs.length,Nat.le_refl _,rfl,fun j hj=>by rw[xa xs j hj,xa ys j (by rw[←HL.out];exact hj)],0,rfl⟩
   case round=>
    obtain ⟨k,hk,rfl,hz,n,rfl⟩:=hrel;have HZ:=Lib.hid hz;clear hz;by_cases hk0:k=0
    · subst hk0;go_wp2
      go_ret
      exact ⟨YQ (MR HL.out HZ.out).symm,n,rfl⟩
    · obtain ⟨m,rfl⟩:∃m,k=m+1:=⟨k-1,om⟩;obtain ⟨b,o,rfl,hb,hc⟩:=hx.2 om;obtain ⟨b',o',rfl,hb',hc'⟩:=hy.2 (by rw[←HL.out];omega);have hcell:=hc m om;have hcell':=hc' m (by rw[←HL.out];omega);have hm1:(m:Int)<(xs.length:Int):=om;have hm2:(m:Int)<(ys.length:Int):=by have:=HL.out;omega
      have hm0:(0:Int)≤(m:Int):=om;clear hc hc';rcases Int.lt_trichotomy (nth xs m) (nth ys m) with h | h | h
      · have hne:(nth xs m !=nth ys m)=true:=by simp;omega
        have hdl:decide (nth xs m<nth ys m)=true:=by simpa using h
        have H:=Lib.hid h;clear h;go_wp2
        go_quiet (fail)
        go_wp2
        go_quiet (fail)
        go_wp2
        go_ret
        exact ⟨YQ (oJ hs HL.out om HZ.out H.out).1.symm,_,by simp only[World.drewN_drewN];rfl⟩
      · have hne:(nth xs m !=nth ys m)=false:=by simp[h]
        have H:=Lib.hid h;clear h;go_wp2
        go_quiet (fail)
        go_wp2
        go_roundw
        case rel=>exact ⟨m,om,rfl,fun j hj=>by
         by_cases e:j=m
         · rw[e];exact H.out
         · exact HZ.out j om,_,by first | rfl | (simp only[World.drewN_drewN];rfl)⟩
        case measure=>simp[intOf]
      · have hne:(nth xs m !=nth ys m)=true:=by simp;omega
        have hdl:decide (nth xs m<nth ys m)=false:=by simp;omega
        have H:=Lib.hid h;clear h;go_wp2
        go_quiet (fail)
        go_wp2
        go_quiet (fail)
        go_wp2
        go_ret
        exact ⟨YQ (oJ ht HL.out.symm (by have:=HL.out;omega) (fun j hj=>(HZ.out j hj).symm) H.out).2.symm,_,by simp only[World.drewN_drewN];rfl⟩
 · rcases Nat.lt_or_ge xs.length ys.length with h | h
   · have hne:((xs.length:Int) !=(ys.length:Int))=true:=by simp;omega
     have hlt:(xs.length:Int)<(ys.length:Int):=om;go_enter func135,ntmps135
     go_wp2
     go_ret
     exact ⟨YQ (kW hs hm h).1.symm,0,rfl⟩
   · have hne:((xs.length:Int) !=(ys.length:Int))=true:=by simp;omega
     have hlt:¬(xs.length:Int)<(ys.length:Int):=om;go_enter func135,ntmps135
     go_wp2
     go_ret
     exact ⟨YQ (kW ht hn om).2.symm,0,rfl⟩
@[irreducible] def num (neg:Bool) (xs:List Nat):Int:=bg neg (val au xs)
theorem jx (neg:Bool) (xs:List Nat):num neg xs=bg neg (val au xs):=by unfold num;rfl
theorem yh {neg:Bool} {xs:List Nat} (h:zm neg xs=true):zi au xs∧xg xs∧xs.length≤30∧(xs.length=0→neg=false):=by
 unfold zm at h;by_cases h0:xs.length=0
 · rw[if_pos h0] at h;obtain rfl:=List.eq_nil_of_length_eq_zero h0;exact ⟨jg,Or.inl rfl,by simp,fun _=>by simpa using h⟩
 rw[if_neg h0] at h;by_cases h1:30<xs.length
 · rw[if_pos h1] at h;cases h
 rw[if_neg h1] at h;by_cases h2:nth xs (xs.length-1)=0
 · rw[if_pos h2] at h;cases h
 rw[if_neg h2] at h;refine ⟨mZ fun k hk=>?_,Or.inr fun e=>h2 (by unfold nth;rw[e];rfl),om,fun e=>absurd e h0⟩;unfold P5 at h;rw[List.all_eq_true] at h;have:=h k (by simpa using hk);unfold nth at this;simp only[decide_eq_true_eq] at this
 unfold au;omega
theorem nu {neg:Bool} {xs:List Nat} (hs:zi au xs) (hn:xg xs) (hl:xs.length≤30) (h0:xs.length=0→neg=false):zm neg xs=true:=by
 unfold zm;by_cases h:xs.length=0
 · rw[if_pos h,h0 h];rfl
 rw[if_neg h,if_neg om];rcases hn with hn | hn
 · exact absurd hn h
 rw[if_neg (by unfold nth;omega)];exact yvz fun k _=>qj (by unfold au;omega) hs k
theorem zfq (neg:Bool) (xs:List Nat):(num neg xs).natAbs=val au xs:=by rw[jx,vo]
theorem Ib {neg:Bool} {xs:List Nat} (h:zm neg xs=true):limbs (num neg xs)=xs:=by
 obtain ⟨hs,hn,_,_⟩:=yh h;rw[yo,zfq,←rX yq hs hn]
theorem su {neg:Bool} {xs:List Nat} (h:zm neg xs=true):val au xs=0↔xs.length=0:=by
 obtain ⟨_,hn,_,_⟩:=yh h;constructor
 · intro hv;rcases Nat.eq_zero_or_pos xs.length with h0 | h0
   · exact h0
   · exact absurd hv (xh yq hn om)
 · intro h0;rw[List.eq_nil_of_length_eq_zero h0];rfl
theorem neg_num {neg:Bool} {xs:List Nat} (h:zm neg xs=true):decide (num neg xs<0)=neg:=by
 rw[jx,r9];by_cases h0:xs.length=0
 · rw[(yh h).2.2.2 h0];rfl
 · simp[mt (su h).1 h0]
theorem CF {neg:Bool} {xs:List Nat} (h:zm neg xs=true):(num neg xs).natAbs<au^30:=by
 obtain ⟨hs,_,hl,_⟩:=yh h;rw[zfq];exact Nat.lt_of_lt_of_le (gj hs) (Nat.pow_le_pow_right (by unfold au;omega) hl)
theorem qo {i:Int} (h:i.natAbs<au^30):zm (decide (i<0)) (limbs i)=true:=by
 rw[yo];refine nu (jo yq _) (zav yq _) ((yp yq _ _).2 h) fun h0=>?_;have hz:i.natAbs=0:=by
  rcases Nat.eq_zero_or_pos i.natAbs with h1 | h1
  · exact h1
  · have:=YP yq (n:=i.natAbs) om;omega
 simp;omega
theorem gu (i:Int):num (decide (i<0)) (limbs i)=i:=by
 rw[jx,yo,jj yq];unfold bg;by_cases h:i<0<;>simp[h]<;>omega
def xR (i j:Int):Int:=if i<j then -1 else if j<i then 1 else 0
section
variable (A:Option Addr) (c:Nat) (xs:List Nat) (w:World)
end
def aL (w:World) (A:Option Addr) (xs:List Nat):Prop:=
 (∀k,nth xs k<256)∧(0<xs.length→ ∃b o,A=some ⟨b,o,none⟩∧b<w.heap.size∧ ∀k,k<xs.length→w.cell? ⟨b,o+k,none⟩=some (.int .u8 (nth xs k)))
def yrv (ys:List Nat) (j:Nat):Value:=.int .u8 (nth ys j)
def aU (w:World) (g n:Nat) (ys:List Nat):Prop:=w.rowIs g 5 n (yrv ys)∧ys.length≤n
section
variable {w w':World} {g n:Nat} {ys:List Nat}
theorem aU.cell (h:aU w g n ys) {j:Nat} (hj:j<n):w.cell? ⟨g,j,none⟩=some (.int .u8 (nth ys j)):=h.1.cell hj
theorem aU.frozen (h:aU w g n ys) (j:Nat):w.frozen? ⟨g,j,none⟩=false:=h.1.frozen j
theorem aU.lt (h:aU w g n ys):g<w.heap.size:=h.1.lt
theorem aU.made (w:World) (n:Nat):aU (w.alloc (.cells (madeCells #[.int .u8 0] n) 5)) w.heap.size n []:=
 ⟨(World.rowIs_made w _ n _).congr fun i _=>by unfold yrv;rw[yaq],Nat.zero_le _⟩
theorem aU.snoc (h:aU w g n ys) (v:Nat) (hn:ys.length<n):aU (w.setCell ⟨g,ys.length,none⟩ (.int .u8 (v:Int))) g n (ys++ [v]):=
 ⟨(h.1.set ys.length _).congr fun i _=>by unfold yrv;rw[kU];split<;>rfl,by simp;omega⟩
theorem aU.bE (h:aU w g n ys) (v:Int) (h0:0≤v) {k:Nat} (hk:ys.length=k) (hn:k<n):aU (w.setCell ⟨g,k,none⟩ (.int .u8 v)) g n (ys++ [v.toNat]):=by
 exact Mv
theorem aU.set (h:aU w g n ys) (i v:Nat) (hi:i<ys.length):aU (w.setCell ⟨g,i,none⟩ (.int .u8 (v:Int))) g n (ys.set i v):=
 ⟨(h.1.set i _).congr fun j _=>by unfold yrv;rw[ylv _ _ _ hi];split<;>rfl,by simpa using h.2⟩
theorem aU.setInt (h:aU w g n ys) (v:Int) (h0:0≤v) {i:Nat} (hi:i<ys.length):aU (w.setCell ⟨g,i,none⟩ (.int .u8 v)) g n (ys.set i v.toNat):=by
 exact Mt
theorem aU.of_block (h:aU w g n ys) (e:w'.heap[g]? =w.heap[g]?):aU w' g n ys:=⟨h.1.of_block e,h.2⟩
theorem aU.alloc (h:aU w g n ys) (o:Obj):aU (w.alloc o) g n ys:=⟨h.1.alloc o,h.2⟩
theorem aU.drew (h:aU w g n ys):aU w.drew g n ys:=h
theorem aU.drewN (h:aU w g n ys) (k:Nat):aU (w.drewN k) g n ys:=h
theorem aU.setOther (h:aU w g n ys) {a:Addr} (ha:g≠a.block) (v:Value):aU (w.setCell a v) g n ys:=⟨h.1.setOther ha v,h.2⟩
theorem aU.below {B:Nat} (h:aU w g n ys) (hb:Below B w w') (hg:g<B):aU w' g n ys:=h.of_block (hb.block g hg)
theorem aU.fill (h:aU w g n ys):aU w g n (ys++List.replicate (n-ys.length) 0):=by
 refine ⟨h.1.congr fun i hi=>?_,by have:=h.2;simp;omega⟩;unfold yrv nth;exact ME
end
def aJ (w:World) (base:Nat) (A:Option Addr) (c:Nat) (xs:List Nat):Prop:=
 w.ownsRow base 5 1 (.slice A xs.length c) xs.length (xs.map fun x:Nat=>Value.int .u8 (x:Int))∧ ∀x∈xs,x<256
section
variable {w w':World} {base:Nat} {A:Option Addr} {c:Nat} {xs:List Nat}
theorem kX (h:∀x∈xs,x<256) (k:Nat):nth xs k<256:=by
 exact MC
theorem aJ.nums (h:aJ w base A c xs):aL w A xs:=by
 refine ⟨kX h.2,fun h0=>?_⟩;exact MH
theorem aJ.nil (w:World) (base:Nat):aJ w base none 0 []:=⟨World.ownsRow_nil _ _ _ _,fun _ h=>by cases h⟩
theorem aJ.Cv {g n:Nat} {ys:List Nat} (h:aU w g n ys) (hb:base≤g) (hc:n≤maxLen) (hx:xs.length≤n) (he:∀j,j<xs.length→nth ys j=nth xs j) (h64:∀x∈xs,x<256):aJ w base (some ⟨g,0,none⟩) n xs:=by
 obtain ⟨⟨cur,hh,hsz,hcell⟩,hle⟩:=h;refine ⟨⟨by simp,.inr ⟨g,n,cur,rfl,hb,hh,hx,hc,om,?_⟩⟩,h64⟩;apply List.ext_getElem?
 intro j;rw[List.getElem?_take];by_cases hj:j<xs.length
 · rw[if_pos om];have h1:=hcell j om;rw[Array.getElem?_toList,h1];unfold yrv;rw[he j hj];simp[nth,hj]
 · rw[if_neg om,List.getElem?_eq_none (by simpa using Nat.le_of_not_lt hj)]
theorem aJ.kept {row:Option Nat} (h:aJ w base A c xs) (hg:w.grownBy w' row) (hne:(Value.slice A xs.length c).ownBlock=none∨(Value.slice A xs.length c).ownBlock≠row):aJ w' base A c xs:=⟨h.1.kept hg hne,h.2⟩
theorem aJ.below {B:Nat} (h:aJ w base A c xs) (hb:Below B w w') (hB:w.heap.size≤B):aJ w' base A c xs:=
 h.kept (row:=none) ⟨hb.os,hb.tape,hb.output,hb.size,fun k hk _=>hb.block k om⟩ (by cases (Value.slice A xs.length c).ownBlock<;>simp)
theorem aJ.alloc (h:aJ w base A c xs) (o:Obj):aJ (w.alloc o) base A c xs:=⟨h.1.alloc o,h.2⟩
theorem aJ.drew (h:aJ w base A c xs):aJ w.drew base A c xs:=h
theorem aJ.drewN (h:aJ w base A c xs) (k:Nat):aJ (w.drewN k) base A c xs:=h
theorem aJ.mono {b':Nat} (h:aJ w base A c xs) (hb:b'≤base):aJ w b' A c xs:=by
 exact Mw
theorem aJ.setCell (h:aJ w base A c xs) {p:Addr} (hp:∀q,A=some q→q.block≠p.block) (u:Value):aJ (w.setCell p u) base A c xs:=by
 exact MG
theorem aJ.aG (h:aJ w base A c xs) {p:Addr} (hp:p.block<base) (u:Value):aJ (w.setCell p u) base A c xs:=
 ⟨ownsRow_setCell_below h.1 hp u,h.2⟩
theorem aJ.set2 (h:aJ w base A c xs) {g:Nat} {t:TypeId} {x y:Value} (hb:aA w g t #[x,y]) (ht:5≠t) (u v:Value):aJ ((w.setCell ⟨g,0,none⟩ u).setCell ⟨g,1,none⟩ v) base A c xs:=by
 exact Mx
theorem aJ.ge (h:aJ w base A c xs):∀q,A=some q→base≤q.block∧q.block<w.heap.size:=by
 intro q hq;subst hq;exact h.1.lt q.block rfl
theorem aL.keep (h:aL w A xs) (hs:w.heap.size≤w'.heap.size) (hk:∀p:Addr,p.block<w.heap.size→w'.cell? p=w.cell? p):aL w' A xs:=
 ⟨h.1,fun h0=>by
  obtain ⟨b,o,rfl,hb,hc⟩:=h.2 h0;exact ⟨b,o,rfl,om,fun k hk'=>(hk _ hb).trans (hc k hk')⟩⟩
theorem aL.alloc (h:aL w A xs) (o:Obj):aL (w.alloc o) A xs:=h.keep (by simp) fun p hp=>World.cell?_alloc_lt w o p hp
theorem aL.drew (h:aL w A xs):aL w.drew A xs:=h
theorem aL.drewN (h:aL w A xs) (k:Nat):aL (w.drewN k) A xs:=h
theorem aL.below {B:Nat} (h:aL w A xs) (hb:Below B w w') (hB:w.heap.size≤B):aL w' A xs:=h.keep hb.size fun _ hp=>hb.cell om
theorem aL.setCell (h:aL w A xs) {p:Addr} (hp:∀q,A=some q→q.block≠p.block) (u:Value):aL (w.setCell p u) A xs:=
 ⟨h.1,fun h0=>by
  obtain ⟨b,o,rfl,hb,hc⟩:=h.2 h0;refine ⟨b,o,rfl,by simpa [World.setCell] using hb,fun k hk'=>?_⟩;rw[World.cell?_setCell_other _ _ _ _ (fun e=>hp _ rfl (by rw[e]))];exact hc k hk'⟩
end
theorem CG:∃i,prog.info? 5=some i∧i.zero=some (.int .u8 0)∧i.size=1∧i.bytes=1:=by
 obtain ⟨i,hi,h⟩:=Option.map_eq_some_iff.1 (show (prog.info? 5).map (fun i=>(i.zero,i.size,i.bytes))=some (some (.int .u8 0),1,1) from kr);simp only[Prod.mk.injEq] at h
 exact ⟨i,hi,h.1,h.2.1,h.2.2⟩
theorem aJ.iq {w:World} {base n:Nat} {v:Value} {xs:List Nat} (h:w.ownsRow base 5 1 v n (xs.map fun x:Nat=>Value.int .u8 (x:Int))) (h64:∀x∈xs,x<256) :
 ∃A c,v= .slice A xs.length c∧aJ w base A c xs:=by
 have hn:xs.length=n:=by simpa using h.1
 subst hn;rcases h.2 with ⟨rfl,hz⟩ | ⟨g,cap,cur,rfl,r⟩
 · exact ⟨none,0,by rw[hz],by rw[List.eq_nil_of_length_eq_zero hz];exact aJ.nil _ _⟩
 · exact Cu
theorem ywx {w:World} {ops:Array Oper} {rest:List Oper} {o:Oper} {a:Act} {Q:Exit→Act→World→Prop} (hgd:o.guard=none) (s x:Operand)
 (ho:o.op= .call { callee:=.builtin .append,args:=#[s,x],argTypes:=#[46,46] }) (base:Nat) (A:Option Addr) (c:Nat) (xs:List Nat) (hs:a.eval s= .slice A xs.length c)
 (hown:aJ w base A c xs) (ys:List Nat) (ad:Addr) (m cc:Nat) (hx:a.eval x= .slice (some ad) m cc) (hm:ys.length=m)
 (hnews:∀j u,(ys.map fun x:Nat=>Value.int .u8 (x:Int))[j]? =some u→w.cell? (ad.add j)=some u) (h64:∀x∈ys,x<256) (hl:xs.length+ys.length≤17592186044416) (hbase:base≤w.heap.size)
 (h:∀A' c' w',aJ w' base A' c' (xs++ys)→w.grownBy w' (Value.slice A xs.length c).ownBlock→wpList prog ops Q rest (a.put o.dst (.slice A' (xs++ys).length c')) w'):wpList prog ops Q (o::rest) a w:=by
 obtain ⟨i,hi,hz,hsz,hby⟩:=CG;subst hm;refine wpList_append_own w hgd s x _ ho base 5 i _ 1 1 u46 hi hz hsz hby rfl de _ _ _ hs hown.1 ad ys.length cc (ys.map fun x:Nat=>Value.int .u8 (x:Int)) hx (by simp) hnews
  (fun u hu=>by rw[List.mem_map] at hu;obtain ⟨y,_,rfl⟩:=hu;rfl) (by unfold maxLen;omega) om hbase ?_
 intro v' w' hown' hg' _;rw[←List.map_append] at hown';obtain ⟨A',c',hv,ho'⟩:=aJ.iq hown' (fun y hy=>by
  rcases List.mem_append.1 hy with h1 | h1
  · exact hown.2 y h1
  · exact h64 y h1)
 rw[hv];exact h A' c' w' ho' hg'
theorem Below.ahj {w0 w w':World} {base:Nat} {A:Option Addr} {c:Nat} {xs:List Nat} (hb:Below base w0 w) (hown:aJ w base A c xs) (hbase:base≤w.heap.size) (hg:w.grownBy w' (Value.slice A xs.length c).ownBlock):Below base w0 w':=
 hb.grown hg hbase (fun k hk=>by
  match A,hown,hk with
  | some q,hown,hk=>
   exact Ms
  | none,_,hk=>simp[Value.ownBlock] at hk)
theorem aJ.cut {w:World} {base:Nat} {A:Option Addr} {c:Nat} {xs:List Nat} (h:aJ w base A c xs) (hc:xs≠ []) {k:Nat} (hk:k≤xs.length):aJ w base A c (xs.take k):=by
 exact MJ
theorem aU.nums {w':World} {g len:Nat} {zs:List Nat} (h:aU w' g len zs) (hz:zs.length=len) (h64:∀x∈zs,x<256):aL w' (some ⟨g,0,none⟩) zs:=
 ⟨kX h64,fun _=>⟨g,0,rfl,h.lt,fun k hk=>by rw[Nat.zero_add];exact h.cell om⟩⟩
@[irreducible] def aC (i:Int):List Nat:=aI 10 i.natAbs
theorem xd (i:Int):aC i=aI 10 i.natAbs:=by unfold aC;rfl
theorem yev (i:Int):zi 10 (aC i):=by rw[xd];exact jo de _
theorem xS (i:Int):val 10 (aC i)=i.natAbs:=by rw[xd];exact jj de _
theorem oK:aC 0= []:=by rw[xd];rfl
theorem ymq {b:Nat} (hb:0<b):∀ {l:List Nat},zi b l→ ∀k,l.getD k 0=val b l/b^k%b
 | [],_,k=>by simp[val]
 | x::l,h,0=>by
  obtain ⟨h1,_⟩:=oh.1 h;simp[val,Nat.add_mul_mod_self_left,Nat.mod_eq_of_lt h1]
 | x::l,h,k+1=>by
  obtain ⟨h1,h2⟩:=oh.1 h;have e:val b (x::l)/b^(k+1)=val b l/b^k:=by
   rw[Nat.pow_succ,Nat.mul_comm,←Nat.div_div_eq_div_mul];congr 1
   simp only[val]
   rw[Nat.add_mul_div_left _ _ hb,Nat.div_eq_of_lt h1,Nat.zero_add]
  rw[e,←ymq hb h2 k];simp
theorem Rx {b:Nat} (hb:0<b) {l:List Nat} (h:zi b l) (k:Nat):nth l k=((val b l/b^k%b:Nat):Int):=by
 unfold nth;rw[ymq hb h k]
theorem kY (i:Int) (k:Nat):nth (aC i) k=((i.natAbs/10^k%10:Nat):Int):=by
 rw[Rx de (yev i),xS]
def pad:Nat→Nat→List Nat
 | 0,_=>[]
 | k+1,n=>n%10::pad k (n/10)
theorem oL:∀k n,zi 10 (pad k n)
 | 0,_=>jg
 | k+1,n=>oh.2 ⟨Nat.mod_lt _ de,oL k _⟩
theorem Fw:∀k n,val 10 (pad k n)=n%10^k
 | 0,n=>by simp[pad,val,Nat.mod_one]
 | k+1,n=>by
  rw[pad,val,Fw k,Nat.pow_succ,Nat.mul_comm (10^k) 10,Nat.mod_mul]
theorem xU:∀k n,pad (k+1) n=pad k n++ [n/10^k%10]
 | 0,n=>by simp[pad]
 | k+1,n=>by
  rw[pad,xU k,pad,List.cons_append,Nat.div_div_eq_div_mul,Nat.pow_succ,Nat.mul_comm 10]
theorem ypv (k:Nat):au^k=10^(18*k):=by
 rw[Nat.pow_mul];rfl
theorem oM (V k j:Nat):V/10^(18*k+j)=V/au^k/10^j:=by
 rw[ypv,Nat.div_div_eq_div_mul,Nat.pow_add]
theorem xV (M j:Nat) (hj:j≤18):M%au/10^j=M/10^j%10^(18-j):=by
 have e:au=10^j*10^(18-j):=by rw[←Nat.pow_add,show j+(18-j)=18 from om];rfl
 rw[e,Nat.mod_mul_right_div_self]
theorem yzz (M j:Nat) (hj:j<18):M%au/10^j%10=M/10^j%10:=by
 rw[xV M j om];refine Nat.mod_mod_of_dvd _ ?_;obtain ⟨m,hm⟩:∃m,18-j=m+1:=⟨17-j,om⟩;rw[hm,Nat.pow_succ];exact Nat.dvd_mul_left _ _
theorem CJ {xs:List Nat} (h:zi au xs) (k j:Nat) (hj:j<18):xs.getD k 0/10^j%10=val au xs/10^(18*k+j)%10:=by
 rw[ymq (by unfold au;omega) h k,oM,yzz _ j hj]
theorem MS {xs:List Nat} (h:zi au xs):val au xs<10^(18*xs.length):=by
 rw[←ypv];exact gj h
theorem Ic {b:Nat} (hb:2≤b) (n m:Nat) (h:n/b^m≠0):aI b (n/b^m)=n/b^m%b::aI b (n/b^(m+1)):=by
 rw[ga hb h,Nat.div_div_eq_div_mul,Nat.pow_succ]
theorem Fy (i:Int) (m:Nat):(aC i).length≤18*m↔i.natAbs/au^m=0:=by
 have h0:0<au^m:=Nat.pow_pos (by unfold au;omega);rw[xd,yp de,←ypv];constructor
 · intro h;exact Nat.div_eq_of_lt h
 · intro h;rcases Nat.lt_or_ge i.natAbs (au^m) with h1 | h1
   · exact h1
   · have:=Nat.div_pos h1 h0;omega
theorem Ie (M k:Nat) (hk:k<18):M%au/10^k=10*(M%au/10^(k+1))+M/10^k%10:=by
 rw[←yzz M k hk,Nat.pow_succ,←Nat.div_div_eq_div_mul];omega
theorem vf {i:Int} (h:i.natAbs<au^30):(limbs i).length≤30:=by
 rw[yo];exact (yp yq _ _).2 h
theorem xW {i:Int} {k:Nat} (h:i.natAbs<au^k):(aC i).length≤18*k:=by
 rw[xd];exact (yp de _ _).2 (by rw[←ypv];exact h)
theorem zux {i:Int} (h:i.natAbs<au^30):(aC i).length≤540:=xW h
theorem Per.nums {X:Nat→Prop} {w:World} {A:Option Addr} {xs:List Nat} (h:ay w A xs) (hx:∀q,A=some q→ ¬X q.block):Per X w (fun b=>ay b A xs):=fun b hb=>
 ⟨h.1,fun h0=>by
  obtain ⟨g,o,rfl,hg,hc⟩:=h.2 h0;exact ⟨g,o,rfl,Nat.lt_of_lt_of_le hg hb.size,fun k hk=>(hb.cell (p:=⟨g,o+k,none⟩) hg (hx ⟨g,o,none⟩ rfl)).trans (hc k hk)⟩⟩
theorem Per.aF {w:World} {A:Option Addr} {xs:List Nat} (h:ay w A xs):Per No w (fun b=>ay b A xs):=Per.nums h (fun _ _=>id)
theorem Per.own {X:Nat→Prop} {w:World} {base:Nat} {A:Option Addr} {c:Nat} {xs:List Nat} (h:Own w base A c xs) (hx:∀k,X k→k<base):Per X w (fun b=>ay b A xs):=Per.nums h.nums (fun q hq e=>by have:=hx _ e;have:=(h.ge q hq).1;omega)
theorem sD {n:Bool} {xs:List Nat} (h:zm n xs=true):∃i:Int,n=decide (i<0)∧xs=limbs i∧i.natAbs<au^30:=by
 refine ⟨num n xs,?_,(Ib h).symm,CF h⟩;obtain ⟨hs,hn,_,h0⟩:=yh h;rw[jx,r9];cases n
 · rfl
 · have hne:val au xs≠0:=xh yq hn (fun e=>by have:=h0 e;cases this);simp[hne]
def big (i:Int) (A:Option Addr) (c:Nat):Value:=.agg #[.bool (decide (i<0)),.slice A (limbs i).length c]
theorem Ig {i:Int} (A:Option Addr) (c:Nat) (w:World) (hi:i.natAbs<au^30) (hx:ay w A (limbs i)):Calls prog 29 #[.agg #[.bool (decide (i<0)),.slice A (limbs i).length c]] w fun e w'=>e= .returned (.bool true)∧Below w.heap.size w w':=by
 have h:=ye (decide (i<0)) c w A (limbs i) (by have:=vf hi;omega) hx;rwa [qo hi] at h
theorem zqv (xs:List Nat) (k:Nat):((xs.getD k 0:Nat):Int)=nth xs k:=by unfold nth;rfl
theorem yav {xs ys zs:List Nat} {k:Nat} {cy:Int} (hz:zs.length=k) (h0:0≤cy) (h:val au zs+au^k*cy.toNat=val au (xs.take k)+val au (ys.take k)) :
 val au (zs++ [((nth xs k+cy+nth ys k)%1000000000000000000).toNat])+au^(k+1)*((nth xs k+cy+nth ys k)/1000000000000000000).toNat=val au (xs.take (k+1))+val au (ys.take (k+1)):=by
 rw[YO,zu,zu,hz,Nat.pow_succ];have e1:=zqv xs k;have e2:=zqv ys k;generalize xs.getD k 0=x at *
 generalize ys.getD k 0=y at *
 obtain ⟨c,rfl⟩:=Int.eq_ofNat_of_zero_le h0;rw[←e1,←e2];have e3:(((x:Int)+(c:Int)+(y:Int))%1000000000000000000).toNat=(x+c+y)%au:=by unfold au;omega
 have e4:(((x:Int)+(c:Int)+(y:Int))/1000000000000000000).toNat=(x+c+y)/au:=by unfold au;omega
 rw[e3,e4,Nat.mul_assoc];have e5:=Nat.mod_add_div (x+c+y) au;have e6:au^k*((x+c+y)%au)+au^k*(au*((x+c+y)/au))=au^k*x+au^k*c+au^k*y:=by
  rw[←Nat.mul_add,e5,Nat.mul_add,Nat.mul_add]
 simp only[Int.toNat_natCast] at h
 omega
theorem oN {zs:List Nat} {k:Nat} {cy:Int} {v:Nat} (hz:zs.length=k) (h:val au zs+au^k*cy.toNat=v):val au (zs++ [cy.toNat])=v:=by
 rw[YO,hz];exact h
set_option maxRecDepth 100000 in
set_option maxHeartbeats 400000 in
theorem kZ (A B:Option Addr) (c d:Nat) (xs ys:List Nat) (w:World) (hx:ay w A xs) (hy:ay w B ys) (hs:zi au xs) (ht:zi au ys)
 (hl:xs.length≤1048576) (hl':ys.length≤1048576) :
 Calls prog 131 #[.slice A xs.length c,.slice B ys.length d] w (Cx w au (max xs.length ys.length+1) (val au xs+val au ys)):=by
 by_cases hlen:xs.length<ys.length
 · have hmax:max xs.length ys.length=ys.length:=om;rw[hmax];have hmk:=VO (ys.length+1) om;rw[show ((ys.length+1:Nat):Int)=(ys.length:Int)+1 from om] at hmk;clear hmax;go_enter func131,ntmps131
   go_wp2
   go_loopw [6,22] (fun cv v wr=>∃(k:Nat) (zs:List Nat) (cy:Int),k≤ys.length∧v= .int .i64 k∧cv= .int .u64 cy∧0≤cy∧cy≤1∧zs.length=k∧zi au zs∧
    val au zs+au^k*cy.toNat=val au (ys.take k)+val au (xs.take k)∧Row wr w.heap.size (ys.length+1) zs∧Below w.heap.size w wr) (fun _ v _=>ys.length-(intOf v).toNat)
   case atStart=>exact ⟨0,[],0,Nat.zero_le _,rfl,rfl,om,om,rfl,jg,by simp[val],Row.made w _,(Below.refl _ _).alloc (Nat.le_refl _) _⟩
   case round=>
    obtain ⟨k,zs,cy,hk,rfl,rfl,hc0,hc1,hzl,hzs,hval,hrow,hbel⟩:=hrel;have HV:=Lib.hid hval;have HZ:=Lib.hid hzl;clear hval hzl;have hcell:=fun j (hj:j<ys.length+1)=>hrow.cell hj;have hcell:=hcell k om;have hfro:=hrow.frozen k;have hlt:=hrow.lt;by_cases hlt':k<ys.length
    · obtain ⟨b,o,rfl,hb,hc⟩:=hy.2 om;have hca:wr.cell? ⟨b,o+k,none⟩=some (.int .u64 (nth ys k)):=(hbel.cell (p:=⟨b,o+k,none⟩) hb).trans (hc k hlt');have hxk:nth ys k<1000000000000000000:=qj (by unfold au;omega) ht k;have CK:=zw ys k;have hyk:nth xs k<1000000000000000000:=qj (by unfold au;omega) hs k;have ai0:=zw xs k;clear hc;by_cases hky:k<xs.length
      · obtain ⟨b',o',rfl,hb',hc'⟩:=hx.2 om;have hcb:wr.cell? ⟨b',o'+k,none⟩=some (.int .u64 (nth xs k)):=(hbel.cell (p:=⟨b',o'+k,none⟩) hb').trans (hc' k hky);clear hc';go_wp2
        go_roundw
        case rel=>exact ⟨k+1,zs++ [((nth ys k+cy+nth xs k)%1000000000000000000).toNat],(nth ys k+cy+nth xs k)/1000000000000000000,om,by go_num,rfl,om,om,by simp[HZ.out],
         vn hzs (by unfold au;omega),yav HZ.out hc0 HV.out,hrow.bE _ om HZ.out om,hbel.setCell (Nat.le_refl _) _⟩
        case measure=>simp[intOf];omega
      · have hy0:nth xs k=0:=xa xs k om;have HY0:=Lib.hid hy0;clear hy0;have hst:=yav (xs:=ys) (ys:=xs) HZ.out hc0 HV.out;rw[HY0.out,Int.add_zero] at hst;have HST:=Lib.hid hst;clear hst;go_wp2
        go_roundw
        case rel=>exact ⟨k+1,zs++ [((nth ys k+cy)%1000000000000000000).toNat],(nth ys k+cy)/1000000000000000000,om,by go_num,rfl,om,om,by simp[HZ.out],
         vn hzs (by unfold au;omega),HST.out,hrow.bE _ om HZ.out om,hbel.setCell (Nat.le_refl _) _⟩
        case measure=>simp[intOf];omega
    · obtain rfl:k=ys.length:=om;have hv:=HV.out;rw[yr _ _ (Nat.le_refl _),yr _ _ om] at hv;have Bd:=Lib.hid hv;clear hv;go_wp2
      go_ret
      exact ⟨w.heap.size,zs++ [cy.toNat],by simp[HZ.out],hrow.bE _ hc0 HZ.out om,by simp[HZ.out],vn hzs (by unfold au;omega),(oN HZ.out Bd.out).trans (Nat.add_comm _ _),Nat.le_refl _,hbel.setCell (Nat.le_refl _) _⟩
 · have hmax:max xs.length ys.length=xs.length:=om;rw[hmax];have hmk:=VO (xs.length+1) om;rw[show ((xs.length+1:Nat):Int)=(xs.length:Int)+1 from om] at hmk;clear hmax;go_enter func131,ntmps131
   go_wp2
   go_loopw [6,22] (fun cv v wr=>∃(k:Nat) (zs:List Nat) (cy:Int),k≤xs.length∧v= .int .i64 k∧cv= .int .u64 cy∧0≤cy∧cy≤1∧zs.length=k∧zi au zs∧
    val au zs+au^k*cy.toNat=val au (xs.take k)+val au (ys.take k)∧Row wr w.heap.size (xs.length+1) zs∧Below w.heap.size w wr) (fun _ v _=>xs.length-(intOf v).toNat)
   case atStart=>exact ⟨0,[],0,Nat.zero_le _,rfl,rfl,om,om,rfl,jg,by simp[val],Row.made w _,(Below.refl _ _).alloc (Nat.le_refl _) _⟩
   case round=>
    obtain ⟨k,zs,cy,hk,rfl,rfl,hc0,hc1,hzl,hzs,hval,hrow,hbel⟩:=hrel;have HV:=Lib.hid hval;have HZ:=Lib.hid hzl;clear hval hzl;have hcell:=fun j (hj:j<xs.length+1)=>hrow.cell hj;have hcell:=hcell k om;have hfro:=hrow.frozen k;have hlt:=hrow.lt;by_cases hlt':k<xs.length
    · obtain ⟨b,o,rfl,hb,hc⟩:=hx.2 om;have hca:wr.cell? ⟨b,o+k,none⟩=some (.int .u64 (nth xs k)):=(hbel.cell (p:=⟨b,o+k,none⟩) hb).trans (hc k hlt');have hxk:nth xs k<1000000000000000000:=qj (by unfold au;omega) hs k;have CK:=zw xs k;have hyk:nth ys k<1000000000000000000:=qj (by unfold au;omega) ht k;have ai0:=zw ys k;clear hc;by_cases hky:k<ys.length
      · obtain ⟨b',o',rfl,hb',hc'⟩:=hy.2 om;have hcb:wr.cell? ⟨b',o'+k,none⟩=some (.int .u64 (nth ys k)):=(hbel.cell (p:=⟨b',o'+k,none⟩) hb').trans (hc' k hky);clear hc';go_wp2
        go_roundw
        case rel=>exact ⟨k+1,zs++ [((nth xs k+cy+nth ys k)%1000000000000000000).toNat],(nth xs k+cy+nth ys k)/1000000000000000000,om,by go_num,rfl,om,om,by simp[HZ.out],
         vn hzs (by unfold au;omega),yav HZ.out hc0 HV.out,hrow.bE _ om HZ.out om,hbel.setCell (Nat.le_refl _) _⟩
        case measure=>simp[intOf];omega
      · have hy0:nth ys k=0:=xa ys k om;have HY0:=Lib.hid hy0;clear hy0;have hst:=yav (xs:=xs) (ys:=ys) HZ.out hc0 HV.out;rw[HY0.out,Int.add_zero] at hst;have HST:=Lib.hid hst;clear hst;go_wp2
        go_roundw
        case rel=>exact ⟨k+1,zs++ [((nth xs k+cy)%1000000000000000000).toNat],(nth xs k+cy)/1000000000000000000,om,by go_num,rfl,om,om,by simp[HZ.out],
         vn hzs (by unfold au;omega),HST.out,hrow.bE _ om HZ.out om,hbel.setCell (Nat.le_refl _) _⟩
        case measure=>simp[intOf];omega
    · obtain rfl:k=xs.length:=om;have hv:=HV.out;rw[yr _ _ (Nat.le_refl _),yr _ _ om] at hv;have Bd:=Lib.hid hv;clear hv;go_wp2
      go_ret
      exact ⟨w.heap.size,zs++ [cy.toNat],by simp[HZ.out],hrow.bE _ hc0 HZ.out om,by simp[HZ.out],vn hzs (by unfold au;omega),oN HZ.out Bd.out,Nat.le_refl _,hbel.setCell (Nat.le_refl _) _⟩
theorem oO {xs ys zs:List Nat} {k:Nat} {bw:Int} (hz:zs.length=k) (h0:0≤bw) (h1:bw≤1) (hy:nth ys k<1000000000000000000) (h:val au zs+val au (ys.take k)=val au (xs.take k)+au^k*bw.toNat)
 (hx:nth xs k<1000000000000000000) :
 val au (zs++ [((nth xs k+1000000000000000000-bw-nth ys k)%1000000000000000000).toNat])+val au (ys.take (k+1))=val au (xs.take (k+1))+au^(k+1)*(1-(nth xs k+1000000000000000000-bw-nth ys k)/1000000000000000000).toNat:=by
 rw[YO,zu,zu,hz,Nat.pow_succ];have e1:=zqv xs k;have e2:=zqv ys k;rw[←e2] at hy;rw[←e1] at hx;generalize xs.getD k 0=x at *
 generalize ys.getD k 0=y at *
 rw[←e1,←e2];obtain ⟨z,hzz⟩:∃z,z=(((x:Int)+1000000000000000000-bw-(y:Int))%1000000000000000000).toNat:=⟨_,rfl⟩;obtain ⟨q,hq⟩:∃q,q=(1-((x:Int)+1000000000000000000-bw-(y:Int))/1000000000000000000).toNat:=⟨_,rfl⟩;rw[←hzz,←hq];have key:z+y+bw.toNat=x+au*q:=by unfold au;omega
 have e6:au^k*z+au^k*y+au^k*bw.toNat=au^k*x+au^k*(au*q):=by
  rw[←Nat.mul_add,←Nat.mul_add,key,Nat.mul_add]
 rw[Nat.mul_assoc];omega
theorem Ih {zs:List Nat} {n:Nat} {bw:Int} {vx vy:Nat} (hz:zs.length=n) (hs:zi au zs) (h0:0≤bw) (h1:bw≤1) (hle:vy≤vx) (h:val au zs+vy=vx+au^n*bw.toNat):val au zs=vx-vy:=by
 have hv:=gj hs;rw[hz] at hv;rcases (by omega:bw=0∨bw=1) with rfl | rfl
 · simp at h;omega
 · simp at h;omega
set_option maxRecDepth 100000 in
set_option maxHeartbeats 400000 in
theorem lg (A B:Option Addr) (c d:Nat) (xs ys:List Nat) (w:World) (hx:ay w A xs) (hy:ay w B ys) (hs:zi au xs) (ht:zi au ys)
 (hl:xs.length≤1048576) (hl':ys.length≤xs.length) (hle:val au ys≤val au xs) :
 Calls prog 132 #[.slice A xs.length c,.slice B ys.length d] w (Cx w au xs.length (val au xs-val au ys)):=by
 have hmk:=VO xs.length om;have K6:=Lib.hid hle;clear hle;go_enter func132,ntmps132
 go_wp2
 go_loopw [6,14] (fun cv v wr=>∃(k:Nat) (zs:List Nat) (bw:Int),k≤xs.length∧v= .int .i64 k∧cv= .int .u64 bw∧0≤bw∧bw≤1∧zs.length=k∧zi au zs∧
  val au zs+val au (ys.take k)=val au (xs.take k)+au^k*bw.toNat∧Row wr w.heap.size xs.length zs∧Below w.heap.size w wr) (fun _ v _=>xs.length-(intOf v).toNat)
 case atStart=>exact ⟨0,[],0,Nat.zero_le _,rfl,rfl,om,om,rfl,jg,by simp[val],Row.made w _,(Below.refl _ _).alloc (Nat.le_refl _) _⟩
 case round=>
  obtain ⟨k,zs,bw,hk,rfl,rfl,hc0,hc1,hzl,hzs,hval,hrow,hbel⟩:=hrel;have HV:=Lib.hid hval;have HZ:=Lib.hid hzl;clear hval hzl;by_cases hlt':k<xs.length
  · have hcell:=hrow.cell (j:=k) om;have hfro:=hrow.frozen k;have hlt:=hrow.lt;obtain ⟨b,o,rfl,hb,hc⟩:=hx.2 om;have hca:wr.cell? ⟨b,o+k,none⟩=some (.int .u64 (nth xs k)):=(hbel.cell (p:=⟨b,o+k,none⟩) hb).trans (hc k hlt');have hxk:nth xs k<1000000000000000000:=qj (by unfold au;omega) hs k;have CK:=zw xs k;have hyk:nth ys k<1000000000000000000:=qj (by unfold au;omega) ht k;have ai0:=zw ys k;clear hc;by_cases hky:k<ys.length
    · obtain ⟨b',o',rfl,hb',hc'⟩:=hy.2 om;have hcb:wr.cell? ⟨b',o'+k,none⟩=some (.int .u64 (nth ys k)):=(hbel.cell (p:=⟨b',o'+k,none⟩) hb').trans (hc' k hky);clear hc';go_wp2
      go_roundw
      case rel=>exact ⟨k+1,zs++ [((nth xs k+1000000000000000000-bw-nth ys k)%1000000000000000000).toNat],1-(nth xs k+1000000000000000000-bw-nth ys k)/1000000000000000000,om,by go_num,rfl,om,om,by simp[HZ.out],
       vn hzs (by unfold au;omega),oO HZ.out hc0 hc1 hyk HV.out hxk,hrow.bE _ om HZ.out om,hbel.setCell (Nat.le_refl _) _⟩
      case measure=>simp[intOf];omega
    · have hy0:nth ys k=0:=xa ys k om;have HY0:=Lib.hid hy0;clear hy0;have hst:=oO (xs:=xs) (ys:=ys) HZ.out hc0 hc1 hyk HV.out hxk;rw[HY0.out,Int.sub_zero] at hst;have HST:=Lib.hid hst;clear hst;go_wp2
      go_roundw
      case rel=>exact ⟨k+1,zs++ [((nth xs k+1000000000000000000-bw)%1000000000000000000).toNat],1-(nth xs k+1000000000000000000-bw)/1000000000000000000,om,by go_num,rfl,om,om,by simp[HZ.out],
       vn hzs (by unfold au;omega),HST.out,hrow.bE _ om HZ.out om,hbel.setCell (Nat.le_refl _) _⟩
      case measure=>simp[intOf];omega
  · obtain rfl:k=xs.length:=om;have hv:=HV.out;rw[yr _ _ (Nat.le_refl _),yr _ _ om] at hv;have Bd:=Lib.hid hv;clear hv;go_wp2
    go_ret
    exact ⟨w.heap.size,zs,by simp[HZ.out],hrow,HZ.out,hzs,Ih HZ.out hzs hc0 hc1 K6.out Bd.out,Nat.le_refl _,hbel⟩
theorem xX {P Q:Prop} (k:Q) (h:(Unit→Q)→P:=by
 intro zK;refine bodyPost_ret (v:=.tuple #[.agg #[.bool false,.slice none 0 0],.int .i64 3]) (by simp[results,Tryz.results114,go_sem,r0,r1]) rfl ?_;exact zK ()):P:=h fun _=>k
theorem xY {P Q:Prop} (k:Q) (h:(Unit→Q)→P:=by
 intro zK;refine bodyPost_ret (v:=.tuple #[.agg #[.bool (decide (num n1 xs+num n2 ys<0)),.slice A4 (limbs (num n1 xs+num n2 ys)).length c4],.int .i64 0]) (by simp[results,Tryz.results114,go_sem,r0,r1]) rfl ?_;exact zK ()):P:=h fun _=>k
theorem MU {P:Prop} (h:P:=by
 rw[h,jx,jx];cases n1<;>cases n2<;>simp[bg] at hne ⊢ <;>omega):P:=h
section
variable (A B:Option Addr) (c d:Nat) (xs ys:List Nat) (w:World)
set_option maxHeartbeats 800000 in
theorem Ii (n1 n2:Bool) (hx:ay w A xs) (hy:ay w B ys) (hl:xs.length≤9223372036854775807) (hl':ys.length≤9223372036854775807) (hg:zm n1 xs=false) :
 Calls prog 114 #[.agg #[.bool n1,.slice A xs.length c],.agg #[.bool n2,.slice B ys.length d]] w (yb w 0 3):=by
 go_enter func114,ntmps114
 go_wp2_with fail
 refine (ye n1 c _ A xs hl (((hx.alloc _).alloc _).alloc _)).mono ?_;rintro e w1 ⟨rfl,hb1⟩;have X1:=(((aA.new w 24 #[.bool n1,.slice A xs.length c]).alloc (.cells #[.bool n2,.slice B ys.length d] 24)).alloc (.cells #[.bool false,.slice none 0 0] 24)).below hb1 (by simp;omega);have Y1:=((aA.new (w.alloc (.cells #[.bool n1,.slice A xs.length c] 24)) 24 #[.bool n2,.slice B ys.length d]).alloc (.cells #[.bool false,.slice none 0 0] 24)).below hb1 (by simp);have R1:=(aA.new ((w.alloc (.cells #[.bool n1,.slice A xs.length c] 24)).alloc (.cells #[.bool n2,.slice B ys.length d] 24)) 24 #[.bool false,.slice none 0 0]).below hb1 (by simp);have hx1:=(((hx.alloc (.cells #[.bool n1,.slice A xs.length c] 24)).alloc (.cells #[.bool n2,.slice B ys.length d] 24)).alloc (.cells #[.bool false,.slice none 0 0] 24)).below hb1 (Nat.le_refl _);have hy1:=(((hy.alloc (.cells #[.bool n1,.slice A xs.length c] 24)).alloc (.cells #[.bool n2,.slice B ys.length d] 24)).alloc (.cells #[.bool false,.slice none 0 0] 24)).below hb1 (Nat.le_refl _);have L1:Below w.heap.size w w1:=((((Below.refl _ _).alloc (Nat.le_refl _) _).alloc (by simp) _).alloc (by simp;omega) _).trans (hb1.mono (by simp;omega));simp only[World.size_alloc] at X1 Y1 R1
 clear hb1;obtain ⟨x0,x1,x2,x3⟩:=X1.two;obtain ⟨y0,y1,y2,y3⟩:=Y1.two;obtain ⟨r0,r1,r2,r3⟩:=R1.two;go_wp2
 refine xX ?_;exact kV L1 om _ _
set_option maxHeartbeats 800000 in
theorem Ij (n1 n2:Bool) (hx:ay w A xs) (hy:ay w B ys) (hl:xs.length≤9223372036854775807) (hl':ys.length≤9223372036854775807) (hg:zm n1 xs=true) (hk:zm n2 ys=false) :
 Calls prog 114 #[.agg #[.bool n1,.slice A xs.length c],.agg #[.bool n2,.slice B ys.length d]] w (yb w 0 3):=by
 go_enter func114,ntmps114
 go_wp2_with fail
 refine (ye n1 c _ A xs hl (((hx.alloc _).alloc _).alloc _)).mono ?_;rintro e w1 ⟨rfl,hb1⟩;have X1:=(((aA.new w 24 #[.bool n1,.slice A xs.length c]).alloc (.cells #[.bool n2,.slice B ys.length d] 24)).alloc (.cells #[.bool false,.slice none 0 0] 24)).below hb1 (by simp;omega);have Y1:=((aA.new (w.alloc (.cells #[.bool n1,.slice A xs.length c] 24)) 24 #[.bool n2,.slice B ys.length d]).alloc (.cells #[.bool false,.slice none 0 0] 24)).below hb1 (by simp);have R1:=(aA.new ((w.alloc (.cells #[.bool n1,.slice A xs.length c] 24)).alloc (.cells #[.bool n2,.slice B ys.length d] 24)) 24 #[.bool false,.slice none 0 0]).below hb1 (by simp);have hx1:=(((hx.alloc (.cells #[.bool n1,.slice A xs.length c] 24)).alloc (.cells #[.bool n2,.slice B ys.length d] 24)).alloc (.cells #[.bool false,.slice none 0 0] 24)).below hb1 (Nat.le_refl _);have hy1:=(((hy.alloc (.cells #[.bool n1,.slice A xs.length c] 24)).alloc (.cells #[.bool n2,.slice B ys.length d] 24)).alloc (.cells #[.bool false,.slice none 0 0] 24)).below hb1 (Nat.le_refl _);have L1:Below w.heap.size w w1:=((((Below.refl _ _).alloc (Nat.le_refl _) _).alloc (by simp) _).alloc (by simp;omega) _).trans (hb1.mono (by simp;omega));simp only[World.size_alloc] at X1 Y1 R1
 clear hb1;obtain ⟨x0,x1,x2,x3⟩:=X1.two;obtain ⟨y0,y1,y2,y3⟩:=Y1.two;go_wp2_with fail
 refine (ye n2 d _ B ys hl' hy1).mono ?_;rintro e w2 ⟨rfl,hb2⟩;have X2:=X1.below hb2 X1.lt;have Y2:=Y1.below hb2 Y1.lt;have R2:=R1.below hb2 R1.lt;have hx2:=hx1.below hb2 (Nat.le_refl _);have hy2:=hy1.below hb2 (Nat.le_refl _);have L2:=L1.trans (hb2.mono L1.size);clear x0 x1 x2 x3 y0 y1 y2 y3 X1 Y1 R1 hx1 hy1 L1 hb2;obtain ⟨x0,x1,x2,x3⟩:=X2.two;obtain ⟨y0,y1,y2,y3⟩:=Y2.two;have hz:w.heap.size+1+1<w2.heap.size:=R2.lt;obtain ⟨r0,r1,r2,r3⟩:=R2.two;go_wp2
 refine xX ?_;exact kV L2 om _ _
set_option maxHeartbeats 800000 in
theorem           sG (neg : Bool) (hx :   ay w A xs) (hy :   ay w B ys) (hg :    zm neg xs = true) (hk :    zm neg ys = true) (hf : (num neg xs + num neg ys).natAbs <  au ^ 30) :
 Calls prog 114 #[.agg #[.bool neg, .slice A xs.length c], .agg #[.bool neg, .slice B ys.length d]] w (       yb w (num neg xs + num neg ys) 0) := by
 obtain ⟨hs, hn, hl, _⟩ :=         yh hg;obtain ⟨ht, hm, hl', _⟩ :=         yh hk;have hsum : ∀ zs, val  au zs = val  au xs + val  au ys →  bg neg (val  au zs) = num neg xs + num neg ys := fun zs h => by
  rw [h,     jx,     jx]; cases neg <;> simp [ bg] <;> omega
 have hfit : ∀ zs, val  au zs = val  au xs + val  au ys → val  au zs <  au ^ 30 := fun zs h => by
  have := hsum zs h; rw [← this,         vo] at hf; exact hf
 have HS := Lib.hid hsum; have HF := Lib.hid hfit;clear hsum hfit hf;go_enter func114, ntmps114
 go_wp2_with fail
 refine (      ye neg c _ A xs om (((hx.alloc _).alloc _).alloc _)).mono ?_;rintro e w1 ⟨rfl, hb1⟩;have X1 := ((( aA.new w 24 #[.bool neg, .slice A xs.length c]).alloc (.cells #[.bool neg, .slice B ys.length d] 24)).alloc (.cells #[.bool false, .slice none 0 0] 24)).below hb1 (by simp; omega);have Y1 := (( aA.new (w.alloc (.cells #[.bool neg, .slice A xs.length c] 24)) 24 #[.bool neg, .slice B ys.length d]).alloc (.cells #[.bool false, .slice none 0 0] 24)).below hb1 (by simp);have R1 := ( aA.new ((w.alloc (.cells #[.bool neg, .slice A xs.length c] 24)).alloc (.cells #[.bool neg, .slice B ys.length d] 24)) 24 #[.bool false, .slice none 0 0]).below hb1 (by simp);have hx1 := (((hx.alloc (.cells #[.bool neg, .slice A xs.length c] 24)).alloc (.cells #[.bool neg, .slice B ys.length d] 24)).alloc (.cells #[.bool false, .slice none 0 0] 24)).below hb1 (Nat.le_refl _);have hy1 := (((hy.alloc (.cells #[.bool neg, .slice A xs.length c] 24)).alloc (.cells #[.bool neg, .slice B ys.length d] 24)).alloc (.cells #[.bool false, .slice none 0 0] 24)).below hb1 (Nat.le_refl _);have L1 : Below w.heap.size w w1 := ((((Below.refl _ _).alloc (Nat.le_refl _) _).alloc (by simp) _).alloc (by simp; omega) _).trans (hb1.mono (by simp; omega));simp only [World.size_alloc] at X1 Y1 R1
 clear hb1;obtain ⟨x0, x1, x2, x3⟩ := X1.two;obtain ⟨y0, y1, y2, y3⟩ := Y1.two;go_wp2_with fail
 refine (      ye neg d _ B ys om hy1).mono ?_;rintro e w2 ⟨rfl, hb2⟩;have X2 := X1.below hb2 X1.lt; have Y2 := Y1.below hb2 Y1.lt; have R2 := R1.below hb2 R1.lt;have hx2 := hx1.below hb2 (Nat.le_refl _); have hy2 := hy1.below hb2 (Nat.le_refl _);have L2 := L1.trans (hb2.mono L1.size);clear x0 x1 x2 x3 y0 y1 y2 y3 X1 Y1 R1 hx1 hy1 L1 hb2;obtain ⟨x0, x1, x2, x3⟩ := X2.two;obtain ⟨y0, y1, y2, y3⟩ := Y2.two;have hz : w.heap.size + 1 + 1 < w2.heap.size := R2.lt;go_wp2_with fail
 go_region_held3 (fun w' => w'.cell? ⟨w.heap.size, 0, none⟩ = some (.bool neg) ∧ w'.cell? ⟨w.heap.size, 1, none⟩ = some (.slice A xs.length c) ∧ w'.cell? ⟨w.heap.size + 1, 1, none⟩ = some (.slice B ys.length d))
  (first | exact ⟨x0, x1, y1⟩ | exact ⟨u0, u1, v1⟩ | exact ⟨p0, p1, q1⟩ | (refine ⟨?_, ?_, ?_⟩ <;> (rw [World.cell?_setCell_other _ _ _ _ (by simp), World.cell?_setCell_other _ _ _ _ (by simp)]; assumption)))
  (first
   | (go_at_call 131; refine (      kZ A B c d xs ys _ (by exact hx2.drew) (by exact hy2.drew) hs ht om om).mono ?_; rintro e w3 ⟨g, zs, rfl, hrow, hzl, hzs, hzv, hge, hb3⟩; have X3 := X2.drew.below hb3 X2.lt; have Y3 := Y2.drew.below hb3 Y2.lt; have R3 := R2.drew.below hb3 R2.lt; have L3 := L2.drew.trans (hb3.mono L2.size); obtain ⟨u0, u1, u2, u3⟩ := X3.two; obtain ⟨v0, v1, v2, v3⟩ := Y3.two; have HZ := Lib.hid hzl; have HE := Lib.hid (HS.out zs hzv); have HW := Lib.hid hzv; clear hzl hzv)
   | (go_at_call 129; refine (     ymk neg _ _ zs _ (by exact hrow.nums HZ.out (     VN hzs)) hzs (by have := HZ.out; omega) (HF.out zs HW.out)).mono ?_; rintro e w4 ⟨A4, c4, rfl, hown, hb4⟩; rw [HE.out] at hown ⊢; obtain ⟨p0, p1, p2, p3⟩ := (X3.below hb4 X3.lt).two; obtain ⟨q0, q1, q2, q3⟩ := (Y3.below hb4 Y3.lt).two; obtain ⟨r0, r1, r2, r3⟩ := (R3.below hb4 R3.lt).two; have L4 := L3.trans (hb4.mono L3.size); have hr3 := R3.lt))
 go_wp2
 refine bodyPost_ret (v := .tuple #[.agg #[.bool (decide (num neg xs + num neg ys < 0)), .slice A4 (limbs (num neg xs + num neg ys)).length c4], .int .i64 0]) (by simp [results, Tryz.results114, go_sem, r0, r1]) rfl ?_;exact     ymv hown L4 om hr3 _ _
set_option maxHeartbeats 800000 in
theorem          xZ (neg : Bool) (hx :   ay w A xs) (hy :   ay w B ys) (hg :    zm neg xs = true) (hk :    zm neg ys = true) (hf :  au ^ 30 ≤ (num neg xs + num neg ys).natAbs) :
 Calls prog 114 #[.agg #[.bool neg, .slice A xs.length c], .agg #[.bool neg, .slice B ys.length d]] w (       yb w 0 7) := by
 obtain ⟨hs, hn, hl, _⟩ :=         yh hg;obtain ⟨ht, hm, hl', _⟩ :=         yh hk;have hsum : ∀ zs, val  au zs = val  au xs + val  au ys →  bg neg (val  au zs) = num neg xs + num neg ys := fun zs h => by
  rw [h,     jx,     jx]; cases neg <;> simp [ bg] <;> omega
 have hfit : ∀ zs, val  au zs = val  au xs + val  au ys →  au ^ 30 ≤ val  au zs := fun zs h => by
  have := hsum zs h; rw [← this,         vo] at hf; exact hf
 have HS := Lib.hid hsum; have HF := Lib.hid hfit;clear hsum hfit hf;go_enter func114, ntmps114
 go_wp2_with fail
 refine (      ye neg c _ A xs om (((hx.alloc _).alloc _).alloc _)).mono ?_;rintro e w1 ⟨rfl, hb1⟩;have X1 := ((( aA.new w 24 #[.bool neg, .slice A xs.length c]).alloc (.cells #[.bool neg, .slice B ys.length d] 24)).alloc (.cells #[.bool false, .slice none 0 0] 24)).below hb1 (by simp; omega);have Y1 := (( aA.new (w.alloc (.cells #[.bool neg, .slice A xs.length c] 24)) 24 #[.bool neg, .slice B ys.length d]).alloc (.cells #[.bool false, .slice none 0 0] 24)).below hb1 (by simp);have R1 := ( aA.new ((w.alloc (.cells #[.bool neg, .slice A xs.length c] 24)).alloc (.cells #[.bool neg, .slice B ys.length d] 24)) 24 #[.bool false, .slice none 0 0]).below hb1 (by simp);have hx1 := (((hx.alloc (.cells #[.bool neg, .slice A xs.length c] 24)).alloc (.cells #[.bool neg, .slice B ys.length d] 24)).alloc (.cells #[.bool false, .slice none 0 0] 24)).below hb1 (Nat.le_refl _);have hy1 := (((hy.alloc (.cells #[.bool neg, .slice A xs.length c] 24)).alloc (.cells #[.bool neg, .slice B ys.length d] 24)).alloc (.cells #[.bool false, .slice none 0 0] 24)).below hb1 (Nat.le_refl _);have L1 : Below w.heap.size w w1 := ((((Below.refl _ _).alloc (Nat.le_refl _) _).alloc (by simp) _).alloc (by simp; omega) _).trans (hb1.mono (by simp; omega));simp only [World.size_alloc] at X1 Y1 R1
 clear hb1;obtain ⟨x0, x1, x2, x3⟩ := X1.two;obtain ⟨y0, y1, y2, y3⟩ := Y1.two;go_wp2_with fail
 refine (      ye neg d _ B ys om hy1).mono ?_;rintro e w2 ⟨rfl, hb2⟩;have X2 := X1.below hb2 X1.lt; have Y2 := Y1.below hb2 Y1.lt; have R2 := R1.below hb2 R1.lt;have hx2 := hx1.below hb2 (Nat.le_refl _); have hy2 := hy1.below hb2 (Nat.le_refl _);have L2 := L1.trans (hb2.mono L1.size);clear x0 x1 x2 x3 y0 y1 y2 y3 X1 Y1 R1 hx1 hy1 L1 hb2;obtain ⟨x0, x1, x2, x3⟩ := X2.two;obtain ⟨y0, y1, y2, y3⟩ := Y2.two;have hz : w.heap.size + 1 + 1 < w2.heap.size := R2.lt;go_wp2_with fail
 go_region_held3 (fun w' => w'.cell? ⟨w.heap.size, 0, none⟩ = some (.bool neg) ∧ w'.cell? ⟨w.heap.size, 1, none⟩ = some (.slice A xs.length c) ∧ w'.cell? ⟨w.heap.size + 1, 1, none⟩ = some (.slice B ys.length d))
  (first | exact ⟨x0, x1, y1⟩ | exact ⟨u0, u1, v1⟩ | exact ⟨p0, p1, q1⟩ | (refine ⟨?_, ?_, ?_⟩ <;> (rw [World.cell?_setCell_other _ _ _ _ (by simp), World.cell?_setCell_other _ _ _ _ (by simp)]; assumption)))
  (first
   | (go_at_call 131; refine (      kZ A B c d xs ys _ (by exact hx2.drew) (by exact hy2.drew) hs ht om om).mono ?_; rintro e w3 ⟨g, zs, rfl, hrow, hzl, hzs, hzv, hge, hb3⟩; have X3 := X2.drew.below hb3 X2.lt; have Y3 := Y2.drew.below hb3 Y2.lt; have R3 := R2.drew.below hb3 R2.lt; have L3 := L2.drew.trans (hb3.mono L2.size); obtain ⟨u0, u1, u2, u3⟩ := X3.two; obtain ⟨v0, v1, v2, v3⟩ := Y3.two; have HZ := Lib.hid hzl; have HE := Lib.hid (HS.out zs hzv); have HW := Lib.hid hzv; clear hzl hzv)
   | (go_at_call 129; refine (     Fu neg _ _ zs _ (by exact hrow.nums HZ.out (     VN hzs)) hzs (by have := HZ.out; omega) (HF.out zs HW.out)).mono ?_; rintro e w4 ⟨A4, c4, rfl, hown, hb4⟩; have _t := HE; obtain ⟨p0, p1, p2, p3⟩ := (X3.below hb4 X3.lt).two; obtain ⟨q0, q1, q2, q3⟩ := (Y3.below hb4 Y3.lt).two; obtain ⟨r0, r1, r2, r3⟩ := (R3.below hb4 R3.lt).two; have L4 := L3.trans (hb4.mono L3.size); have hr3 := R3.lt))
 go_wp2
 refine bodyPost_ret (v := .tuple #[.agg #[.bool (decide ((0 : Int) < 0)), .slice A4 (limbs 0).length c4], .int .i64 7]) (by simp [results, Tryz.results114, go_sem, r0, r1]) rfl ?_;exact     ymv hown L4 om hr3 _ _
set_option maxHeartbeats 800000 in
theorem          yA (n1 n2 : Bool) (hx :   ay w A xs) (hy :   ay w B ys) (hg :    zm n1 xs = true) (hk :    zm n2 ys = true) (hne : (n1 == n2) = false) (hle : val  au ys ≤ val  au xs) :
 Calls prog 114 #[.agg #[.bool n1, .slice A xs.length c], .agg #[.bool n2, .slice B ys.length d]] w (       yb w (num n1 xs + num n2 ys) 0) := by
 obtain ⟨hs, hn, hl, _⟩ :=         yh hg;obtain ⟨ht, hm, hl', _⟩ :=         yh hk;have hsum : ∀ zs, val  au zs = val  au xs - val  au ys →  bg n1 (val  au zs) = num n1 xs + num n2 ys := fun zs h => by
  exact     MU
 have hfit : ∀ zs, val  au zs = val  au xs - val  au ys → val  au zs <  au ^ 30 := fun zs h => by
  have :=     gj hs;have h3 :  au ^ xs.length ≤  au ^ 30 := Nat.pow_le_pow_right (by unfold  au; omega) om;omega
 have hlen : ys.length ≤ xs.length := by
  rcases Nat.lt_or_ge xs.length ys.length with h | h
  · have :=               kk      yq hs hm h; omega
  · exact h
 have hq : ¬   rZ (val  au xs) (val  au ys) < 0 := by unfold   rZ; split <;> (try split) <;> omega
 have HS := Lib.hid hsum; have HF := Lib.hid hfit; have HL := Lib.hid hlen; have  K6 := Lib.hid hle;clear hsum hfit hlen hle;go_enter func114, ntmps114
 go_wp2_with fail
 refine (      ye n1 c _ A xs om (((hx.alloc _).alloc _).alloc _)).mono ?_;rintro e w1 ⟨rfl, hb1⟩;have X1 := ((( aA.new w 24 #[.bool n1, .slice A xs.length c]).alloc (.cells #[.bool n2, .slice B ys.length d] 24)).alloc (.cells #[.bool false, .slice none 0 0] 24)).below hb1 (by simp; omega);have Y1 := (( aA.new (w.alloc (.cells #[.bool n1, .slice A xs.length c] 24)) 24 #[.bool n2, .slice B ys.length d]).alloc (.cells #[.bool false, .slice none 0 0] 24)).below hb1 (by simp);have R1 := ( aA.new ((w.alloc (.cells #[.bool n1, .slice A xs.length c] 24)).alloc (.cells #[.bool n2, .slice B ys.length d] 24)) 24 #[.bool false, .slice none 0 0]).below hb1 (by simp);have hx1 := (((hx.alloc (.cells #[.bool n1, .slice A xs.length c] 24)).alloc (.cells #[.bool n2, .slice B ys.length d] 24)).alloc (.cells #[.bool false, .slice none 0 0] 24)).below hb1 (Nat.le_refl _);have hy1 := (((hy.alloc (.cells #[.bool n1, .slice A xs.length c] 24)).alloc (.cells #[.bool n2, .slice B ys.length d] 24)).alloc (.cells #[.bool false, .slice none 0 0] 24)).below hb1 (Nat.le_refl _);have L1 : Below w.heap.size w w1 := ((((Below.refl _ _).alloc (Nat.le_refl _) _).alloc (by simp) _).alloc (by simp; omega) _).trans (hb1.mono (by simp; omega));simp only [World.size_alloc] at X1 Y1 R1
 clear hb1;obtain ⟨x0, x1, x2, x3⟩ := X1.two;obtain ⟨y0, y1, y2, y3⟩ := Y1.two;go_wp2_with fail
 refine (      ye n2 d _ B ys om hy1).mono ?_;rintro e w2 ⟨rfl, hb2⟩;have X2 := X1.below hb2 X1.lt; have Y2 := Y1.below hb2 Y1.lt; have R2 := R1.below hb2 R1.lt;have hx2 := hx1.below hb2 (Nat.le_refl _); have hy2 := hy1.below hb2 (Nat.le_refl _);have L2 := L1.trans (hb2.mono L1.size);clear x0 x1 x2 x3 y0 y1 y2 y3 X1 Y1 R1 hx1 hy1 L1 hb2;obtain ⟨x0, x1, x2, x3⟩ := X2.two;obtain ⟨y0, y1, y2, y3⟩ := Y2.two;have hz : w.heap.size + 1 + 1 < w2.heap.size := R2.lt;go_wp2_with fail
 refine (     yiv A B c d xs ys _ hx2 hy2 hs ht hn hm om om).mono ?_;rintro e w2' ⟨rfl, nq, rfl⟩;generalize   rZ (val  au xs) (val  au ys) = q at hq ⊢
 have X2 := X2.drewN nq; have Y2 := Y2.drewN nq; have R2 := R2.drewN nq;have hx2 := hx2.drewN nq; have hy2 := hy2.drewN nq;have L2 :=          jn L2 nq;generalize w2.drewN nq = wq at *
 obtain ⟨x0, x1, x2, x3⟩ := X2.two;obtain ⟨y0, y1, y2, y3⟩ := Y2.two;have hz : w.heap.size + 1 + 1 < wq.heap.size := R2.lt;go_wp2_with fail
 go_region_held3 (fun w' => w'.cell? ⟨w.heap.size, 0, none⟩ = some (.bool n1) ∧ w'.cell? ⟨w.heap.size, 1, none⟩ = some (.slice A xs.length c) ∧ w'.cell? ⟨w.heap.size + 1, 1, none⟩ = some (.slice B ys.length d))
  (first | exact ⟨x0, x1, y1⟩ | exact ⟨u0, u1, v1⟩ | exact ⟨p0, p1, q1⟩ | (refine ⟨?_, ?_, ?_⟩ <;> (rw [World.cell?_setCell_other _ _ _ _ (by simp), World.cell?_setCell_other _ _ _ _ (by simp)]; assumption)))
  (first
   | (go_at_call 132; refine (      lg A B c d xs ys _ (by exact hx2.drew) (by exact hy2.drew) hs ht om HL.out  K6.out).mono ?_; rintro e w3 ⟨g, zs, rfl, hrow, hzl, hzs, hzv, hge, hb3⟩; have X3 := X2.drew.below hb3 X2.lt; have Y3 := Y2.drew.below hb3 Y2.lt; have R3 := R2.drew.below hb3 R2.lt; have L3 := L2.drew.trans (hb3.mono L2.size); obtain ⟨u0, u1, u2, u3⟩ := X3.two; obtain ⟨v0, v1, v2, v3⟩ := Y3.two; have HZ := Lib.hid hzl; have HE := Lib.hid (HS.out zs hzv); have HW := Lib.hid hzv; clear hzl hzv)
   | (go_at_call 129; refine (     ymk n1 _ _ zs _ (by exact hrow.nums HZ.out (     VN hzs)) hzs (by have := HZ.out; omega) (HF.out zs HW.out)).mono ?_; rintro e w4 ⟨A4, c4, rfl, hown, hb4⟩; rw [HE.out] at hown ⊢; obtain ⟨p0, p1, p2, p3⟩ := (X3.below hb4 X3.lt).two; obtain ⟨q0, q1, q2, q3⟩ := (Y3.below hb4 Y3.lt).two; obtain ⟨r0, r1, r2, r3⟩ := (R3.below hb4 R3.lt).two; have L4 := L3.trans (hb4.mono L3.size); have hr3 := R3.lt))
 go_wp2
 refine       xY ?_;exact     ymv hown L4 om hr3 _ _
set_option maxHeartbeats 800000 in
theorem          yB (n1 n2 : Bool) (hx :   ay w A xs) (hy :   ay w B ys) (hg :    zm n1 xs = true) (hk :    zm n2 ys = true) (hne : (n1 == n2) = false) (hle : val  au xs < val  au ys) :
 Calls prog 114 #[.agg #[.bool n1, .slice A xs.length c], .agg #[.bool n2, .slice B ys.length d]] w (       yb w (num n1 xs + num n2 ys) 0) := by
 obtain ⟨hs, hn, hl, _⟩ :=         yh hg;obtain ⟨ht, hm, hl', _⟩ :=         yh hk;have hsum : ∀ zs, val  au zs = val  au ys - val  au xs →  bg n2 (val  au zs) = num n1 xs + num n2 ys := fun zs h => by
  exact     MU
 have hfit : ∀ zs, val  au zs = val  au ys - val  au xs → val  au zs <  au ^ 30 := fun zs h => by
  have :=     gj ht;have h3 :  au ^ ys.length ≤  au ^ 30 := Nat.pow_le_pow_right (by unfold  au; omega) om;omega
 have hlen : xs.length ≤ ys.length := by
  rcases Nat.lt_or_ge ys.length xs.length with h | h
  · have :=               kk      yq ht hn h; omega
  · exact h
 have hq :   rZ (val  au xs) (val  au ys) < 0 := by unfold   rZ; rw [if_pos hle]; omega
 have HS := Lib.hid hsum; have HF := Lib.hid hfit; have HL := Lib.hid hlen; have  K6 := Lib.hid hle;clear hsum hfit hlen hle;go_enter func114, ntmps114
 go_wp2_with fail
 refine (      ye n1 c _ A xs om (((hx.alloc _).alloc _).alloc _)).mono ?_;rintro e w1 ⟨rfl, hb1⟩;have X1 := ((( aA.new w 24 #[.bool n1, .slice A xs.length c]).alloc (.cells #[.bool n2, .slice B ys.length d] 24)).alloc (.cells #[.bool false, .slice none 0 0] 24)).below hb1 (by simp; omega);have Y1 := (( aA.new (w.alloc (.cells #[.bool n1, .slice A xs.length c] 24)) 24 #[.bool n2, .slice B ys.length d]).alloc (.cells #[.bool false, .slice none 0 0] 24)).below hb1 (by simp);have R1 := ( aA.new ((w.alloc (.cells #[.bool n1, .slice A xs.length c] 24)).alloc (.cells #[.bool n2, .slice B ys.length d] 24)) 24 #[.bool false, .slice none 0 0]).below hb1 (by simp);have hx1 := (((hx.alloc (.cells #[.bool n1, .slice A xs.length c] 24)).alloc (.cells #[.bool n2, .slice B ys.length d] 24)).alloc (.cells #[.bool false, .slice none 0 0] 24)).below hb1 (Nat.le_refl _);have hy1 := (((hy.alloc (.cells #[.bool n1, .slice A xs.length c] 24)).alloc (.cells #[.bool n2, .slice B ys.length d] 24)).alloc (.cells #[.bool false, .slice none 0 0] 24)).below hb1 (Nat.le_refl _);have L1 : Below w.heap.size w w1 := ((((Below.refl _ _).alloc (Nat.le_refl _) _).alloc (by simp) _).alloc (by simp; omega) _).trans (hb1.mono (by simp; omega));simp only [World.size_alloc] at X1 Y1 R1
 clear hb1;obtain ⟨x0, x1, x2, x3⟩ := X1.two;obtain ⟨y0, y1, y2, y3⟩ := Y1.two;go_wp2_with fail
 refine (      ye n2 d _ B ys om hy1).mono ?_;rintro e w2 ⟨rfl, hb2⟩;have X2 := X1.below hb2 X1.lt; have Y2 := Y1.below hb2 Y1.lt; have R2 := R1.below hb2 R1.lt;have hx2 := hx1.below hb2 (Nat.le_refl _); have hy2 := hy1.below hb2 (Nat.le_refl _);have L2 := L1.trans (hb2.mono L1.size);clear x0 x1 x2 x3 y0 y1 y2 y3 X1 Y1 R1 hx1 hy1 L1 hb2;obtain ⟨x0, x1, x2, x3⟩ := X2.two;obtain ⟨y0, y1, y2, y3⟩ := Y2.two;have hz : w.heap.size + 1 + 1 < w2.heap.size := R2.lt;go_wp2_with fail
 refine (     yiv A B c d xs ys _ hx2 hy2 hs ht hn hm om om).mono ?_;rintro e w2' ⟨rfl, nq, rfl⟩;generalize   rZ (val  au xs) (val  au ys) = q at hq ⊢
 have X2 := X2.drewN nq; have Y2 := Y2.drewN nq; have R2 := R2.drewN nq;have hx2 := hx2.drewN nq; have hy2 := hy2.drewN nq;have L2 :=          jn L2 nq;generalize w2.drewN nq = wq at *
 obtain ⟨x0, x1, x2, x3⟩ := X2.two;obtain ⟨y0, y1, y2, y3⟩ := Y2.two;have hz : w.heap.size + 1 + 1 < wq.heap.size := R2.lt;go_wp2_with fail
 have X4 := (((  X2.pO 0 (.bool n2)).pO   1 (.slice B ys.length d)).far (p := ⟨w.heap.size + 1, 0, none⟩) (by simp) (.bool n1)).far (p := ⟨w.heap.size + 1, 1, none⟩) (by simp) (.slice A xs.length c);have Y4 := (((Y2.far (p := ⟨w.heap.size, 0, none⟩) (by simp) (.bool n2)).far (p := ⟨w.heap.size, 1, none⟩) (by simp) (.slice B ys.length d)).pO   0 (.bool n1)).pO   1 (.slice A xs.length c);have R4 := (((R2.far (p := ⟨w.heap.size, 0, none⟩) (by simp; omega) (.bool n2)).far (p := ⟨w.heap.size, 1, none⟩) (by simp; omega) (.slice B ys.length d)).far (p := ⟨w.heap.size + 1, 0, none⟩) (by simp) (.bool n1)).far (p := ⟨w.heap.size + 1, 1, none⟩) (by simp) (.slice A xs.length c);have L4 := (((L2.setCell (p := ⟨w.heap.size, 0, none⟩) (by simp) (.bool n2)).setCell (p := ⟨w.heap.size, 1, none⟩) (by simp) (.slice B ys.length d)).setCell (p := ⟨w.heap.size + 1, 0, none⟩) (by simp) (.bool n1)).setCell (p := ⟨w.heap.size + 1, 1, none⟩) (by simp) (.slice A xs.length c);clear X2 Y2 R2 L2 x0 x1 x2 x3 y0 y1 y2 y3 hz hx2 hy2;generalize (((wq.setCell ⟨w.heap.size, 0, none⟩ (.bool n2)).setCell ⟨w.heap.size, 1, none⟩ (.slice B ys.length d)).setCell ⟨w.heap.size + 1, 0, none⟩ (.bool n1)).setCell ⟨w.heap.size + 1, 1, none⟩ (.slice A xs.length c) = wz at *
 have X5 :  aA wz w.heap.size 24 #[.bool n2, .slice B ys.length d] := X4;have Y5 :  aA wz (w.heap.size + 1) 24 #[.bool n1, .slice A xs.length c] := Y4;obtain ⟨x0, x1, x2, x3⟩ := X5.two;obtain ⟨y0, y1, y2, y3⟩ := Y5.two;have hz : w.heap.size + 1 + 1 < wz.heap.size := R4.lt;go_region_held3 (fun w' => w'.cell? ⟨w.heap.size, 0, none⟩ = some (.bool n2) ∧ w'.cell? ⟨w.heap.size, 1, none⟩ = some (.slice B ys.length d) ∧ w'.cell? ⟨w.heap.size + 1, 1, none⟩ = some (.slice A xs.length c))
  (first | exact ⟨x0, x1, y1⟩ | exact ⟨u0, u1, v1⟩ | exact ⟨p0, p1, q1⟩ | (refine ⟨?_, ?_, ?_⟩ <;> (rw [World.cell?_setCell_other _ _ _ _ (by simp), World.cell?_setCell_other _ _ _ _ (by simp)]; assumption)))
  (first
   | (go_at_call 132; refine (      lg B A d c ys xs _ (by exact hy.below L4.drew (Nat.le_refl _)) (by exact hx.below L4.drew (Nat.le_refl _)) ht hs om HL.out (Nat.le_of_lt  K6.out)).mono ?_; rintro e w3 ⟨g, zs, rfl, hrow, hzl, hzs, hzv, hge, hb3⟩; have X3 := X5.drew.below hb3 X5.lt; have Y3 := Y5.drew.below hb3 Y5.lt; have R3 := R4.drew.below hb3 R4.lt; have L3 := L4.drew.trans (hb3.mono L4.size); obtain ⟨u0, u1, u2, u3⟩ := X3.two; obtain ⟨v0, v1, v2, v3⟩ := Y3.two; have HZ := Lib.hid hzl; have HE := Lib.hid (HS.out zs hzv); have HW := Lib.hid hzv; clear hzl hzv)
   | (go_at_call 129; refine (     ymk n2 _ _ zs _ (by exact hrow.nums HZ.out (     VN hzs)) hzs (by have := HZ.out; omega) (HF.out zs HW.out)).mono ?_; rintro e w4 ⟨A4, c4, rfl, hown, hb4⟩; rw [HE.out] at hown ⊢; obtain ⟨p0, p1, p2, p3⟩ := (X3.below hb4 X3.lt).two; obtain ⟨q0, q1, q2, q3⟩ := (Y3.below hb4 Y3.lt).two; obtain ⟨r0, r1, r2, r3⟩ := (R3.below hb4 R3.lt).two; have L6 := L3.trans (hb4.mono L3.size); have hr3 := R3.lt))
 go_wp2
 refine       xY ?_;exact     ymv hown L6 om hr3 _ _
theorem MV (n1 n2:Bool) (hx:ay w A xs) (hy:ay w B ys) (hl:xs.length≤9223372036854775807) (hl':ys.length≤9223372036854775807) (hg:(zm n1 xs&&zm n2 ys)=false) :
 Calls prog 114 #[.agg #[.bool n1,.slice A xs.length c],.agg #[.bool n2,.slice B ys.length d]] w (yb w 0 3):=by
 cases h:zm n1 xs
 · exact Ii A B c d xs ys w n1 n2 hx hy hl hl' h
 · exact Ij A B c d xs ys w n1 n2 hx hy hl hl' h (by simpa [h] using hg)
theorem sum_lt {n1 n2:Bool} {xs ys:List Nat} (hg:zm n1 xs=true) (hk:zm n2 ys=true) (hne:(n1==n2)=false):(num n1 xs+num n2 ys).natAbs<au^30:=by
 have h1:=CF hg;have h2:=CF hk;have e1:=zfq n1 xs;have e2:=zfq n2 ys;rw[jx,jx] at *;cases n1<;>cases n2<;>simp[bg] at hne h1 h2 ⊢ <;>omega
theorem YT (n1 n2:Bool) (hx:ay w A xs) (hy:ay w B ys) (hg:zm n1 xs=true) (hk:zm n2 ys=true) (hf:(num n1 xs+num n2 ys).natAbs<au^30) :
 Calls prog 114 #[.agg #[.bool n1,.slice A xs.length c],.agg #[.bool n2,.slice B ys.length d]] w (yb w (num n1 xs+num n2 ys) 0):=by
 cases h:n1==n2
 · rcases Nat.lt_or_ge (val au xs) (val au ys) with h1 | h1
   · exact yB A B c d xs ys w n1 n2 hx hy hg hk h h1
   · exact yA A B c d xs ys w n1 n2 hx hy hg hk h h1
 · obtain rfl:n1=n2:=by simpa using h
   exact sG A B c d xs ys w n1 hx hy hg hk hf
theorem Ik (n1 n2:Bool) (hx:ay w A xs) (hy:ay w B ys) (hg:zm n1 xs=true) (hk:zm n2 ys=true) (hf:au^30≤(num n1 xs+num n2 ys).natAbs) :
 Calls prog 114 #[.agg #[.bool n1,.slice A xs.length c],.agg #[.bool n2,.slice B ys.length d]] w (yb w 0 7):=by
 cases h:n1==n2
 · have:=sum_lt hg hk h;omega
 · obtain rfl:n1=n2:=by simpa using h
   exact xZ A B c d xs ys w n1 hx hy hg hk hf
end
theorem MW {P:Prop} (h:P:=by
 intro x hx';simp only[List.mem_cons,List.not_mem_nil,or_false] at hx';omega):P:=h
def B9:Nat:=1000000000
theorem qx:2≤B9:=by unfold B9;omega
theorem Il (w:World) (x y:Int) (a b:Nat) (hx:x=(a:Int)) (hy:y=(b:Int)) :
 ∀j u,([a,b].map fun x:Nat=>Value.int .u64 (x:Int))[j]? =some u→(w.alloc (.cells #[.int .u64 x,.int .u64 y] 25)).cell? ((⟨w.heap.size,0,none⟩:Addr).add j)=some u:=by
 subst hx;subst hy;exact cell_two_new w _ _ _
theorem yC {xs zs:List Nat} {k:Nat} (hz:zs.length=2*k) (h:val B9 zs=val au (xs.take k)) :
 val B9 (zs++ [(nth xs k%1000000000).toNat,(nth xs k/1000000000).toNat])=val au (xs.take (k+1)):=by
 rw[yeq,zu,h,hz];have e:B9^(2*k)=au^k:=by rw[Nat.pow_mul];rfl
 rw[e];congr 1
 congr 1
 simp only[val,Nat.mul_zero,Nat.add_zero]
 unfold nth B9;omega
set_option maxRecDepth 100000 in
set_option maxHeartbeats 400000 in
theorem zqq (A:Option Addr) (c:Nat) (xs:List Nat) (w:World) (hx:ay w A xs) (hs:zi au xs) (hl:xs.length≤1048576) :
 Calls prog 159 #[.slice A xs.length c] w fun e w'=>∃A' c' zs,e= .returned (.slice A' zs.length c')∧Own w' w.heap.size A' c' zs∧zs=aI B9 (val au xs)∧Below w.heap.size w w':=by
 go_enter func159,ntmps159
 go_wp2
 go_loopw [3,8] (fun v i wr=>∃(k:Nat) (A':Option Addr) (c':Nat) (zs:List Nat),k≤xs.length∧i= .int .i64 k∧v= .slice A' zs.length c'∧Own wr w.heap.size A' c' zs∧zs.length=2*k∧zi B9 zs∧
  val B9 zs=val au (xs.take k)∧Below w.heap.size w wr) (fun _ i _=>xs.length-(intOf i).toNat)
 case atStart=>exact ⟨0,none,0,[],Nat.zero_le _,rfl,rfl,Own.nil _ _,rfl,jg,rfl,Below.refl _ _⟩
 case round=>
  obtain ⟨k,A',c',zs,hk,rfl,rfl,hown,hzl,hzs,hzv,hbel⟩:=hrel;have HL:=Lib.hid hzl;have HV:=Lib.hid hzv;by_cases hlt:k<xs.length
  · obtain ⟨b,o,rfl,hb,hc⟩:=hx.2 om;have hca:wr.cell? ⟨b,o+k,none⟩=some (.int .u64 (nth xs k)):=(hbel.cell (p:=⟨b,o+k,none⟩) hb).trans (hc k hlt);have hx0:=zw xs k;have hx1:nth xs k<1000000000000000000:=qj (by unfold au;omega) hs k;have e1:nth xs k%1000000000=(((nth xs k%1000000000).toNat:Nat):Int):=om;have e2:nth xs k/1000000000=(((nth xs k/1000000000).toNat:Nat):Int):=om;have HC:=Lib.hid (Il wr _ _ _ _ e1 e2);have hsz:=hbel.size;clear hc e1 e2 hzl hzv;have YU:Hid (∀x∈ [(nth xs k%1000000000).toNat,(nth xs k/1000000000).toNat],x<18446744073709551616):=by
     exact MW
    have HN:Hid (zs.length+ [(nth xs k%1000000000).toNat,(nth xs k/1000000000).toNat].length≤17592186044416):=by
     have:=HL.out;show zs.length+2≤_;omega
    go_wp2_with (at_builtin;go_loud (refine zoz rfl (.tmp 12) (.tmp 17) rfl w.heap.size A' c' zs rfl (hown.alloc _) [(nth xs k%1000000000).toNat,(nth xs k/1000000000).toNat] ⟨wr.heap.size,0,none⟩ 2 2 rfl rfl (by exact HC.out) YU.out HN.out (by simp;omega) (fun A2 c2 w2 hown2 hg2=>?_)))
    go_roundw
    case rel=>exact ⟨k+1,A2,c2,zs++ [(nth xs k%1000000000).toNat,(nth xs k/1000000000).toNat],om,by go_num,by simp,hown2,by have:=HL.out;simp;omega,
     zpx.2 ⟨hzs,by intro y hy;simp only[List.mem_cons,List.not_mem_nil,or_false] at hy;unfold B9;omega⟩,yC HL.out HV.out,Below.own (hbel.alloc hsz _) (hown.alloc _) (by simp;omega) hg2⟩
    case measure=>simp[intOf];omega
  · obtain rfl:k=xs.length:=om;have hv:=HV.out;rw[yr _ _ (Nat.le_refl _)] at hv;have Bd:=Lib.hid hv;have hle:zs.length≤2097152:=om;clear hv hzl hzv;go_wp2
    go_loop [3] (fun v=>∃(A':Option Addr) (c':Nat) (ys:List Nat),v= .slice A' ys.length c'∧Own wr w.heap.size A' c' ys∧zi B9 ys∧val B9 ys=val au xs∧ys.length≤2097152) (fun v=>lenOf v)
    case atStart=>exact ⟨A',c',zs,rfl,hown,hzs,Bd.out,hle⟩
    case round=>
     obtain ⟨A3,c3,ys,rfl,hown3,hys,hyv,hyl⟩:=hrel;have HY:=Lib.hid hyv;clear hyv hown hzs hle;by_cases h0:ys.length=0
     · obtain rfl:=List.eq_nil_of_length_eq_zero h0;clear h0;go_wp2
       go_ret
       exact ⟨A3,c3,[],rfl,hown3,by rw[←HY.out];rfl,hbel⟩
     · obtain ⟨m,hm⟩:∃m,ys.length=m+1:=⟨ys.length-1,om⟩;obtain ⟨b,o,rfl,hb,hc⟩:=hown3.nums.2 om;have hcell:=hc m om;have HO:=Lib.hid hown3;have HM:=Lib.hid hm;have hm2:m≤2097152:=om;have hmc:m≤c3:=by
        rcases hown3.1.2 with ⟨_,h⟩ | ⟨g,cap,cur,hv,_,_,hle,_⟩
        · omega
        · injection hv;omega
       by_cases hl0:nth ys m=0
       · have hb0:(nth ys m==0)=true:=beq_iff_eq.2 hl0;have HZ:=Lib.hid hl0;clear hc hown3 h0 hl0;rw[hm];go_wp2
         have hml:(ys.take m).length=m:=by rw[List.length_take];omega
         have hv2:val B9 (ys.take m)=val B9 ys:=qp ys m fun j hj hj'=>by
          have e:j=m:=om;have:=HZ.out;rw[e];unfold nth at this;omega
         go_roundw
         case rel=>exact ⟨_,c3,ys.take m,by rw[hml],HO.out.cut (fun e=>by rw[e] at hm;simp at hm) om,vm hys m,hv2.trans HY.out,om⟩
         case measure=>show m<m+1;omega
       · have hb0:(nth ys m==0)=false:=beq_eq_false_iff_ne.2 hl0;have HZ:=Lib.hid hl0;have hd:ys=aI B9 (val au xs):=by
          rw[←HY.out];refine rX qx hys (Or.inr ?_);rw[hm,Nat.add_sub_cancel];unfold nth at hl0;omega
         have HD:=Lib.hid hd;clear hc hown3 h0 hl0 hd;rw[hm];go_wp2
         go_ret
         exact ⟨_,c3,ys,by rw[hm];rfl,HO.out,HD.out,hbel⟩
theorem MX {b:Nat} (l:List Nat) (m:Nat) (h:m<l.length):val b (l.drop m)=l.getD m 0+b*val b (l.drop (m+1)):=by
 rw[List.drop_eq_getElem_cons h];simp[val,List.getD,List.getElem?_eq_getElem h]
theorem drop_set (l:List Nat) (m q:Nat) (h:m<l.length):(l.set m q).drop m=q::l.drop (m+1):=by
 rw[List.drop_eq_getElem_cons (by simpa using h)];simp[List.drop_set_of_lt]
theorem vh {b:Nat} {l:List Nat} (h:zi b l) (m q:Nat) (hq:q<b):zi b (l.set m q):=by
 intro x hx;rcases List.mem_or_eq_of_mem_set hx with h1 | h1
 · exact h x h1
 · subst h1;exact hq
theorem CO {us ys:List Nat} {m:Nat} {rest d:Int} (hm:m<us.length) (hy:ys.length=us.length) (hd:0<d) (h0:0≤rest)
 (h:val B9 (us.drop (m+1))=val B9 (ys.drop (m+1))*d.toNat+rest.toNat) :
 val B9 (us.drop m)=val B9 ((ys.set m ((rest*1000000000+nth us m)/d).toNat).drop m)*d.toNat+((rest*1000000000+nth us m)%d).toNat:=by
 rw[drop_set _ _ _ om,MX us m hm,h];obtain ⟨r,rfl⟩:=Int.eq_ofNat_of_zero_le h0;obtain ⟨e,rfl⟩:=Int.eq_ofNat_of_zero_le (Int.le_of_lt hd);have e1:nth us m=((us.getD m 0:Nat):Int):=by unfold nth;rfl
 rw[e1];generalize us.getD m 0=x
 have e2:(((r:Int)*1000000000+(x:Int))/(e:Int)).toNat=(r*B9+x)/e:=by
  have:((r:Int)*1000000000+(x:Int))=((r*B9+x:Nat):Int):=by unfold B9;omega
  rw[this,←Int.natCast_ediv,Int.toNat_natCast]
 have e3:(((r:Int)*1000000000+(x:Int))%(e:Int)).toNat=(r*B9+x)%e:=by
  have:((r:Int)*1000000000+(x:Int))=((r*B9+x:Nat):Int):=by unfold B9;omega
  rw[this,←Int.natCast_emod,Int.toNat_natCast]
 rw[e2,e3];simp only[Int.toNat_natCast,val]
 have e4:=Nat.div_add_mod (r*B9+x) e;generalize (r*B9+x)/e=q at *
 generalize (r*B9+x)%e=s at *
 generalize val B9 (ys.drop (m+1))=V
 rw[Nat.add_mul,Nat.mul_add,←Nat.mul_assoc,Nat.mul_comm q e,Nat.mul_comm B9 r];omega
theorem yD {T d:Int} (hd:0<d) (h0:0≤T) (hT:T<d*1000000000):0≤T/d∧T/d<1000000000∧0≤T%d∧T%d<d:=
 ⟨Int.ediv_nonneg h0 om,Int.ediv_lt_of_lt_mul hd (by rw[Int.mul_comm];exact hT),Int.emod_nonneg _ om,Int.emod_lt_of_pos _ hd⟩
set_option maxRecDepth 100000 in
set_option maxHeartbeats 400000 in
theorem oP (A:Option Addr) (c:Nat) (us:List Nat) (d:Int) (w:World) (hx:ay w A us) (hs:zi B9 us) (hl:us.length≤1048576) (hd:0<d) (hd9:d<1000000000) :
 Calls prog 160 #[.slice A us.length c,.int .u64 d] w fun e w'=>∃g zs r,e= .returned (.tuple #[.slice (some ⟨g,0,none⟩) zs.length zs.length,.int .u64 r])∧Row w' g zs.length zs∧
  zs.length=us.length∧zi B9 zs∧0≤r∧r<d∧val B9 us=val B9 zs*d.toNat+r.toNat∧w.heap.size≤g∧Below w.heap.size w w':=by
 have hmk:=VO us.length om;have hd0:(d==0)=false:=beq_eq_false_iff_ne.2 om;go_enter func160,ntmps160
 go_wp2
 go_loopw [7,8] (fun rv v wr=>∃(k:Nat) (ys:List Nat) (rest:Int),k≤us.length∧v= .int .i64 ((k:Int)-1)∧rv= .int .u64 rest∧0≤rest∧rest<d∧ys.length=us.length∧zi B9 ys∧
  val B9 (us.drop k)=val B9 (ys.drop k)*d.toNat+rest.toNat∧Row wr w.heap.size us.length ys∧Below w.heap.size w wr) (fun _ v _=>(intOf v+1).toNat)
 case atStart=>
  have h1:=(Row.made w us.length).fill;simp only[List.nil_append,List.length_nil,Nat.sub_zero] at h1
  exact ⟨us.length,List.replicate us.length 0,0,Nat.le_refl _,rfl,rfl,om,hd,by simp,fun x hx=>by rw[List.mem_replicate] at hx;rw[hx.2];unfold B9;omega,by simp[val],h1,(Below.refl _ _).alloc (Nat.le_refl _) _⟩
 case round=>
  obtain ⟨k,ys,rest,hk,rfl,rfl,hr0,hr1,hyl,hys,hval,hrow,hbel⟩:=hrel;have HV:=Lib.hid hval;have HY:=Lib.hid hyl;clear hval hyl;by_cases hk0:k=0
  · subst hk0;go_wp2
    go_ret2
    have hv:=HV.out;simp only[List.drop_zero] at hv
    exact ⟨w.heap.size,ys,rest,by rw[HY.out];rfl,by rw[HY.out];exact hrow,HY.out,hys,hr0,hr1,hv,Nat.le_refl _,hbel⟩
  · obtain ⟨m,rfl⟩:∃m,k=m+1:=⟨k-1,om⟩;obtain ⟨b,o,rfl,hb,hc⟩:=hx.2 om;have hca:wr.cell? ⟨b,o+m,none⟩=some (.int .u64 (nth us m)):=(hbel.cell (p:=⟨b,o+m,none⟩) hb).trans (hc m om);have hx0:=zw us m;have hx1:nth us m<1000000000:=qj (by unfold B9;omega) hs m;have hbd:=yD (T:=rest*1000000000+nth us m) hd om om;obtain ⟨q0,q1,q2,q3⟩:=hbd;have hcell:=hrow.cell (j:=m) om;have hfro:=hrow.frozen m;have hlt:=hrow.lt;have hm1:(m:Int)<(us.length:Int):=om;have hm0:(0:Int)≤(m:Int):=om;clear hc;go_wp2
    go_region
    go_wp2
    go_roundw
    case rel=>exact ⟨m,ys.set m ((rest*1000000000+nth us m)/d).toNat,(rest*1000000000+nth us m)%d,om,by go_num,rfl,q2,q3,by rw[List.length_set];exact HY.out,vh hys _ _ (by unfold B9;omega),
     CO om HY.out hd hr0 HV.out,(hrow.setInt _ q0 (by have:=HY.out;omega)).drew,(hbel.setCell (Nat.le_refl _) _).drew⟩
    case measure=>simp[intOf]
theorem yuv (w:World) (x:Int) (a:Nat) (hx:x=(a:Int)) :
 ∀j u,([a].map fun x:Nat=>Value.int .u64 (x:Int))[j]? =some u→(w.alloc (.cells #[.int .u64 x] 25)).cell? ((⟨w.heap.size,0,none⟩:Addr).add j)=some u:=by
 subst hx;intro j u hj;match j,hj with
 | 0,hj=>simp at hj;subst hj;simp[Addr.add]
theorem VP (k:Nat):B9^(2*k)=au^k:=by rw[Nat.pow_mul];rfl
theorem ynq {us zs:List Nat} {k:Nat} (hz:zs.length=k) (h:val au zs=val B9 (us.take (2*k))) (x:Int) (hx:x=nth us (2*k)+1000000000*nth us (2*k+1)) :
 val au (zs++ [x.toNat])=val B9 (us.take (2*(k+1))):=by
 rw[YO,hz,show 2*(k+1)=2*k+1+1 from om,zu,zu,h,Nat.pow_succ,VP];have e:x.toNat=us.getD (2*k) 0+B9*us.getD (2*k+1) 0:=by rw[hx];unfold nth B9;omega
 rw[e,Nat.mul_add,Nat.mul_assoc];omega
set_option maxRecDepth 100000 in
set_option maxHeartbeats 400000 in
theorem zyz (A:Option Addr) (c:Nat) (us:List Nat) (w:World) (hx:ay w A us) (hs:zi B9 us) (hl:us.length≤1048576) :
 Calls prog 161 #[.slice A us.length c] w fun e w'=>∃A' c' zs,e= .returned (.slice A' zs.length c')∧Own w' w.heap.size A' c' zs∧zi au zs∧val au zs=val B9 us∧zs.length≤us.length∧Below w.heap.size w w':=by
 go_enter func161,ntmps161
 go_wp2
 go_loopw [3,4] (fun v i wr=>∃(k:Nat) (A':Option Addr) (c':Nat) (zs:List Nat),2*k≤us.length+1∧i= .int .i64 (2*(k:Int))∧v= .slice A' zs.length c'∧Own wr w.heap.size A' c' zs∧zs.length=k∧zi au zs∧
  val au zs=val B9 (us.take (2*k))∧Below w.heap.size w wr) (fun _ i _=>us.length+2-(intOf i).toNat)
 case atStart=>exact ⟨0,none,0,[],om,rfl,rfl,Own.nil _ _,rfl,jg,rfl,Below.refl _ _⟩
 case round=>
  obtain ⟨k,A',c',zs,hk,rfl,rfl,hown,hzl,hzs,hzv,hbel⟩:=hrel;have HL:=Lib.hid hzl;have HV:=Lib.hid hzv;by_cases hlt:2*k<us.length
  · obtain ⟨b,o,rfl,hb,hc⟩:=hx.2 om;have ek:(2*(k:Int))=((2*k:Nat):Int):=om;have ek1:(2*(k:Int)+1).toNat=2*k+1:=om;have hca:wr.cell? ⟨b,o+2*k,none⟩=some (.int .u64 (nth us (2*k))):=(hbel.cell (p:=⟨b,o+2*k,none⟩) hb).trans (hc (2*k) hlt);have hx0:=zw us (2*k);have hx1:nth us (2*k)<1000000000:=qj (by unfold B9;omega) hs _;have hy0:=zw us (2*k+1);have hy1:nth us (2*k+1)<1000000000:=qj (by unfold B9;omega) hs _;have hsz:=hbel.size;have hi1:(2*(k:Int))<(us.length:Int):=om;have hi0:(0:Int)≤2*(k:Int):=om;by_cases hlt2:2*k+1<us.length
    · have hcb:wr.cell? ⟨b,o+(2*k+1),none⟩=some (.int .u64 (nth us (2*k+1))):=(hbel.cell (p:=⟨b,o+(2*k+1),none⟩) hb).trans (hc (2*k+1) hlt2);have hi2:(2*(k:Int)+1)<(us.length:Int):=om;have e1:nth us (2*k)+1000000000*nth us (2*k+1)=(((nth us (2*k)+1000000000*nth us (2*k+1)).toNat:Nat):Int):=om;have HC:=Lib.hid (yuv wr _ _ e1);have YU:Hid (∀x∈ [(nth us (2*k)+1000000000*nth us (2*k+1)).toNat],x<18446744073709551616):=by
       exact MW
      have HN:Hid (zs.length+ [(nth us (2*k)+1000000000*nth us (2*k+1)).toNat].length≤17592186044416):=by
       have:=HL.out;show zs.length+1≤_;omega
      clear hc e1 hzl hzv ek ek1;go_wp2_with (at_builtin;go_loud (refine zoz rfl (.tmp 29) (.tmp 31) rfl w.heap.size A' c' zs rfl (hown.alloc _) [(nth us (2*k)+1000000000*nth us (2*k+1)).toNat] ⟨wr.heap.size,0,none⟩ 1 1 rfl rfl (by exact HC.out) YU.out HN.out (by simp;omega) (fun A2 c2 w2 hown2 hg2=>?_)))
      go_roundw
      case rel=>exact ⟨k+1,A2,c2,zs++ [(nth us (2*k)+1000000000*nth us (2*k+1)).toNat],om,by go_num,by simp,hown2,by have:=HL.out;simp;omega,
       vn hzs (by unfold au;omega),ynq HL.out HV.out _ rfl,Below.own (hbel.alloc hsz _) (hown.alloc _) (by simp;omega) hg2⟩
      case measure=>simp[intOf];omega
    · have hi2:¬(2*(k:Int)+1)<(us.length:Int):=om;have hy2:nth us (2*k+1)=0:=xa us _ om;have e1:nth us (2*k)=(((nth us (2*k)).toNat:Nat):Int):=om;have HC:=Lib.hid (yuv wr _ _ e1);have YU:Hid (∀x∈ [(nth us (2*k)).toNat],x<18446744073709551616):=by
       exact MW
      have HN:Hid (zs.length+ [(nth us (2*k)).toNat].length≤17592186044416):=by
       have:=HL.out;show zs.length+1≤_;omega
      have HY2:=Lib.hid hy2;clear hc e1 hzl hzv ek ek1 hy2;go_wp2_with (at_builtin;go_loud (refine zoz rfl (.tmp 29) (.tmp 31) rfl w.heap.size A' c' zs rfl (hown.alloc _) [(nth us (2*k)).toNat] ⟨wr.heap.size,0,none⟩ 1 1 rfl rfl (by exact HC.out) YU.out HN.out (by simp;omega) (fun A2 c2 w2 hown2 hg2=>?_)))
      go_roundw
      case rel=>exact ⟨k+1,A2,c2,zs++ [(nth us (2*k)).toNat],om,by go_num,by simp,hown2,by have:=HL.out;simp;omega,
       vn hzs (by unfold au;omega),ynq HL.out HV.out _ (by rw[HY2.out];omega),Below.own (hbel.alloc hsz _) (hown.alloc _) (by simp;omega) hg2⟩
      case measure=>simp[intOf];omega
  · have hv:=HV.out;rw[yr _ _ om] at hv;have Bd:=Lib.hid hv;have hi1:¬(2*(k:Int))<(us.length:Int):=om;have hle:zs.length≤us.length:=om;clear hv hzl hzv;go_wp2
    go_ret
    exact ⟨A',c',zs,rfl,hown,hzs,Bd.out,hle,hbel⟩
theorem yE {us zs:List Nat} {k:Nat} {cy d:Int} (hz:zs.length=k) (h0:0≤cy) (hd:0≤d) (h:val B9 zs+B9^k*cy.toNat=val B9 (us.take k)*d.toNat) :
 val B9 (zs++ [((cy+nth us k*d)%1000000000).toNat])+B9^(k+1)*((cy+nth us k*d)/1000000000).toNat=val B9 (us.take (k+1))*d.toNat:=by
 rw[YO,zu,hz,Nat.pow_succ];have e1:nth us k=((us.getD k 0:Nat):Int):=by unfold nth;rfl
 rw[e1];generalize us.getD k 0=x at *
 obtain ⟨c,rfl⟩:=Int.eq_ofNat_of_zero_le h0;obtain ⟨e,rfl⟩:=Int.eq_ofNat_of_zero_le hd;have e3:(((c:Int)+(x:Int)*(e:Int))%1000000000).toNat=(c+x*e)%B9:=by
  rw[←Int.natCast_mul];unfold B9;omega
 have e4:(((c:Int)+(x:Int)*(e:Int))/1000000000).toNat=(c+x*e)/B9:=by
  rw[←Int.natCast_mul];unfold B9;omega
 rw[e3,e4];simp only[Int.toNat_natCast] at h ⊢
 have e5:=Nat.mod_add_div (c+x*e) B9;generalize (c+x*e)%B9=s at *
 generalize (c+x*e)/B9=q at *
 have e6:B9^k*s+B9^k*(B9*q)=B9^k*c+B9^k*(x*e):=by rw[←Nat.mul_add,e5,Nat.mul_add]
 rw[Nat.add_mul,Nat.mul_assoc,Nat.mul_assoc];omega
set_option maxRecDepth 100000 in
set_option maxHeartbeats 400000 in
theorem lq (A:Option Addr) (c:Nat) (us:List Nat) (d:Int) (w:World) (hx:ay w A us) (hs:zi B9 us) (hl:us.length≤1048576) (hd:0≤d) (hd9:d≤1000000000) :
 Calls prog 162 #[.slice A us.length c,.int .u64 d] w (Cx w B9 (us.length+1) (val B9 us*d.toNat)):=by
 have hmk:=VO (us.length+1) om;rw[show ((us.length+1:Nat):Int)=(us.length:Int)+1 from om] at hmk;go_enter func162,ntmps162
 go_wp2
 go_loopw [6,15] (fun cv v wr=>∃(k:Nat) (zs:List Nat) (cy:Int),k≤us.length∧v= .int .i64 k∧cv= .int .u64 cy∧0≤cy∧cy<1000000000∧zs.length=k∧zi B9 zs∧
  val B9 zs+B9^k*cy.toNat=val B9 (us.take k)*d.toNat∧Row wr w.heap.size (us.length+1) zs∧Below w.heap.size w wr) (fun _ v _=>us.length-(intOf v).toNat)
 case atStart=>exact ⟨0,[],0,Nat.zero_le _,rfl,rfl,om,om,rfl,jg,by simp[val],Row.made w _,(Below.refl _ _).alloc (Nat.le_refl _) _⟩
 case round=>
  obtain ⟨k,zs,cy,hk,rfl,rfl,hc0,hc1,hzl,hzs,hval,hrow,hbel⟩:=hrel;have HV:=Lib.hid hval;have HZ:=Lib.hid hzl;clear hval hzl;have hcell:=hrow.cell (j:=k) om;have hfro:=hrow.frozen k;have hlt:=hrow.lt;by_cases hlt':k<us.length
  · obtain ⟨b,o,rfl,hb,hc⟩:=hx.2 om;have hca:wr.cell? ⟨b,o+k,none⟩=some (.int .u64 (nth us k)):=(hbel.cell (p:=⟨b,o+k,none⟩) hb).trans (hc k hlt');have hxk:nth us k<1000000000:=qj (by unfold B9;omega) hs k;have CK:=zw us k;have hp0:0≤nth us k*d:=Int.mul_nonneg CK hd;have hp1:nth us k*d≤999999999*1000000000:=by
     have h1:nth us k*d≤999999999*d:=Int.mul_le_mul_of_nonneg_right om hd;omega
    clear hc;go_wp2
    go_roundw
    case rel=>exact ⟨k+1,zs++ [((cy+nth us k*d)%1000000000).toNat],(cy+nth us k*d)/1000000000,om,by go_num,rfl,om,om,by simp[HZ.out],
     vn hzs (by unfold B9;omega),yE HZ.out hc0 hd HV.out,hrow.bE _ om HZ.out om,hbel.setCell (Nat.le_refl _) _⟩
    case measure=>simp[intOf];omega
  · obtain rfl:k=us.length:=om;have hv:=HV.out;rw[yr _ _ (Nat.le_refl _)] at hv;have Bd:=Lib.hid hv;clear hv;go_wp2
    go_ret
    exact ⟨w.heap.size,zs++ [cy.toNat],by simp[HZ.out],hrow.bE _ hc0 HZ.out om,by simp[HZ.out],vn hzs (by unfold B9;omega),by rw[YO,HZ.out];exact Bd.out,Nat.le_refl _,hbel.setCell (Nat.le_refl _) _⟩
theorem YV {b:Nat} (l:List Nat) (k x:Nat) (h:k<l.length):val b (l.set k x)+b^k*l.getD k 0=val b l+b^k*x:=by
 induction l generalizing k with
 | nil=>simp at h
 | cons y l ih=>
  cases k with
  | zero=>simp[val];omega
  | succ k=>
   have:=ih k (by simpa using h);simp only[List.set_cons_succ,val,List.getD_cons_succ,Nat.pow_succ]
   have h2:b*(val b (l.set k x)+b^k*l.getD k 0)=b*(val b l+b^k*x):=by rw[this]
   rw[Nat.mul_add,Nat.mul_add,←Nat.mul_assoc,←Nat.mul_assoc] at h2;rw[Nat.mul_comm (b^k) b];omega
theorem ks {b:Nat} (hb:2≤b) {l:List Nat} {k:Nat} (h:val b l<b^k) (j:Nat) (hj:k≤j):l.getD j 0=0:=by
 rcases Nat.eq_zero_or_pos (l.getD j 0) with h0 | h0
 · exact h0
 · exfalso
   have e:=yqq (b:=b) l (j+1);rw[zu] at e;have h1:b^k≤b^j:=Nat.pow_le_pow_right om hj;have h2:b^j*1≤b^j*l.getD j 0:=Nat.mul_le_mul_left _ h0;omega
theorem ztq {b:Nat} (hb:2≤b) {l:List Nat} (hs:zi b l) {k:Nat} (h:∀j,k≤j→l.getD j 0=0):val b l<b^k:=by
 rw[←qp (b:=b) l k (fun j hj _=>h j hj)];have h1:=gj (vm hs k);have h2:b^(l.take k).length≤b^k:=Nat.pow_le_pow_right om (by rw[List.length_take];omega);omega
theorem oQ {us ys vs:List Nat} {t k Q:Nat} {x' bw bw':Int} (hk:t+k<ys.length) (hb:0≤bw) (hb':0≤bw') (hx':0≤x')
 (h:val B9 ys+B9^t*(Q*val B9 (vs.take k))=val B9 us+B9^(t+k)*bw.toNat)
 (hx:x'+((Q:Int)*nth vs k+bw)=nth ys (t+k)+1000000000*bw') :
 val B9 (ys.set (t+k) x'.toNat)+B9^t*(Q*val B9 (vs.take (k+1)))=val B9 us+B9^(t+(k+1))*bw'.toNat:=by
 have hs:=YV (b:=B9) ys (t+k) x'.toNat hk;rw[zu];obtain ⟨b,rfl⟩:=Int.eq_ofNat_of_zero_le hb;obtain ⟨c,rfl⟩:=Int.eq_ofNat_of_zero_le hb';obtain ⟨z,rfl⟩:=Int.eq_ofNat_of_zero_le hx';simp only[Int.toNat_natCast] at *
 have e:z+(Q*vs.getD k 0+b)=ys.getD (t+k) 0+B9*c:=by
  have e1:nth vs k=((vs.getD k 0:Nat):Int):=by unfold nth;rfl
  have e2:nth ys (t+k)=((ys.getD (t+k) 0:Nat):Int):=by unfold nth;rfl
  rw[e1,e2,←Int.natCast_mul] at hx;unfold B9;omega
 have e3:B9^(t+k)*z+B9^(t+k)*(Q*vs.getD k 0)+B9^(t+k)*b=B9^(t+k)*ys.getD (t+k) 0+B9^(t+k)*(B9*c):=by
  rw[←Nat.mul_add,←Nat.mul_add,←Nat.mul_add,Nat.add_assoc,e]
 have e4:B9^t*(Q*(val B9 (vs.take k)+B9^k*vs.getD k 0))=B9^t*(Q*val B9 (vs.take k))+B9^(t+k)*(Q*vs.getD k 0):=by
  rw[Nat.mul_add,Nat.mul_add,Nat.pow_add,Nat.mul_left_comm Q,Nat.mul_assoc]
 have e5:B9^(t+(k+1))*c=B9^(t+k)*(B9*c):=by rw[←Nat.add_assoc,Nat.pow_succ,Nat.mul_assoc]
 rw[e4,e5];omega
theorem CP {s x:Int} (h0:0≤s) (h1:s≤999999999*1000000000) (hx0:0≤x) (hx1:x<1000000000) :
 0≤s/1000000000∧s/1000000000≤999999999∧0≤s%1000000000∧s%1000000000<1000000000∧(x<s%1000000000→s/1000000000+1≤999999999):=by
 refine ⟨om,om,om,om,fun h=>om⟩
def ke (ys:List Nat) (k:Nat):Prop:=∀j,k≤j→ys.getD j 0=0
theorem xr {ys:List Nat} {k:Nat} (h:ke ys k) (i x:Nat) (hi:i<k):ke (ys.set i x) k:=by
 intro j hj;have e:(ys.set i x).getD j 0=ys.getD j 0:=by simp[List.getD,show ¬i=j from om]
 rw[e];exact h j hj
theorem ny {ys zs vs:List Nat} {t k:Nat} {cy s:Int} (hk:t+k<zs.length) (hc:0≤cy) (hs:s=nth zs (t+k)+nth vs k+cy)
 (h:val B9 zs+B9^(t+k)*cy.toNat=val B9 ys+B9^t*val B9 (vs.take k)) :
 val B9 (zs.set (t+k) (s%1000000000).toNat)+B9^(t+(k+1))*(s/1000000000).toNat=val B9 ys+B9^t*val B9 (vs.take (k+1)):=by
 have h1:=YV (b:=B9) zs (t+k) (s%1000000000).toNat hk;rw[zu,Nat.mul_add,←Nat.mul_assoc,←Nat.pow_add,←Nat.add_assoc,Nat.pow_succ,Nat.mul_assoc];have e:(s%1000000000).toNat+B9*(s/1000000000).toNat=zs.getD (t+k) 0+vs.getD k 0+cy.toNat:=by
  have e1:nth vs k=((vs.getD k 0:Nat):Int):=by unfold nth;rfl
  have e2:nth zs (t+k)=((zs.getD (t+k) 0:Nat):Int):=by unfold nth;rfl
  rw[e1,e2] at hs;unfold B9;omega
 have e2:B9^(t+k)*(s%1000000000).toNat+B9^(t+k)*(B9*(s/1000000000).toNat)=B9^(t+k)*zs.getD (t+k) 0+B9^(t+k)*vs.getD k 0+B9^(t+k)*cy.toNat:=by
  rw[←Nat.mul_add,e,Nat.mul_add,Nat.mul_add]
 omega
def MZ (w:World) (g n t Q V U:Nat) (e:Ending) (w':World):Prop:=
 ∃(ys:List Nat) (b:Bool),e= .returned (.bool b)∧Row w' g n ys∧ys.length=n∧zi B9 ys∧w.grownBy w' (some g)∧val B9 ys+B9^t*(Q*V)=U+(if b then 0 else B9^t*V)∧(b=false→U<B9^t*(Q*V))
theorem Na {ys:List Nat} {t m Q V U:Nat} {bw:Int} (hk:t+m<ys.length) (hb:0≤bw) (hle:bw≤nth ys (t+m)) (h:val B9 ys+B9^t*(Q*V)=U+B9^(t+m)*bw.toNat) :
 val B9 (ys.set (t+m) (nth ys (t+m)-bw).toNat)+B9^t*(Q*V)=U:=by
 have h1:=YV (b:=B9) ys (t+m) (nth ys (t+m)-bw).toNat hk;have e:ys.getD (t+m) 0=(nth ys (t+m)-bw).toNat+bw.toNat:=by unfold nth at hle ⊢;omega
 rw[e,Nat.mul_add] at h1;omega
theorem RA {ys:List Nat} {t m Q V U:Nat} {bw:Int} (hk:t+m<ys.length) (hb:0≤bw) (hb1:bw≤1000000000) (h:val B9 ys+B9^t*(Q*V)=U+B9^(t+m)*bw.toNat) :
 val B9 (ys.set (t+m) (nth ys (t+m)+1000000000-bw).toNat)+B9^t*(Q*V)=U+B9^(t+m+1):=by
 have h1:=YV (b:=B9) ys (t+m) (nth ys (t+m)+1000000000-bw).toNat hk;have e:(nth ys (t+m)+1000000000-bw).toNat+bw.toNat=ys.getD (t+m) 0+B9:=by unfold nth B9;omega
 have e2:B9^(t+m)*(nth ys (t+m)+1000000000-bw).toNat+B9^(t+m)*bw.toNat=B9^(t+m)*ys.getD (t+m) 0+B9^(t+m)*B9:=by rw[←Nat.mul_add,e,Nat.mul_add]
 rw[Nat.pow_succ];omega
theorem Im {ys:List Nat} {t m Q V U:Nat} {bw:Int} (hk:t+m<ys.length) (hs:zi B9 ys) (hz:ke ys (t+m+1)) (hb:0≤bw) (hlt:nth ys (t+m)<bw) (h:val B9 ys+B9^t*(Q*V)=U+B9^(t+m)*bw.toNat) :
 U<B9^t*(Q*V):=by
 have e1:=qp (b:=B9) ys (t+m+1) (fun j hj _=>hz j hj);rw[zu] at e1;have h1:=gj (vm hs (t+m));rw[List.length_take,Nat.min_eq_left om] at h1;have h2:B9^(t+m)*(ys.getD (t+m) 0+1)≤B9^(t+m)*bw.toNat:=Nat.mul_le_mul_left _ (by unfold nth at hlt;omega);rw[Nat.mul_add,Nat.mul_one] at h2;omega
theorem Io {zs ys:List Nat} {t m Q V U:Nat} {cy:Int} (hk:t+m<zs.length) (hs:zi B9 zs) (hz:ke zs (t+m+1)) (hc:0≤cy) (hc1:cy≤1)
 (h1:val B9 zs+B9^(t+m)*cy.toNat=val B9 ys+B9^t*V) (h2:val B9 ys+B9^t*(Q*V)=U+B9^(t+m+1)) (hp:B9^t*(Q*V)≤U+B9^t*V) :
 val B9 (zs.set (t+m) ((nth zs (t+m)+cy)%1000000000).toNat)+B9^t*(Q*V)=U+B9^t*V:=by
 have hset:=YV (b:=B9) zs (t+m) ((nth zs (t+m)+cy)%1000000000).toNat hk;have hlt:zs.getD (t+m) 0<B9:=zov (by unfold B9;omega) hs _;have hsm:val B9 (zs.set (t+m) ((nth zs (t+m)+cy)%1000000000).toNat)<B9^(t+m+1):=
  ztq qx (vh hs _ _ (by unfold B9;omega)) (xr hz _ _ om)
 by_cases he:(zs.getD (t+m) 0:Int)+cy=1000000000
 · have e:((nth zs (t+m)+cy)%1000000000).toNat=0:=by unfold nth;omega
   rw[e] at hset ⊢;have e2:B9^(t+m)*zs.getD (t+m) 0+B9^(t+m)*cy.toNat=B9^(t+m)*B9:=by
    rw[←Nat.mul_add];congr 1;unfold B9;omega
   rw[Nat.pow_succ] at h2;omega
 · exfalso
   have e:((nth zs (t+m)+cy)%1000000000).toNat=zs.getD (t+m) 0+cy.toNat:=by unfold nth;unfold B9 at hlt;omega
   rw[e,Nat.mul_add] at hset;rw[e] at hsm;omega
set_option maxRecDepth 100000 in
set_option maxHeartbeats 1000000 in
theorem       yF (B : Option Addr) (g n t cu cv : Nat) (us vs : List Nat) (q : Int) (w : World) (hrow : Row w g n us) (hun : us.length = n) (hv :   ay w B vs) (hBg : ∀ a, B = some a → a.block ≠ g) (hs :    zi B9 us) (ht :    zi B9 vs)
    (hn : n ≤ 1048576) (hm : t + vs.length < n) (hq0 : 0 ≤ q) (hq1 : q < 1000000000)
    (hU : val B9 us < B9 ^ (t + vs.length + 1)) (hp : B9 ^ t * (q.toNat * val B9 vs) ≤ val B9 us + B9 ^ t * val B9 vs) :
    Calls prog 163 #[.slice (some ⟨g, 0, none⟩) n cu, .slice B vs.length cv, .int .i64 (t : Int), .int .u64 q] w (      MZ w g n t q.toNat (val B9 vs) (val B9 us)) := by
  have hz0 :       ke us (t + vs.length + 1) :=               ks     qx hU
  have HP := Lib.hid hp; clear hp hU
  go_enter func163, ntmps163
  go_wp2
  go_loopw [9, 17] (fun bv v wr => ∃ (k : Nat) (ys : List Nat) (bw : Int), k ≤ vs.length ∧ v = .int .i64 k ∧ bv = .int .u64 bw ∧ 0 ≤ bw ∧ bw ≤ 999999999 ∧ ys.length = n ∧    zi B9 ys ∧
      val B9 ys + B9 ^ t * (q.toNat * val B9 (vs.take k)) = val B9 us + B9 ^ (t + k) * bw.toNat ∧       ke ys (t + vs.length + 1) ∧ Row wr g n ys ∧ w.grownBy wr (some g)) (fun _ v _ => vs.length - (intOf v).toNat)
  case atStart => exact ⟨0, us, 0, Nat.zero_le _, rfl, rfl, by omega, by omega, hun, hs, by simp [val], hz0, hrow, World.grownBy.refl w _⟩
  case round =>
    obtain ⟨k, ys, bw, hk, rfl, rfl, hb0, hb1, hyl, hys, hval,  YW, hrw, hgr⟩ := hrel
    have HV := Lib.hid hval; have HY := Lib.hid hyl; clear hval hyl
    by_cases hlt : k < vs.length
    · obtain ⟨b, o, rfl, hb, hc⟩ := hv.2 (by omega)
      have hca : wr.cell? ⟨b, o + k, none⟩ = some (.int .u64 (nth vs k)) := (World.cell?_of_block (hgr.block b hb (fun e => hBg _ rfl (by simpa using e)))).trans (hc k hlt)
      have hbg : b ≠ g := hBg _ rfl
      have hxk : nth vs k < 1000000000 :=     qj (by unfold B9; omega) ht k
      have   CK :=         zw vs k
      have hy1 : nth ys (t + k) < 1000000000 :=     qj (by unfold B9; omega) hys _
      have hy0 :=         zw ys (t + k)
      have hp0 : 0 ≤ q * nth vs k := Int.mul_nonneg hq0   CK
      have hp1 : q * nth vs k ≤ 999999999 * 999999999 := by
        have h1 : q * nth vs k ≤ q * 999999999 := Int.mul_le_mul_of_nonneg_left (by omega) hq0
        omega
      have hcell := hrw.cell (j := t + k) (by omega)
      have hfro := hrw.frozen (t + k)
      have   RB := hrw.lt
      have hi0 : (0 : Int) ≤ (t : Int) + (k : Int) := by omega
      have hi1 : (t : Int) + (k : Int) < (n : Int) := by omega
      obtain ⟨s0, s1, s2, s3, s4⟩ :=         CP (s := q * nth vs k + bw) (x := nth ys (t + k)) (by omega) (by omega) hy0 hy1
      clear hc
      by_cases hcmp : nth ys (t + k) < (q * nth vs k + bw) % 1000000000
      · have s5 := s4 hcmp
        clear s4
        go_wp2
        go_roundw
        case rel => exact ⟨k + 1, ys.set (t + k) (nth ys (t + k) + 1000000000 - (q * nth vs k + bw) % 1000000000).toNat, (q * nth vs k + bw) / 1000000000 + 1, by omega, by go_num, rfl, by omega, by omega, by rw [List.length_set]; exact HY.out,
                 vh hys _ _ (by unfold B9; omega),        oQ (by have := HY.out; omega) hb0 (by omega) (by omega) HV.out (by rw [Int.toNat_of_nonneg hq0]; omega),           xr  YW _ _ (by omega),
          by have h1 := (hrw.setInt (nth ys (t + k) + 1000000000) (by omega) (i := t + k) (by have := HY.out; omega)).setInt (nth ys (t + k) + 1000000000 - (q * nth vs k + bw) % 1000000000) (by omega) (i := t + k) (by rw [List.length_set]; have := HY.out; omega)
             rw [List.set_set] at h1; exact h1,           gn (          gn hgr (.inl rfl) _) (.inl rfl) _⟩
        case measure => simp [intOf]; omega
      · clear s4
        go_wp2
        go_roundw
        case rel => exact ⟨k + 1, ys.set (t + k) (nth ys (t + k) - (q * nth vs k + bw) % 1000000000).toNat, (q * nth vs k + bw) / 1000000000, by omega, by go_num, rfl, by omega, by omega, by rw [List.length_set]; exact HY.out,
                 vh hys _ _ (by unfold B9; omega),        oQ (by have := HY.out; omega) hb0 (by omega) (by omega) HV.out (by rw [Int.toNat_of_nonneg hq0]; omega),           xr  YW _ _ (by omega),
          hrw.setInt _ (by omega) (by have := HY.out; omega),           gn hgr (.inl rfl) _⟩
        case measure => simp [intOf]; omega
    · obtain rfl : k = vs.length := by omega
      have hv1 := HV.out
      rw [          yr _ _ (Nat.le_refl _)] at hv1
      have  Bd := Lib.hid hv1
      clear hv1
      have hcell := hrw.cell (j := t + vs.length) (by omega)
      have hfro := hrw.frozen (t + vs.length)
      have   RB := hrw.lt
      have hi0 : (0 : Int) ≤ (t : Int) + (vs.length : Int) := by omega
      have hi1 : (t : Int) + (vs.length : Int) < (n : Int) := by omega
      have hy1 : nth ys (t + vs.length) < 1000000000 :=     qj (by unfold B9; omega) hys _
      have hy0 :=         zw ys (t + vs.length)
      by_cases hcmp : bw ≤ nth ys (t + vs.length)
      · go_wp2
        go_ret
        exact ⟨ys.set (t + vs.length) (nth ys (t + vs.length) - bw).toNat, true, rfl, hrw.setInt _ (by omega) (by have := HY.out; omega), by rw [List.length_set]; exact HY.out,        vh hys _ _ (by unfold B9; omega),
                    gn hgr (.inl rfl) _, by rw [if_pos rfl, Nat.add_zero]; exact       Na (by have := HY.out; omega) hb0 hcmp  Bd.out, fun h => by cases h⟩
      · go_wp2
        have hr2 := hrw.setInt (nth ys (t + vs.length) + 1000000000 - bw) (by omega) (i := t + vs.length) (by have := HY.out; omega)
        have hg2 :=           gn hgr (p := ⟨g, t + vs.length, none⟩) (.inl rfl) (.int .u64 (nth ys (t + vs.length) + 1000000000 - bw))
        obtain ⟨y2, hy2⟩ : ∃ y2, y2 = ys.set (t + vs.length) (nth ys (t + vs.length) + 1000000000 - bw).toNat := ⟨_, rfl⟩
        rw [← hy2] at hr2
        have HY2 := Lib.hid hy2
        have hno :=      RA (Q := q.toNat) (V := val B9 vs) (U := val B9 us) (ys := ys) (t := t) (m := vs.length) (by have := HY.out; omega) hb0 (by omega)  Bd.out
        rw [← hy2] at hno
        have hl2 : y2.length = n := by rw [hy2, List.length_set]; exact HY.out
        have hs2 :    zi B9 y2 := by rw [hy2]; exact        vh hys _ _ (by unfold B9; omega)
        have  arz :       ke y2 (t + vs.length + 1) := by rw [hy2]; exact           xr  YW _ _ (by omega)
        have  RD : Hid (val B9 us < B9 ^ t * (q.toNat * val B9 vs)) :=        Im (by have := HY.out; omega) hys  YW hb0 (by omega)  Bd.out
        have HNO := Lib.hid hno; have HL2 := Lib.hid hl2
        clear hy2 hno hl2 hcell hfro   RB hy1 hy0 hcmp hrow hun hs hz0 hb0 hb1 hys  YW hrw hgr HV  Bd HY HY2
        generalize wr.setCell ⟨g, t + vs.length, none⟩ (.int .u64 (nth ys (t + vs.length) + 1000000000 - bw)) = wz at hr2 hg2 ⊢
        go_loopw [12, 97] (fun cv v wx => ∃ (k : Nat) (zs : List Nat) (cy : Int), k ≤ vs.length ∧ v = .int .i64 k ∧ cv = .int .u64 cy ∧ 0 ≤ cy ∧ cy ≤ 1 ∧ zs.length = n ∧    zi B9 zs ∧
            val B9 zs + B9 ^ (t + k) * cy.toNat = val B9 y2 + B9 ^ t * val B9 (vs.take k) ∧       ke zs (t + vs.length + 1) ∧ Row wx g n zs ∧ w.grownBy wx (some g)) (fun _ v _ => vs.length - (intOf v).toNat)
        case atStart => exact ⟨0, y2, 0, Nat.zero_le _, rfl, rfl, by omega, by omega, HL2.out, hs2, by simp [val],  arz, hr2, hg2⟩
        case round =>
          obtain ⟨k, zs, cy, hk, rfl, rfl, hc0, hc1, hzl, hzs, hzv, hzz, hrz, hgz⟩ := hrel
          have HZ := Lib.hid hzl; have HZV := Lib.hid hzv
          clear hzl hzv
          by_cases hlt : k < vs.length
          · obtain ⟨b, o, rfl, hb, hc⟩ := hv.2 (by omega)
            have hca : wr.cell? ⟨b, o + k, none⟩ = some (.int .u64 (nth vs k)) := (World.cell?_of_block (hgz.block b hb (fun e => hBg _ rfl (by simpa using e)))).trans (hc k hlt)
            have hbg : b ≠ g := hBg _ rfl
            have hxk : nth vs k < 1000000000 :=     qj (by unfold B9; omega) ht k
            have   CK :=         zw vs k
            have hy1 : nth zs (t + k) < 1000000000 :=     qj (by unfold B9; omega) hzs _
            have hy0 :=         zw zs (t + k)
            have hcell := hrz.cell (j := t + k) (by omega)
            have hfro := hrz.frozen (t + k)
            have   RB := hrz.lt
            have hj0 : (0 : Int) ≤ (t : Int) + (k : Int) := by omega
            have hj1 : (t : Int) + (k : Int) < (n : Int) := by omega
            have hk1 : (k : Int) < (vs.length : Int) := by omega
            have hk0 : (0 : Int) ≤ (k : Int) := by omega
            have hsu : IntKind.i64.wrap ((t : Int) + (k : Int)) = (t : Int) + (k : Int) := IntWalk.i64_in _ (by omega)
            clear hc
            go_wp2
            go_quiet (fail)
            go_wp2
            go_roundw
            case rel => exact ⟨k + 1, zs.set (t + k) ((nth zs (t + k) + nth vs k + cy) % 1000000000).toNat, (nth zs (t + k) + nth vs k + cy) / 1000000000, by omega, by go_num, rfl, by omega, by omega, by rw [List.length_set]; exact HZ.out,
                     vh hzs _ _ (by unfold B9; omega),            ny (by have := HZ.out; omega) hc0 rfl HZV.out,           xr hzz _ _ (by omega), (hrz.drewN _).setInt _ (by omega) (by have := HZ.out; omega),           gn (        Bj hgz _) (.inl rfl) _⟩
            case measure => simp [intOf]; omega
          · obtain rfl : k = vs.length := by omega
            have hv1 := HZV.out
            rw [          yr _ _ (Nat.le_refl _)] at hv1
            have HV3 := Lib.hid hv1
            clear hv1
            have hcell := hrz.cell (j := t + vs.length) (by omega)
            have hfro := hrz.frozen (t + vs.length)
            have   RB := hrz.lt
            have hy1 : nth zs (t + vs.length) < 1000000000 :=     qj (by unfold B9; omega) hzs _
            have hy0 :=         zw zs (t + vs.length)
            go_wp2
            go_ret
            exact ⟨zs.set (t + vs.length) ((nth zs (t + vs.length) + cy) % 1000000000).toNat, false, rfl, hrz.setInt _ (by omega) (by have := HZ.out; omega), by rw [List.length_set]; exact HZ.out,        vh hzs _ _ (by unfold B9; omega),
                        gn hgz (.inl rfl) _, by rw [if_neg (by simp)]; exact        Io (by have := HZ.out; omega) hzs hzz hc0 hc1 HV3.out HNO.out HP.out, fun _ =>  RD.out⟩
section
variable {P D R V v1 v2 u3 top g rest B:Nat}
theorem yG (hD:P*(v1*B+v2)≤D) (hR:R<P*(top*B+u3+1)) (hu:u3<B) (h:top<(g+1)*v1):R<(g+1)*D:=by
 have h1:top*B+u3+1≤(top+1)*B:=by rw[Nat.add_mul];omega
 have h2:(top+1)*B≤(g+1)*v1*B:=Nat.mul_le_mul_right _ h;have h3:(g+1)*v1*B≤(g+1)*(v1*B+v2):=by rw[Nat.mul_assoc];exact Nat.mul_le_mul_left _ om
 have h4:P*(top*B+u3+1)≤P*((g+1)*(v1*B+v2)):=Nat.mul_le_mul_left _ om;have h5:P*((g+1)*(v1*B+v2))=(g+1)*(P*(v1*B+v2)):=Nat.mul_left_comm _ _ _;have h6:(g+1)*(P*(v1*B+v2))≤(g+1)*D:=Nat.mul_le_mul_left _ hD;omega
theorem CQ (hR:R<B*D) (h:B≤g):R<g*D:=Nat.lt_of_lt_of_le hR (Nat.mul_le_mul_right _ h)
theorem sH (hD:P*(v1*B+v2)≤D) (hR:R<P*(top*B+u3+1)) (ht:g*v1+rest=top) (h:rest*B+u3<g*v2):R<g*D:=by
 subst ht;have h1:(g*v1+rest)*B+u3+1≤g*(v1*B+v2):=by rw[Nat.add_mul,Nat.mul_add,Nat.mul_assoc];omega
 have h4:P*((g*v1+rest)*B+u3+1)≤P*(g*(v1*B+v2)):=Nat.mul_le_mul_left _ h1;have h5:P*(g*(v1*B+v2))=g*(P*(v1*B+v2)):=Nat.mul_left_comm _ _ _;have h6:g*(P*(v1*B+v2))≤g*D:=Nat.mul_le_mul_left _ hD;omega
theorem CS (hD:D<P*(v1*B+v2+1)) (hv:v2<B) (hR:P*(top*B+u3)≤R) (ht:g*v1+rest=top) (hg:g≤rest):g*D≤R:=by
 subst ht;have h1:g*D≤g*(P*(v1*B+v2+1)):=Nat.mul_le_mul_left _ (Nat.le_of_lt hD);have h2:g*(P*(v1*B+v2+1))=P*(g*(v1*B+v2+1)):=Nat.mul_left_comm _ _ _;have h3:g*(v1*B+v2+1)≤(g*v1+rest)*B+u3:=by
  have a1:g*(v1*B+v2+1)≤g*(v1*B+B):=Nat.mul_le_mul_left _ om;have a2:g*(v1*B+B)=g*v1*B+g*B:=by rw[Nat.mul_add,Nat.mul_assoc]
  have a3:g*B≤rest*B:=Nat.mul_le_mul_right _ hg;rw[Nat.add_mul];omega
 have h4:P*(g*(v1*B+v2+1))≤P*((g*v1+rest)*B+u3):=Nat.mul_le_mul_left _ h3;omega
theorem CU (hD:D<P*(v1*B+v2+1)) (hD':P*(v1*B+v2)≤D) (hv1:1≤v1) (hR:P*(top*B+u3)≤R) (ht:g*v1+rest=top) (hg:g<B) (h:g*v2≤rest*B+u3):g*D≤R+D:=by
 subst ht;have h1:g*D≤g*(P*(v1*B+v2+1)):=Nat.mul_le_mul_left _ (Nat.le_of_lt hD);have h2:g*(P*(v1*B+v2+1))=P*(g*(v1*B+v2+1)):=Nat.mul_left_comm _ _ _;have h3:g*(v1*B+v2+1)≤(g*v1+rest)*B+u3+B:=by
  have a2:g*(v1*B+v2+1)=g*v1*B+g*v2+g:=by rw[Nat.mul_add,Nat.mul_add,Nat.mul_assoc,Nat.mul_one]
  rw[a2,Nat.add_mul];omega
 have h4:P*(g*(v1*B+v2+1))≤P*((g*v1+rest)*B+u3+B):=Nat.mul_le_mul_left _ h3;have h5:P*((g*v1+rest)*B+u3+B)=P*((g*v1+rest)*B+u3)+P*B:=Nat.mul_add _ _ _;have h6:P*B≤P*(v1*B+v2):=Nat.mul_le_mul_left _ (by have:=Nat.mul_le_mul_right B hv1;omega);omega
theorem Ip (hD:D<P*(v1*B+v2+1)) (hv:v2<B) (hR:P*(top*B+u3)≤R) (hlt:R<B*D):top<(v1+1)*B:=by
 rcases Nat.lt_or_ge top ((v1+1)*B) with h | h
 · exact h
 · exfalso
   have h1:P*((v1+1)*B*B)≤P*(top*B+u3):=Nat.mul_le_mul_left _ (by have:=Nat.mul_le_mul_right B h;omega);have h2:B*D≤B*(P*(v1*B+v2+1)):=Nat.mul_le_mul_left _ (Nat.le_of_lt hD);have h3:B*(P*(v1*B+v2+1))=P*(B*(v1*B+v2+1)):=Nat.mul_left_comm _ _ _;have h4:P*(B*(v1*B+v2+1))≤P*((v1+1)*B*B):=Nat.mul_le_mul_left _ (by
    rw[Nat.mul_comm ((v1+1)*B) B];refine Nat.mul_le_mul_left _ ?_;rw[Nat.add_mul];omega)
   omega
end
theorem Nb {us:List Nat} {t m:Nat} (hs:zi B9 us) (hz:ke us (t+m+3)) (hl:t+m+2<us.length) :
 B9^(t+m)*((us.getD (t+m+2) 0*B9+us.getD (t+m+1) 0)*B9+us.getD (t+m) 0)≤val B9 us∧val B9 us<B9^(t+m)*((us.getD (t+m+2) 0*B9+us.getD (t+m+1) 0)*B9+us.getD (t+m) 0+1):=by
 have e1:=qp (b:=B9) us (t+m+3) (fun j hj _=>hz j hj);rw[zu,zu,zu] at e1;have h1:=gj (vm hs (t+m));rw[List.length_take,Nat.min_eq_left om] at h1;generalize us.getD (t+m) 0=x at *
 generalize us.getD (t+m+1) 0=y at *
 generalize us.getD (t+m+2) 0=z at *
 have e2:B9^(t+m)*((z*B9+y)*B9+x)=B9^(t+m)*x+B9^(t+m+1)*y+B9^(t+m+2)*z:=by
  simp only[show t+m+2=t+m+1+1 from rfl,Nat.pow_succ]
  generalize B9^(t+m)=p
  simp only[Nat.mul_add,Nat.mul_comm,Nat.mul_left_comm]
  omega
 rw[Nat.mul_add (B9^(t+m)) _ 1,Nat.mul_one,e2];omega
theorem Nc {vs:List Nat} {t m:Nat} (hs:zi B9 vs) (hl:vs.length=m+2) :
 B9^(t+m)*(vs.getD (m+1) 0*B9+vs.getD m 0)≤B9^t*val B9 vs∧B9^t*val B9 vs<B9^(t+m)*(vs.getD (m+1) 0*B9+vs.getD m 0+1):=by
 have e1:=yr (b:=B9) vs (m+2) om;rw[zu,zu] at e1;have h1:=gj (vm hs m);rw[List.length_take,Nat.min_eq_left om] at h1;generalize vs.getD m 0=x at *
 generalize vs.getD (m+1) 0=y at *
 have e2:B9^m*(y*B9+x)=B9^m*x+B9^(m+1)*y:=by
  rw[Nat.pow_succ,Nat.mul_add];have a2:B9^m*(y*B9)=B9^m*B9*y:=by rw[Nat.mul_comm y,Nat.mul_assoc]
  rw[a2];omega
 have h2:B9^m*(y*B9+x)≤val B9 vs:=om;have h3:val B9 vs<B9^m*(y*B9+x+1):=by rw[Nat.mul_add,Nat.mul_one];omega
 rw[Nat.pow_add,Nat.mul_assoc,Nat.mul_assoc];exact ⟨Nat.mul_le_mul_left _ h2,Nat.mul_lt_mul_of_pos_left h3 (xK qx t)⟩
theorem ybz {X V Rz Ry t Q:Nat} {qs:List Nat} (ht:t<qs.length) (h:X=B9^(t+1)*(val B9 (qs.drop (t+1))*V)+Rz) (hq:Ry+B9^t*(Q*V)=Rz) :
 X=B9^t*(val B9 ((qs.set t Q).drop t)*V)+Ry:=by
 rw[drop_set qs t Q ht,h,←hq];simp only[val]
 generalize val B9 (qs.drop (t+1))=W
 have e1:B9^t*((Q+B9*W)*V)=B9^t*(Q*V)+B9^(t+1)*(W*V):=by
  rw[Nat.add_mul,Nat.mul_add,Nat.pow_succ,Nat.mul_assoc B9,Nat.mul_assoc]
 rw[e1];omega
theorem yH {V Rz Ry t Q:Nat} (hq:Ry+B9^t*(Q*V)=Rz) (hG:Rz<(Q+1)*(B9^t*V)):Ry<B9^t*V:=by
 have e:(Q+1)*(B9^t*V)=B9^t*(Q*V)+B9^t*V:=by rw[Nat.add_mul,Nat.one_mul,Nat.mul_left_comm]
 omega
theorem Fz {V Rz Ry t Q:Nat} (hq:Ry+B9^t*(Q*V)=Rz+B9^t*V) (hlt:Rz<B9^t*(Q*V)):1≤Q∧Ry+B9^t*((Q-1)*V)=Rz∧Ry<B9^t*V:=by
 have h1:1≤Q:=by
  rcases Nat.eq_zero_or_pos Q with h | h
  · subst h;simp at hlt
  · exact h
 obtain ⟨q,rfl⟩:∃q,Q=q+1:=⟨Q-1,om⟩;have e:B9^t*((q+1)*V)=B9^t*(q*V)+B9^t*V:=by rw[Nat.add_mul,Nat.one_mul,Nat.mul_add]
 refine ⟨h1,?_,?_⟩
 · rw[Nat.add_sub_cancel];omega
 · omega
theorem Nf {X Y Q Z d r:Nat} (h:X*d=Q*(Y*d)+(Z*d+r)) (hr:r<d) (hlt:Z*d+r<Y*d):X=Q*Y+Z∧Z<Y:=by
 have h1:Q*(Y*d)=Q*Y*d:=(Nat.mul_assoc _ _ _).symm;have h2:X*d=(Q*Y+Z)*d+r:=by rw[h,h1,Nat.add_mul];omega
 have h3:X=Q*Y+Z:=by
  have a:(X*d)/d=((Q*Y+Z)*d+r)/d:=by rw[h2]
  rw[Nat.mul_div_cancel _ om,Nat.add_comm,Nat.add_mul_div_right _ _ om,Nat.div_eq_of_lt hr] at a;omega
 refine ⟨h3,?_⟩;rcases Nat.lt_or_ge Z Y with h4 | h4
 · exact h4
 · have:=Nat.mul_le_mul_right d h4;omega
theorem lu {P Q:Prop} (k:Q) (h:(Unit→Q)→P:=by
 intro zK;refine (zqq A c xs _ (hx.below hb1 (Nat.le_refl _)) hs om).mono ?_;exact zK ()):P:=h fun _=>k
theorem Own.at_ {w:World} {base c:Nat} {A:Option Addr} {xs:List Nat} (h:Own w base A c xs) (h0:0<xs.length) :
 ∃g,A=some ⟨g,0,none⟩∧base≤g∧g<w.heap.size∧xs.length≤c∧ ∀k,k<xs.length→w.cell? ⟨g,k,none⟩=some (.int .u64 (nth xs k)):=by
 obtain ⟨b,o,rfl,hb,hc⟩:=h.nums.2 h0;rcases h.1.2 with ⟨_,hn⟩ | ⟨g,cap,cur,hv,hg,hh,hnc,_⟩
 · omega
 · injection hv with hA _ hcc
   injection hA with hA
   injection hA with e1 e2
   subst e1;subst e2;subst hcc;exact ⟨b,rfl,hg,hb,hnc,fun k hk=>by have:=hc k hk;rwa [Nat.zero_add] at this⟩
def ypk (w:World) (X Y:Nat) (e:Ending) (w':World):Prop:=
 ∃A1 c1 qs A2 c2 rs,e= .returned (.tuple #[.slice A1 qs.length c1,.slice A2 rs.length c2])∧ay w' A1 qs∧ay w' A2 rs∧zi au qs∧zi au rs∧qs.length≤1048576∧rs.length≤1048576∧
  val au qs=X/Y∧val au rs=X%Y∧Below w.heap.size w w'
theorem ygv {xs:List Nat} (hs:zi au xs):(aI B9 (val au xs)).length≤2*xs.length:=by
 rw[yp qx,VP];exact gj hs
theorem yI (w:World) (x:Int) (a:Nat) (hx:x=(a:Int)) (h:a<18446744073709551616):ay (w.alloc (.cells #[.int .u64 x] 25)) (some ⟨w.heap.size,0,none⟩) [a]:=by
 subst hx;refine ⟨xj (by simpa using h),fun _=>⟨w.heap.size,0,rfl,by simp,fun k hk=>?_⟩⟩;obtain rfl:k=0:=by simpa using hk
 rw[Nat.zero_add,cell_of_row _ w.heap.size 0 _ _ _ (heap_alloc_new w _)];simp[nth]
theorem Ng {X Q V R:Nat} (h:X=Q*V+R) (hlt:R<V):Q=X/V∧R=X%V:=by
 subst h;have hV:0<V:=om;rw[Nat.add_comm (Q*V) R,Nat.add_mul_div_right _ _ hV,Nat.add_mul_mod_self_right,Nat.div_eq_of_lt hlt,Nat.mod_eq_of_lt hlt];simp
set_option maxRecDepth 100000 in
set_option maxHeartbeats 400000 in
theorem CV (A B:Option Addr) (c d:Nat) (xs ys:List Nat) (w:World) (hx:ay w A xs) (hy:ay w B ys) (hs:zi au xs) (ht:zi au ys) (hl:xs.length≤1000) (hl':ys.length≤1000)
 (h1:(aI B9 (val au ys)).length=1) :
 Calls prog 130 #[.slice A xs.length c,.slice B ys.length d] w (ypk w (val au xs) (val au ys)):=by
 have hu:=ygv hs;go_enter func130,ntmps130
 go_wp2_with fail
 refine (zqq B d ys _ hy ht om).mono ?_;rintro e w1 ⟨A1,c1,vs,rfl,hv,hvd,hb1⟩;have RF:=Lib.hid hvd;clear hvd;go_wp2_with fail
 refine lu ?_;rintro e w2 ⟨A2,c2,us,rfl,hus,hud,hb2⟩;have hvd:=RF.out;have L2:=hb1.trans (hb2.mono hb1.size);have hv2:=hv.below hb2 (Nat.le_refl _);rw[←hvd] at h1;obtain ⟨g,rfl,hg0,hg1,_,hc⟩:=hv2.at_ om;have hc0:=hc 0 om;have hv1:((vs.length:Int)==1)=true:=beq_iff_eq.2 om;have hvl:0<vs.length:=om;have VQ:val au ys=(nth vs 0).toNat:=by
  have e:=jj qx (val au ys);rw[←hvd] at e;rw[←e];match vs,h1 with
  | [v],_=>simp[val,nth]
 have hpos:nth vs 0≠0:=by
  have h2:=zav qx (val au ys);rw[←hvd] at h2;rcases h2 with h2 | h2
  · omega
  · rw[h1] at h2;unfold nth;simp at h2 ⊢;omega
 have hsv:zi B9 vs:=by rw[hvd];exact jo qx _
 have hsu:zi B9 us:=by rw[hud];exact jo qx _
 have hv90:=zw vs 0;have hv91:nth vs 0<1000000000:=qj (by unfold B9;omega) hsv 0;have hvx:val B9 us=val au xs:=by rw[hud];exact jj qx _
 have hul:us.length≤2000:=by rw[hud];omega
 have HV:=Lib.hid VQ;have HX:=Lib.hid hvx;clear VQ hvx hvd hud h1 hc hu;go_wp2_with fail
 refine (oP A2 c2 us (nth vs 0) _ hus.nums hsu om om hv91).mono ?_;rintro e w3 ⟨g3,zs,r,rfl,hrow,hzl,hzs,hr0,hr1,hzv,hg3,hb3⟩;have HZ:=Lib.hid hzl;have HZV:=Lib.hid hzv;clear hzl hzv;go_wp2_with fail
 refine (zyz _ _ zs _ (by exact hrow.nums rfl (fun x hx=>by have:=hzs x hx;unfold B9 at this;omega)) hzs (by have:=HZ.out;omega)).mono ?_;rintro e w4 ⟨A4,c4,qs,rfl,hq,YX,P6,RG,hb4⟩;have HQ:=Lib.hid P6;clear P6;go_wp2
 go_ret2
 have er:r=(r.toNat:Int):=om;have hdm:=Ng (X:=val au xs) (Q:=val au qs) (V:=val au ys) (R:=r.toNat) (by rw[HQ.out,HV.out,←HX.out];exact HZV.out) (by rw[HV.out];omega);exact ⟨A4,c4,qs,_,1,[r.toNat],rfl,hq.nums.alloc _,yI _ _ _ er om,YX,fun x hx=>by simp at hx;subst hx;unfold au;omega,by have:=HZ.out;omega,by simp,hdm.1,by simp only[val,Nat.mul_zero,Nat.add_zero];exact hdm.2,
  ((L2.trans (hb3.mono L2.size)).trans (hb4.mono (L2.trans (hb3.mono L2.size)).size)).alloc (((L2.trans (hb3.mono L2.size)).trans (hb4.mono (L2.trans (hb3.mono L2.size)).size)).size) _⟩
set_option maxRecDepth 100000 in
set_option maxHeartbeats 400000 in
theorem yJ (A B:Option Addr) (c d:Nat) (xs ys:List Nat) (w:World) (hx:ay w A xs) (hy:ay w B ys) (hs:zi au xs) (ht:zi au ys) (hl:xs.length≤1000) (hl':ys.length≤1000)
 (h1:(aI B9 (val au ys)).length≠1) (h2:(aI B9 (val au xs)).length<(aI B9 (val au ys)).length) :
 Calls prog 130 #[.slice A xs.length c,.slice B ys.length d] w (ypk w (val au xs) (val au ys)):=by
 have hlt:val au xs<val au ys:=by
  have:=kk qx (jo qx (val au xs)) (zav qx (val au ys)) h2;rwa [jj qx,jj qx] at this
 have RD:=Lib.hid hlt;clear hlt;go_enter func130,ntmps130
 go_wp2_with fail
 refine (zqq B d ys _ hy ht om).mono ?_;rintro e w1 ⟨A1,c1,vs,rfl,hv,hvd,hb1⟩;have RF:=Lib.hid hvd;clear hvd;go_wp2_with fail
 refine lu ?_;rintro e w2 ⟨A2,c2,us,rfl,hus,hud,hb2⟩;have hvd:=RF.out;have L2:=hb1.trans (hb2.mono hb1.size);rw[←hvd] at h1;rw[←hvd,←hud] at h2;have hv1:((vs.length:Int)==1)=false:=beq_eq_false_iff_ne.2 om;have h3:(us.length:Int)<(vs.length:Int):=om;clear hvd hud;go_wp2
 go_ret2
 exact ⟨none,0,[],A,c,xs,rfl,⟨fun k=>by rw[yaq];omega,fun h=>by simp at h⟩,hx.below L2 (Nat.le_refl _),jg,hs,by simp,om,by rw[Nat.div_eq_of_lt RD.out];rfl,(Nat.mod_eq_of_lt RD.out).symm,L2⟩
theorem VR {P:Prop} (h:P:=by
 rw[←YZ.out,←Y0.out];refine bodyPost_ret (v:=.tuple #[.agg #[.bool (decide (qi<0)),.slice A4 (limbs qi).length c4],.agg #[.bool (decide (ri<0)),.slice A5 (limbs ri).length c5],.int .i64 0]) (by simp[results,Tryz.results93,go_sem,r0,r1,s0,s1]) rfl ?_;exact FB ho4 ho5 L5 om hr3 om hs3 Za.out _ _ _ _):P:=h
def CX (W:World) (i j:Int) (f:Int) (e:Ending) (w':World):Prop:=
 ∃A c B d,e= .returned (.tuple #[.agg #[.bool (decide (i<0)),.slice A (limbs i).length c],.agg #[.bool (decide (j<0)),.slice B (limbs j).length d],.int .i64 f])∧
  Own w' W.heap.size A c (limbs i)∧Own w' W.heap.size B d (limbs j)∧Below W.heap.size W w'∧(∀p q,A=some p→B=some q→p.block≠q.block)
@[irreducible] def dq (n1 n2:Bool) (X Y:Nat):Int:=if n1=n2 then ((X/Y:Nat):Int) else if X%Y=0 then -((X/Y:Nat):Int) else -((X/Y+1:Nat):Int)
@[irreducible] def dr (n1 n2:Bool) (X Y:Nat):Int:=if n1=n2 then bg n1 (X%Y) else if X%Y=0 then 0 else bg n2 (Y-X%Y)
theorem Nh {n1 n2:Bool} {X Y:Nat} (h:n1=n2∨X%Y=0):bg (n1 !=n2) (X/Y)=dq n1 n2 X Y:=by
 unfold dq bg;by_cases h1:n1=n2
 · subst h1;simp
 · rcases h with h | h
   · exact absurd h h1
   · simp[h1,h]
theorem Ni {n1 n2:Bool} {X Y:Nat} (h:n1=n2∨X%Y=0):bg n1 (X%Y)=dr n1 n2 X Y:=by
 unfold dr;by_cases h1:n1=n2
 · rw[if_pos h1]
 · rcases h with h | h
   · exact absurd h h1
   · rw[if_neg h1,if_pos h,h];cases n1<;>rfl
theorem FB {W wc:World} {i j f:Int} {A4 A5:Option Addr} {c4 c5 base g0 g1:Nat} (h4:Own wc base A4 c4 (limbs i)) (h5:Own wc base A5 c5 (limbs j)) (L:Below W.heap.size W wc)
 (hg:W.heap.size≤g0) (hgb:g0<base) (hg':W.heap.size≤g1) (hgb':g1<base) (hd:∀p q,A4=some p→A5=some q→p.block≠q.block) (u v u' v':Value) :
 CX W i j f (.returned (.tuple #[.agg #[.bool (decide (i<0)),.slice A4 (limbs i).length c4],.agg #[.bool (decide (j<0)),.slice A5 (limbs j).length c5],.int .i64 f])) ((((wc.setCell ⟨g0,0,none⟩ u).setCell ⟨g0,1,none⟩ v).setCell ⟨g1,0,none⟩ u').setCell ⟨g1,1,none⟩ v').drew:=
 ⟨A4,c4,A5,c5,rfl,(((((h4.aG hgb _).aG hgb _).aG hgb' _).aG hgb' _).mono om).drew,(((((h5.aG hgb _).aG hgb _).aG hgb' _).aG hgb' _).mono om).drew,
  ((((L.setCell hg _).setCell hg _).setCell hg' _).setCell hg' _).drew,hd⟩
theorem zyk (i:Int):val au (limbs i)=i.natAbs:=by rw[yo,jj yq]
theorem CY {n1 n2 bq:Bool} {xs ys qs rs:List Nat} {qi ri:Int} (hp:¬(n1=n2∨val au xs%val au ys=0)) (hs:zi au xs) (hl:xs.length≤30) (ht:zi au ys)
 (P6:val au qs=val au xs/val au ys) (Bf:val au rs=val au xs%val au ys) (hqi:qi=bg bq (val au qs)) (hri:ri=bg n1 (val au rs)) (hbq:bq=(n1 !=n2)) (hy0:0<val au ys) :
 qi.natAbs=val au xs/val au ys∧val au (limbs qi)=val au xs/val au ys∧val au (limbs ri)=val au xs%val au ys∧(limbs qi).length≤30∧(limbs ri).length≤ys.length∧0<(limbs ri).length∧
  val au (limbs ri)≤val au ys∧bq=true∧Hid (bg true (val au xs/val au ys+1)=dq n1 n2 (val au xs) (val au ys))∧Hid (bg n2 (val au ys-val au xs%val au ys)=dr n1 n2 (val au xs) (val au ys)):=by
 obtain ⟨h1,h2⟩:=not_or.1 hp;have ha:qi.natAbs=val au xs/val au ys:=by rw[hqi,vo,P6]
 have hb:ri.natAbs=val au xs%val au ys:=by rw[hri,vo,Bf]
 have hX:val au xs<au^30:=Nat.lt_of_lt_of_le (gj hs) (Nat.pow_le_pow_right (by unfold au;omega) hl);have hY:=gj ht;have hmod:val au xs%val au ys<val au ys:=by
  exact Nat.mod_lt _ hy0
 have hl1:(limbs qi).length≤30:=by
  rw[yo,yp yq,ha];exact Nat.lt_of_le_of_lt (Nat.div_le_self _ _) hX
 have hl2:(limbs ri).length≤ys.length:=by
  rw[yo,yp yq,hb];omega
 refine ⟨ha,by rw[zyk,ha],by rw[zyk,hb],hl1,hl2,?_,by rw[zyk,hb];omega,by rw[hbq];cases n1<;>cases n2<;>simp_all,?_,?_⟩
 · rcases Nat.eq_zero_or_pos (limbs ri).length with h0 | h0
   · have:=zyk ri;rw[List.eq_nil_of_length_eq_zero h0,hb] at this;exact absurd this.symm h2
   · exact h0
 · show _=_
   unfold dq bg;rw[if_neg h1,if_neg h2];simp
 · show _=_
   unfold dr;rw[if_neg h1,if_neg h2]
section
variable (A B:Option Addr) (c d:Nat) (xs ys:List Nat) (w:World)
set_option maxHeartbeats 4000000 in
theorem          yK (hdiv : ∀ w : World,   ay w A xs →   ay w B ys → Calls prog 130 #[.slice A xs.length c, .slice B ys.length d] w (    ypk w (val  au xs) (val  au ys)))
 (n1 n2 : Bool) (hx :   ay w A xs) (hy :   ay w B ys) (hg :    zm n1 xs = true) (hk :    zm n2 ys = true) (h0 : 0 < ys.length) :
 Calls prog 93 #[.agg #[.bool n1, .slice A xs.length c], .agg #[.bool n2, .slice B ys.length d]] w (    CX w (dq n1 n2 (val  au xs) (val  au ys)) (dr n1 n2 (val  au xs) (val  au ys)) 0) := by
 obtain ⟨hs, hn, hl, _⟩ :=         yh hg;obtain ⟨ht, hm, hl', _⟩ :=         yh hk;have HD := Lib.hid hdiv;have hy0 : 0 < val  au ys := Nat.pos_of_ne_zero (         xh      yq hm om);have h00 : ((ys.length : Int) == 0) = false := beq_eq_false_iff_ne.2 om;clear hdiv;go_enter func93, ntmps93
 go_wp2_with fail
 refine (      ye n1 c _ A xs om ((((hx.alloc _).alloc _).alloc _).alloc _)).mono ?_;rintro e w1 ⟨rfl, hb1⟩;have X1 := (((( aA.new w 24 #[.bool n1, .slice A xs.length c]).alloc (.cells #[.bool n2, .slice B ys.length d] 24)).alloc (.cells #[.bool false, .slice none 0 0] 24)).alloc (.cells #[.bool false, .slice none 0 0] 24)).below hb1 (by simp; omega);have Y1 := ((( aA.new (w.alloc (.cells #[.bool n1, .slice A xs.length c] 24)) 24 #[.bool n2, .slice B ys.length d]).alloc (.cells #[.bool false, .slice none 0 0] 24)).alloc (.cells #[.bool false, .slice none 0 0] 24)).below hb1 (by simp; try omega);have R1 := (( aA.new ((w.alloc (.cells #[.bool n1, .slice A xs.length c] 24)).alloc (.cells #[.bool n2, .slice B ys.length d] 24)) 24 #[.bool false, .slice none 0 0]).alloc (.cells #[.bool false, .slice none 0 0] 24)).below hb1 (by simp);have S1 := ( aA.new (((w.alloc (.cells #[.bool n1, .slice A xs.length c] 24)).alloc (.cells #[.bool n2, .slice B ys.length d] 24)).alloc (.cells #[.bool false, .slice none 0 0] 24)) 24 #[.bool false, .slice none 0 0]).below hb1 (by simp);have L1 : Below w.heap.size w w1 := (((((Below.refl _ _).alloc (Nat.le_refl _) _).alloc (by simp) _).alloc (by simp; omega) _).alloc (by simp; omega) _).trans (hb1.mono (by simp; omega));simp only [World.size_alloc] at X1 Y1 R1 S1
 clear hb1;obtain ⟨x0, x1, x2, x3⟩ := X1.two;obtain ⟨y0, y1, y2, y3⟩ := Y1.two;go_wp2_with fail
 refine (      ye n2 d _ B ys om (hy.below L1 (Nat.le_refl _))).mono ?_;rintro e w2 ⟨rfl, hb2⟩;have X2 := X1.below hb2 X1.lt; have Y2 := Y1.below hb2 Y1.lt; have R2 := R1.below hb2 R1.lt; have S2 := S1.below hb2 S1.lt;have L2 := L1.trans (hb2.mono L1.size);clear x0 x1 x2 x3 y0 y1 y2 y3 X1 Y1 R1 S1 L1 hb2;obtain ⟨x0, x1, x2, x3⟩ := X2.two;obtain ⟨y0, y1, y2, y3⟩ := Y2.two;go_wp2_with fail
 refine (HD.out _ (hx.below L2 (Nat.le_refl _)) (hy.below L2 (Nat.le_refl _))).mono ?_;rintro e w3 ⟨A1, c1, qs, A2, c2, rs, rfl, hq, hr,  YX, hrs,  RG, hrl,  P6,  Bf, hb3⟩;have X3 := X2.below hb3 X2.lt; have Y3 := Y2.below hb3 Y2.lt; have R3 := R2.below hb3 R2.lt; have S3 := S2.below hb3 S2.lt;have L3 := L2.trans (hb3.mono L2.size);have HQV := Lib.hid  P6; have HRV := Lib.hid  Bf;clear x0 x1 x2 x3 y0 y1 y2 y3 X2 Y2 R2 S2 L2 hb3  P6  Bf;obtain ⟨x0, x1, x2, x3⟩ := X3.two;obtain ⟨y0, y1, y2, y3⟩ := Y3.two;obtain ⟨bq, hbq⟩ : ∃ b, b = (n1 != n2) := ⟨_, rfl⟩;have hbn : (!(n1 == n2)) = bq := by rw [hbq]; cases n1 <;> cases n2 <;> rfl
 have  axq : (n1 != n2) = bq := hbq.symm;have HBQ := Lib.hid hbq;clear hbq;have  axz := X3.lt; have  axx := Y3.lt; have hR3 : w.heap.size + 1 + 1 < w3.heap.size := R3.lt; have hS3 : w.heap.size + 1 + 1 + 1 < w3.heap.size := S3.lt;obtain ⟨qi, hqi⟩ : ∃ qi, qi =  bg bq (val  au qs) := ⟨_, rfl⟩;obtain ⟨ri, hri⟩ : ∃ ri, ri =  bg n1 (val  au rs) := ⟨_, rfl⟩;have HQI := Lib.hid hqi; have HRI := Lib.hid hri;clear hqi hri;go_upto_region 6 with fail
 go_cut [9, 10] (fun s9 s10 wx => ∃ (g9 g10 : Nat) (A4 : Option Addr) (c4 : Nat) (A5 : Option Addr) (c5 : Nat), s9 = .pointer (some ⟨g9, 0, none⟩) ∧ s10 = .pointer (some ⟨g10, 0, none⟩) ∧ g9 ≠ g10 ∧ w3.heap.size ≤ g9 ∧ w3.heap.size ≤ g10 ∧
   aA wx g9 24 #[.bool (decide (qi < 0)), .slice A4 (limbs qi).length c4] ∧  aA wx g10 24 #[.bool (decide (ri < 0)), .slice A5 (limbs ri).length c5] ∧
  Own wx w3.heap.size A4 c4 (limbs qi) ∧ Own wx w3.heap.size A5 c5 (limbs ri) ∧ Below w3.heap.size w3 wx ∧ Hid (∀ p q, A4 = some p → A5 = some q → p.block ≠ q.block))
 case first =>
  go_region_held3 (fun w' => w'.cell? ⟨w.heap.size, 0, none⟩ = some (.bool n1) ∧ w'.cell? ⟨w.heap.size + 1, 0, none⟩ = some (.bool n2))
   (first | (with_reducible exact ⟨x0, y0⟩) | (with_reducible exact ⟨u0, v0⟩) | (with_reducible exact ⟨p0, q0⟩) | (go_simp; done))
   (first
    | (go_at_call_of 89 (Value.slice A1 qs.length c1); refine (      kh bq A1 c1 qs _ (by repeat (first | with_reducible exact hq | with_reducible apply   ay.alloc | with_reducible apply   ay.drew))  YX  RG).mono ?_; rintro e w4 ⟨A4, c4, rfl,    FC, hb4⟩; rw [← HQI.out] at    FC ⊢; have X4 :  aA w4 w.heap.size 24 #[.bool n1, .slice A xs.length c] :=  aA.below (w := _) (by repeat (first | with_reducible exact X3 | with_reducible apply  aA.alloc | with_reducible apply  aA.drew)) hb4 (by first | exact X3.lt | (simp; omega)); have Y4 :  aA w4 (w.heap.size + 1) 24 #[.bool n2, .slice B ys.length d] :=  aA.below (w := _) (by repeat (first | with_reducible exact Y3 | with_reducible apply  aA.alloc | with_reducible apply  aA.drew)) hb4 (by first | exact Y3.lt | (simp; omega)); have hr4 :   ay w4 A2 rs :=   ay.below (w := _) (by repeat (first | with_reducible exact hr | with_reducible apply   ay.alloc | with_reducible apply   ay.drew)) hb4 (Nat.le_refl _); obtain ⟨u0, u1, u2, u3⟩ := X4.two; obtain ⟨v0, v1, v2, v3⟩ := Y4.two; have  axj := X4.lt; have  ay0 := Y4.lt; obtain ⟨ ai1,  ai2⟩ :=    Fq hb4; have   Nj := hb4.size; (try (simp only [World.size_drew] at  ai1  ai2   Nj)); (try (simp only [World.size_alloc] at  ai1  ai2   Nj)); have ha4 : w3.heap.size ≤ w4.heap.size := om; (first | (have  ai3 : w3.heap.size < w4.heap.size := Nat.lt_of_succ_le   Nj) | (have  ai3 : w3.heap.size < w4.heap.size := Nat.lt_of_succ_lt (Nat.lt_of_succ_le   Nj); have  arx : w3.heap.size + 1 < w4.heap.size := Nat.lt_of_succ_le   Nj) | skip); (first | (refine (fun (Z4a :  aA w4 w3.heap.size 24 #[.bool false, .slice none 0 0]) => ?_) ?_; rotate_left; focus (refine  aA.below (w := _) ?_ hb4 ?_; all_goals (first | omega | (simp; done) | (simp; omega) | ((repeat (first | with_reducible exact  aA.new _ _ _ | with_reducible apply  aA.alloc | with_reducible apply  aA.drew)); done)))) | skip); (first | (refine (fun (Z4b :  aA w4 (w3.heap.size + 1) 24 #[.bool false, .slice none 0 0]) => ?_) ?_; rotate_left; focus (refine  aA.below (w := _) ?_ hb4 ?_; all_goals (first | omega | (simp; done) | (simp; omega) | ((repeat (first | with_reducible exact  aA.new1 _ _ _ _ | with_reducible apply  aA.alloc | with_reducible apply  aA.drew)); done)))) | skip); have ho4 : Own w4 w3.heap.size A4 c4 (limbs qi) :=    FC.mono (by first | exact Nat.le_refl _ | (simp; done) | (simp; omega)); have l4 : Below w3.heap.size w3 w4 := Below.trans (b := _) (by repeat (first | with_reducible exact Below.refl _ _ | (with_reducible refine Below.alloc ?_ (by first | exact Nat.le_refl _ | (simp; done) | (simp; omega)) _) | with_reducible apply Below.drew)) (hb4.mono (by first | exact Nat.le_refl _ | (simp; done) | (simp; omega))))
    | (go_at_call_of 89 (Value.slice A2 rs.length c2); refine (      kh n1 A2 c2 rs _ (by repeat (first | with_reducible exact hr4 | with_reducible apply   ay.alloc | with_reducible apply   ay.drew)) hrs hrl).mono ?_; rintro e w5 ⟨A5, c5, rfl, hown5, hb5⟩; rw [← HRI.out] at hown5 ⊢; have X5 :  aA w5 w.heap.size 24 #[.bool n1, .slice A xs.length c] :=  aA.below (w := _) (by repeat (first | with_reducible exact X4 | with_reducible apply  aA.alloc | with_reducible apply  aA.drew)) hb5 (by first | exact X4.lt | (simp; omega)); have Y5 :  aA w5 (w.heap.size + 1) 24 #[.bool n2, .slice B ys.length d] :=  aA.below (w := _) (by repeat (first | with_reducible exact Y4 | with_reducible apply  aA.alloc | with_reducible apply  aA.drew)) hb5 (by first | exact Y4.lt | (simp; omega)); obtain ⟨p0, p1, p2, p3⟩ := X5.two; obtain ⟨q0, q1, q2, q3⟩ := Y5.two; have  ay1 := X5.lt; have  ay2 := Y5.lt; obtain ⟨ ai4,  ai5⟩ :=    Fq hb5; have   Nk := hb5.size; (try (simp only [World.size_drew] at  ai4  ai5   Nk)); (try (simp only [World.size_alloc] at  ai4  ai5   Nk)); have ha5 : w4.heap.size ≤ w5.heap.size := om; (first | (have  arj : w4.heap.size < w5.heap.size := Nat.lt_of_succ_le   Nk) | (have  arj : w4.heap.size < w5.heap.size := Nat.lt_of_succ_lt (Nat.lt_of_succ_le   Nk); have  ay3 : w4.heap.size + 1 < w5.heap.size := Nat.lt_of_succ_le   Nk) | skip); (first | (have    as0 := Nat.lt_of_lt_of_le  ai3 ha5) | skip); (first | (have    as1 := Nat.lt_of_lt_of_le  arx ha5) | skip); (first | (refine (fun (Z5a :  aA w5 w3.heap.size 24 #[.bool false, .slice none 0 0]) => ?_) ?_; rotate_left; focus (refine  aA.below (w := _) ?_ hb5 ?_; all_goals (first | omega | (simp; done) | (simp; omega) | ((repeat (first | with_reducible exact Z4a | with_reducible apply  aA.alloc | with_reducible apply  aA.drew)); done)))) | skip); (first | (refine (fun (Z5b :  aA w5 (w3.heap.size + 1) 24 #[.bool false, .slice none 0 0]) => ?_) ?_; rotate_left; focus (refine  aA.below (w := _) ?_ hb5 ?_; all_goals (first | omega | (simp; done) | (simp; omega) | ((repeat (first | with_reducible exact Z4b | with_reducible apply  aA.alloc | with_reducible apply  aA.drew)); done)))) | skip); (first | (refine (fun (Z5c :  aA w5 w4.heap.size 24 #[.bool false, .slice none 0 0]) => ?_) ?_; rotate_left; focus (refine  aA.below (w := _) ?_ hb5 ?_; all_goals (first | omega | (simp; done) | (simp; omega) | ((repeat (first | with_reducible exact  aA.new _ _ _ | with_reducible apply  aA.alloc | with_reducible apply  aA.drew)); done)))) | skip); (first | (refine (fun (Z5d :  aA w5 (w4.heap.size + 1) 24 #[.bool false, .slice none 0 0]) => ?_) ?_; rotate_left; focus (refine  aA.below (w := _) ?_ hb5 ?_; all_goals (first | omega | (simp; done) | (simp; omega) | ((repeat (first | with_reducible exact  aA.new1 _ _ _ _ | with_reducible apply  aA.alloc | with_reducible apply  aA.drew)); done)))) | skip); have  ay4 : Own w5 w3.heap.size A4 c4 (limbs (qi)) := Own.below (w := _) (by repeat (first | with_reducible exact ho4 | with_reducible apply Own.alloc | with_reducible apply Own.drew)) hb5 (Nat.le_refl _); have ho5 : Own w5 w3.heap.size A5 c5 (limbs ri) := hown5.mono (by first | omega | (simp; omega)); have l5 : Below w3.heap.size w3 w5 := Below.trans (b := _) (by repeat (first | with_reducible exact l4 | (with_reducible refine Below.alloc ?_ (by first | omega | (simp; omega)) _) | with_reducible apply Below.drew)) (hb5.mono (by first | omega | (simp; omega))); have   Za : Hid (∀ p q, A4 = some p → A5 = some q → p.block ≠ q.block) := (fun p q hp hq' => by have h1 := ho4.ge p hp; have h2 := hown5.ge q hq'; (try simp at h2); omega)))
  all_goals (go_wp2_with fail)
  all_goals go_meet
  all_goals
   refine ⟨_, _, A4, c4, A5, c5, rfl, rfl, ?_, ?_, ?_, ?_, ?_, ?_, ?_, ?_,   Za⟩;all_goals (repeat' (first | with_reducible assumption | with_reducible exact  aA.new _ _ _ | with_reducible exact  aA.new1 _ _ _ _ | (with_reducible refine  aA.newAt ?_; (first | omega | (simp; done) | (simp; omega))) | with_reducible apply  aA.alloc | with_reducible refine  aA.set2 (x := .bool false) (y := .slice none 0 0) ?_ _ _ | with_reducible refine  aA.far ?_ ?_ _ | with_reducible apply Own.alloc | with_reducible refine Own.set2 (x := .bool false) (y := .slice none 0 0) (t := 24) ?_ ?_ ?_ _ _ | with_reducible refine Below.alloc ?_ ?_ _ | with_reducible refine Below.setCell ?_ ?_ _ | omega | (simp; omega) | (simp; done) | decide))
 case rest =>
  obtain ⟨g9, g10, A4, c4, A5, c5, rfl, rfl, hne, hg9,  ay5, Z9, Z10, ho4, ho5, l5,   Za⟩ := hcut;have X5 := X3.below l5 X3.lt; have Y5 := Y3.below l5 Y3.lt; have R5 := R3.below l5 R3.lt; have S5 := S3.below l5 S3.lt;have L5 := L3.trans (l5.mono L3.size);clear x0 x1 x2 x3 y0 y1 y2 y3 X3 Y3 R3 S3 l5 L3;obtain ⟨x0, x1, x2, x3⟩ := X5.two;obtain ⟨y0, y1, y2, y3⟩ := Y5.two;obtain ⟨u0, u1, u2, u3⟩ := Z9.two;obtain ⟨v0, v1, v2, v3⟩ := Z10.two;obtain ⟨r0, r1, r2, r3⟩ := R5.two;obtain ⟨s0, s1, s2, s3⟩ := S5.two;have hr3 : w.heap.size + 1 + 1 < w3.heap.size := hR3;have hs3 : w.heap.size + 1 + 1 + 1 < w3.heap.size := hS3;have e1 : w.heap.size + 1 + 1 ≠ g9 := om;have e2 : w.heap.size + 1 + 1 ≠ g10 := om;have e3 : w.heap.size + 1 + 1 + 1 ≠ g9 := om;have e4 : w.heap.size + 1 + 1 + 1 ≠ g10 := om;by_cases hp : n1 = n2 ∨ val  au xs % val  au ys = 0
  · obtain ⟨L, hL⟩ : ∃ L : Nat, L = (limbs ri).length := ⟨_, rfl⟩;have HQ := Lib.hid (      Nh hp); have HR := Lib.hid (      Ni hp);have hfin : n1 = n2 ∨ L = 0 := by
     rcases hp with h | h
     · exact Or.inl h
     · right
       rw [hL, HRI.out, HRV.out, h]; cases n1 <;> simp [ bg,         qn]
    have hnn : n1 ≠ n2 → L = 0 := fun h => hfin.resolve_left h;rw [← hL] at v1;clear hfin hp;have   YZ : Hid (qi = dq n1 n2 (val  au xs) (val  au ys)) := by show _ = _; rw [HQI.out, HQV.out, HBQ.out]; exact HQ.out
    have   Y0 : Hid (ri = dr n1 n2 (val  au xs) (val  au ys)) := by show _ = _; rw [HRI.out, HRV.out]; exact HR.out
    by_cases h7 : L = 0
    · have h7' : decide ((0 : Int) < (L : Int)) = false := by simp [h7]
      have hlt : ¬ ((0 : Int) < (L : Int)) := om;clear h7 hnn;go_upto_region 10 with fail
      go_region
      go_wp2_with fail
      exact    VR
    · have h12 : n1 = n2 := Classical.byContradiction fun h => h7 (hnn h);subst h12;have h7' : decide ((0 : Int) < (L : Int)) = true := by simp; omega
      have hlt : (0 : Int) < (L : Int) := om;clear h7 hnn;go_upto_region 10 with fail
      go_region
      go_wp2_with fail
      exact    VR
  · obtain ⟨hqx,  P6,  Bf,  ay6,  as2, hL0, hle, hbt,   YZ,   Y0⟩ :=         CY hp hs hl ht HQV.out HRV.out HQI.out HRI.out HBQ.out hy0;have HX := Lib.hid hp; have HL := Lib.hid hle; have HV := Lib.hid  P6; have HW := Lib.hid  Bf;clear hp hle  P6  Bf hqx;subst hbt;obtain ⟨L, hL⟩ : ∃ L : Nat, L = (limbs ri).length := ⟨_, rfl⟩;rw [← hL] at v1;have h7' : decide ((0 : Int) < (L : Int)) = true := by simp; omega
    have hlt : (0 : Int) < (L : Int) := om;have hq5 := ho4.nums; have hr5 := ho5.nums;go_wp2_with fail
    refine (      kZ A4 _ c4 1 (limbs qi) [1] _ (hq5.alloc _) (      yI wc 1 1 rfl om) (        zbx _) (by intro x hx; simp at hx; subst hx; unfold  au; omega) om (by simp)).mono ?_;rintro e w4 ⟨g, zs, rfl, hrow, hzl, hzs, hzv, hge, hb4⟩;have hcx := X5.lt; have hcy := Y5.lt; have hcr := R5.lt; have hcs := S5.lt;have X6 := (X5.alloc _).below hb4 (by simp; omega); have Y6 := (Y5.alloc _).below hb4 (by simp; omega); have R6 := (R5.alloc _).below hb4 (by simp; omega); have S6 := (S5.alloc _).below hb4 (by simp; omega);have hz9 := Z9.lt; have  ay7 := Z10.lt;have Z96 := (Z9.alloc _).below hb4 (by simp; omega); have   Zb := (Z10.alloc _).below hb4 (by simp; omega);have  ai6 := (ho5.alloc _).below hb4 (Nat.le_refl _);have L6 := (L5.alloc L5.size _).trans (hb4.mono (by have := L5.size; simp; omega));have  as3 := hb4.size;simp only [World.size_alloc] at  as3
    have HZV : Hid ( bg true (val  au zs) = dq n1 n2 (val  au xs) (val  au ys)) := by
     show _ = _; rw [hzv, HV.out]; exact   YZ.out
    have   ai7 : zs.length ≤ 1048576 := by rw [hzl]; simp; omega
    have hzn := hrow.nums hzl (     VN hzs);clear hb4 hzl hzv hrow X5 Y5 R5 S5 Z9 Z10 ho4 ho5 L5 hq5 hr5 x0 x1 x2 x3 y0 y1 y2 y3 u0 u1 u2 u3 v0 v1 v2 v3 r0 r1 r2 r3 s0 s1 s2 s3;go_wp2_with fail
    refine (      kh true _ _ zs _ hzn hzs   ai7).mono ?_;rintro e w5 ⟨A6, c6, rfl, ho6, hb5⟩;rw [HZV.out] at ho6 ⊢;have X7 := X6.below hb5 X6.lt; have Y7 := Y6.below hb5 Y6.lt; have R7 := R6.below hb5 R6.lt; have S7 := S6.below hb5 S6.lt;have Z97 := Z96.below hb5 Z96.lt; have  ai8 :=   Zb.below hb5   Zb.lt;have  ai9 :=  ai6.below hb5 (Nat.le_refl _);have L7 := L6.trans (hb5.mono L6.size);have  ay8 := hb5.size;clear hb5 X6 Y6 R6 S6 Z96   Zb  ai6 L6;obtain ⟨u0, u1, u2, u3⟩ := Z97.two;go_upto_region 9 with fail
    have e9x : w.heap.size ≠ g9 := om;have e9y : w.heap.size + 1 ≠ g9 := om;obtain ⟨W, hW⟩ : ∃ W, W = (w5.setCell ⟨g9, 0, none⟩ (.bool (decide (dq n1 n2 (val  au xs) (val  au ys) < 0)))).setCell ⟨g9, 1, none⟩ (.slice A6 (limbs (dq n1 n2 (val  au xs) (val  au ys))).length c6) := ⟨_, rfl⟩;have X8 :  aA W w.heap.size 24 #[.bool n1, .slice A xs.length c] := by rw [hW]; exact (X7.far e9x _).far e9x _
    have Y8 :  aA W (w.heap.size + 1) 24 #[.bool n2, .slice B ys.length d] := by rw [hW]; exact (Y7.far e9y _).far e9y _
    have R8 :  aA W (w.heap.size + 1 + 1) 24 #[.bool false, .slice none 0 0] := by rw [hW]; exact (R7.far e1 _).far e1 _
    have S8 :  aA W (w.heap.size + 1 + 1 + 1) 24 #[.bool false, .slice none 0 0] := by rw [hW]; exact (S7.far e3 _).far e3 _
    have Z98 :  aA W g9 24 #[.bool (decide (dq n1 n2 (val  au xs) (val  au ys) < 0)), .slice A6 (limbs (dq n1 n2 (val  au xs) (val  au ys))).length c6] := by rw [hW]; exact Z97.set2 _ _
    have   Zc :  aA W g10 24 #[.bool (decide (ri < 0)), .slice A5 L c5] := by rw [hW, hL]; exact ( ai8.far hne.symm _).far hne.symm _
    have  as4 : Own W w3.heap.size A5 c5 (limbs ri) := by rw [hW]; exact  ai9.set2 Z97 de _ _
    have  as5 : Own W w4.heap.size A6 c6 (limbs (dq n1 n2 (val  au xs) (val  au ys))) := by rw [hW]; exact ho6.set2 Z97 de _ _
    have L8 : Below w.heap.size w W := by rw [hW]; exact (L7.setCell (by show w.heap.size ≤ g9; omega) _).setCell (by show w.heap.size ≤ g9; omega) _
    have hWs : W.heap.size = w5.heap.size := by rw [hW]; simp
    rw [← hW];clear hW X7 Y7 R7 S7 Z97  ai8  ai9 ho6 L7 u0 u1 u2 u3;have hr8 :=  as4.nums;have hy8 := hy.below L8 (Nat.le_refl _);obtain ⟨x0, x1, x2, x3⟩ := X8.two;obtain ⟨y0, y1, y2, y3⟩ := Y8.two;obtain ⟨v0, v1, v2, v3⟩ :=   Zc.two;subst hL;go_region_with
     (first
      | (go_at_call 132; refine (      lg B A5 d c5 ys (limbs ri) _ (by repeat (first | with_reducible exact hy8 | with_reducible apply   ay.drew)) (by repeat (first | with_reducible exact hr8 | with_reducible apply   ay.drew)) ht (        zbx _) om  as2 HL.out).mono ?_; rintro e w6 ⟨g2, z2, rfl, hrow2,   Zd,  aiq,  aiz,  as6, hb6⟩; (try (simp only [World.size_drew] at  as6)); have Y9 :=  aA.below (w := _) (by repeat (first | with_reducible exact Y8 | with_reducible apply  aA.drew)) hb6 Y8.lt; have R9 :=  aA.below (w := _) (by repeat (first | with_reducible exact R8 | with_reducible apply  aA.drew)) hb6 R8.lt; have S9 :=  aA.below (w := _) (by repeat (first | with_reducible exact S8 | with_reducible apply  aA.drew)) hb6 S8.lt; have Z99 :=  aA.below (w := _) (by repeat (first | with_reducible exact Z98 | with_reducible apply  aA.drew)) hb6 Z98.lt; have   Ze :=  aA.below (w := _) (by repeat (first | with_reducible exact   Zc | with_reducible apply  aA.drew)) hb6   Zc.lt; have  aix := Own.below (w := _) (by repeat (first | with_reducible exact  as5 | with_reducible apply Own.drew)) hb6 (Nat.le_refl _); have L9 := Below.trans (b := _) (by repeat (first | with_reducible exact L8 | with_reducible apply Below.drew)) (hb6.mono L8.size); have  as7 := hb6.size; (try (simp only [World.size_drew] at  as7)); have  as8 : Hid ( bg n2 (val  au z2) = dr n1 n2 (val  au xs) (val  au ys)) := (by show _ = _; rw [ aiz, HW.out]; exact   Y0.out); have     Zf : z2.length ≤ 1048576 := (by rw [  Zd]; omega); have   Zg := hrow2.nums   Zd (     VN  aiq); clear  aiz   Zd; obtain ⟨p0, p1, p2, p3⟩ := Y9.two; obtain ⟨q0, q1, q2, q3⟩ :=   Ze.two)
      | (go_at_call 89; refine (      kh n2 _ _ z2 _ (by repeat (first | with_reducible exact   Zg | with_reducible apply   ay.drew))  aiq     Zf).mono ?_; rintro e w7 ⟨A7, c7, rfl, ho7,  Nl⟩; rw [ as8.out] at ho7 ⊢; have Y10 :=  aA.below (w := _) (by repeat (first | with_reducible exact Y9 | with_reducible apply  aA.drew))  Nl Y9.lt; have R10 :=  aA.below (w := _) (by repeat (first | with_reducible exact R9 | with_reducible apply  aA.drew))  Nl R9.lt; have S10 :=  aA.below (w := _) (by repeat (first | with_reducible exact S9 | with_reducible apply  aA.drew))  Nl S9.lt; have   Zh :=  aA.below (w := _) (by repeat (first | with_reducible exact Z99 | with_reducible apply  aA.drew))  Nl Z99.lt; have    yL :=  aA.below (w := _) (by repeat (first | with_reducible exact   Ze | with_reducible apply  aA.drew))  Nl   Ze.lt; have    VT := Own.below (w := _) (by repeat (first | with_reducible exact  aix | with_reducible apply Own.drew))  Nl (Nat.le_refl _); have L10 := Below.trans (b := _) (by repeat (first | with_reducible exact L9 | with_reducible apply Below.drew)) ( Nl.mono L9.size); have  as9 :=  Nl.size; (try (simp only [World.size_drew] at  as9)); have   aij : Hid (∀ p q, A6 = some p → A7 = some q → p.block ≠ q.block) := (fun p q hp hq' => by have h1 :=  aix.ge p hp; have h2 := ho7.ge q hq'; (try simp at h1 h2); omega); obtain ⟨k0, k1, k2, k3⟩ := Y10.two; obtain ⟨l0, l1, l2, l3⟩ :=    yL.two; obtain ⟨m0, m1, m2, m3⟩ :=   Zh.two; obtain ⟨r0, r1, r2, r3⟩ := R10.two; obtain ⟨s0, s1, s2, s3⟩ := S10.two))
    all_goals
     obtain ⟨V, hV⟩ : ∃ V, V = (w7.setCell ⟨g10, 0, none⟩ (.bool (decide (dr n1 n2 (val  au xs) (val  au ys) < 0)))).setCell ⟨g10, 1, none⟩ (.slice A7 (limbs (dr n1 n2 (val  au xs) (val  au ys))).length c7) := ⟨_, rfl⟩;have R11 :  aA V (w.heap.size + 1 + 1) 24 #[.bool false, .slice none 0 0] := by rw [hV]; exact (R10.far e2 _).far e2 _
     have S11 :  aA V (w.heap.size + 1 + 1 + 1) 24 #[.bool false, .slice none 0 0] := by rw [hV]; exact (S10.far e4 _).far e4 _
     have  asq :  aA V g9 24 #[.bool (decide (dq n1 n2 (val  au xs) (val  au ys) < 0)), .slice A6 (limbs (dq n1 n2 (val  au xs) (val  au ys))).length c6] := by rw [hV]; exact (  Zh.far hne _).far hne _
     have   aj0 :  aA V g10 24 #[.bool (decide (dr n1 n2 (val  au xs) (val  au ys) < 0)), .slice A7 (limbs (dr n1 n2 (val  au xs) (val  au ys))).length c7] := by rw [hV]; exact    yL.set2 _ _
     have   aj1 : Own V w4.heap.size A6 c6 (limbs (dq n1 n2 (val  au xs) (val  au ys))) := by rw [hV]; exact    VT.set2    yL de _ _
     have   aj2 : Own V w6.heap.size A7 c7 (limbs (dr n1 n2 (val  au xs) (val  au ys))) := by rw [hV]; exact ho7.set2    yL de _ _
     have L11 : Below w.heap.size w V := by rw [hV]; exact (L10.setCell (by show w.heap.size ≤ g10; omega) _).setCell (by show w.heap.size ≤ g10; omega) _
     rw [← hV];clear hV R10 S10   Zh    yL    VT ho7 L10 k0 k1 k2 k3 l0 l1 l2 l3 m0 m1 m2 m3 r0 r1 r2 r3 s0 s1 s2 s3 p0 p1 p2 p3 q0 q1 q2 q3 x0 x1 x2 x3 y0 y1 y2 y3 v0 v1 v2 v3;obtain ⟨u0, u1, u2, u3⟩ :=  asq.two;obtain ⟨v0, v1, v2, v3⟩ :=   aj0.two;obtain ⟨r0, r1, r2, r3⟩ := R11.two;obtain ⟨s0, s1, s2, s3⟩ := S11.two;go_upto_region 10 with fail
     go_region
     go_wp2_with fail
     refine bodyPost_ret (v := .tuple #[.agg #[.bool (decide (dq n1 n2 (val  au xs) (val  au ys) < 0)), .slice A6 (limbs (dq n1 n2 (val  au xs) (val  au ys))).length c6], .agg #[.bool (decide (dr n1 n2 (val  au xs) (val  au ys) < 0)), .slice A7 (limbs (dr n1 n2 (val  au xs) (val  au ys))).length c7], .int .i64 0]) (by simp [results, Tryz.results93, go_sem, r0, r1, s0, s1]) rfl ?_;exact      FB (  aj1.mono (b' := w3.heap.size) om) (  aj2.mono (b' := w3.heap.size) om) L11 om hr3 om hs3   aij.out _ _ _ _
end
theorem VU {P:Prop} (h:P:=by
 have e:((g.toNat*v0.toNat:Nat):Int)=g*v0:=by rw[Int.natCast_mul,Int.toNat_of_nonneg hg,Int.toNat_of_nonneg hv]
 unfold B9;omega):P:=h
theorem aj3 {P:Prop} (h:P:=by
 have aj4:(g-1)*v1+(r+v1)=tp:=by rw[Int.sub_mul,Int.one_mul];have:=HGR.out;omega
 have RH:=Lib.hid aj4;clear aj4;have hsub:(g-1).toNat+1=g.toNat:=om;have Zi:=Lib.hid hsub;clear hsub;by_cases hbr:1000000000≤r+v1
 · have asz:g-1<1000000000:=yM (tp:=tp) (v1:=v1) (r:=r+v1) RH.out hbr HTT.out CZ;go_wp2_with fail
   go_quiet (fail)
   have hgt:g-1<1000000000:=asz;have HGG:Hid (R<((g-1).toNat+1)*D):=by show _<_;rw[Zi.out];exact HGD.out
   have HGH:Hid ((g-1).toNat*D≤R+D):=by show _≤_;have:=CS C8.out (by unfold B9;omega) C9.out (rest:=(r+v1).toNat) (ytk RH.out HTP.out om om om hb2' hb1') om;omega
   go_wp2_with fail
   have htk:=yF (some ⟨g4,0,none⟩) g3 (us.length+1) t (us.length+1) (m+2+1) uz vz (g-1) (wo.drewN (nn+nq)) (Zj.drewN _) HUL.out (hnz _) (fun a ha=>by injection ha with ha;rw[←ha];have:=hgz;show g4≠g3;omega) yN sI om (by rw[lC.out];have:=Nn.out;omega) om hgt
    (by rw[lC.out];exact HUB.out) (by have:=HGH.out;rw[HRe.out,HDe.out,Nat.mul_left_comm] at this;exact this)
   rw[lC.out] at htk;refine htk.mono ?_;rintro e w5 ⟨yz,b,rfl,hry,hyl,hys,Zk,hyv,hyb⟩;have HYL:=Lib.hid hyl;have HYV:=Lib.hid hyv;have HYB:=Lib.hid hyb;clear hyl hyv hyb htk;have lD:Row w5 w4.heap.size L qs:=(hrq.drewN _).of_block (Zk.block _ (by simpa using hrq.lt) (by simp;have:=hgz;omega));have Np:Row w5 g4 (m+2+1) P7:=(Bf.drewN _).of_block (Zk.block _ (by simpa using Bf.lt) (by simp;have:=hgz;omega));have L5:Below w.heap.size w w5:=(jn hbel _).grown Zk (jn hbel _).size (fun k hk=>by injection hk with hk;omega);have hqc:=lD.cell (j:=t) om;have Zl:=lD.frozen t;have RG:=lD.lt;have htl:t<L:=om;cases b
   · obtain ⟨n1,n2,n3⟩:=Fz (Ry:=val B9 yz) (Rz:=val B9 uz) (t:=t) (Q:=(g-1).toNat) (V:=val B9 vz) (by have:=HYV.out;rw[if_neg (by simp)] at this;exact this) (HYB.out rfl);have hg1':1≤g-1:=om;have e1:(g-1-1).toNat=(g-1).toNat-1:=om;have HN2:Hid (val B9 yz+B9^t*((g-1-1).toNat*val B9 vz)=val B9 uz):=by show _=_;rw[e1];exact n2
     have Zm:=Lib.hid n3;clear n1 n2 n3 e1;go_wp2
     go_roundw
     case rel=>exact ⟨t,yz,qs.set t (g-1-1).toNat,om,by go_num,HYL.out,by rw[List.length_set];exact Da.out,hys,vh Iq _ _ (by unfold B9;omega),hry.setOther (by simp;have:=hgz;omega) _,lD.setInt _ om (by rw[Da.out];omega),
      Np.setOther (by simp;have:=hgz;omega) _,L5.setCell (by simp;have:=L4.size;omega) _,ybz (by rw[Da.out];omega) Ir.out HN2.out,Zm.out⟩
     case measure=>first | (simp[intOf];done) | (simp[intOf];omega)
   · have RI:=HYV.out;rw[if_pos rfl,Nat.add_zero] at RI;have HYT:=Lib.hid RI;have Zm:=Lib.hid (yH RI (by have:=HGG.out;rw[HRe.out,HDe.out] at this;exact this));clear RI;go_wp2
     go_roundw
     case rel=>exact ⟨t,yz,qs.set t (g-1).toNat,om,by go_num,HYL.out,by rw[List.length_set];exact Da.out,hys,vh Iq _ _ (by unfold B9;omega),hry.setOther (by simp;have:=hgz;omega) _,lD.setInt _ om (by rw[Da.out];omega),
      Np.setOther (by simp;have:=hgz;omega) _,L5.setCell (by simp;have:=L4.size;omega) _,ybz (by rw[Da.out];omega) Ir.out HYT.out,Zm.out⟩
     case measure=>first | (simp[intOf];done) | (simp[intOf];omega)
 · go_wp2_with fail
   go_quiet (fail)
   go_wp2_with fail
   go_roundw
   case rel=>first | exact ⟨g-1,r+v1,rfl,rfl,om,om,om,om,RH.out,by rw[Zi.out];exact HGD.out,_,rfl⟩ | ((repeat apply Exists.intro);exact ⟨⟨g-1,r+v1,rfl,rfl,om,om,om,om,RH.out,by rw[Zi.out];exact HGD.out,_,rfl⟩,rfl⟩)
   case measure=>first | (simp[intOf];done) | (simp[intOf];omega)):P:=h
theorem Iu {vs:List Nat} {m:Nat} (hs:zi B9 vs) (hl:vs.length=m+2) {d:Nat} (hd:d*(vs.getD (m+1) 0+1)≤B9):val B9 vs*d<B9^(m+2)∨d=0:=by
 rcases Nat.eq_zero_or_pos d with h0 | h0
 · exact .inr h0
 left
 have e1:=yr (b:=B9) vs (m+2) om;rw[zu] at e1;have h1:=gj (vm hs (m+1));rw[List.length_take,Nat.min_eq_left om] at h1;have h2:val B9 vs<B9^(m+1)*(vs.getD (m+1) 0+1):=by rw[Nat.mul_add,Nat.mul_one];omega
 have h3:val B9 vs*d<B9^(m+1)*(vs.getD (m+1) 0+1)*d:=Nat.mul_lt_mul_of_pos_right h2 h0;have h4:B9^(m+1)*(vs.getD (m+1) 0+1)*d≤B9^(m+1)*B9:=by
  rw[Nat.mul_assoc,Nat.mul_comm (vs.getD (m+1) 0+1)];exact Nat.mul_le_mul_left _ hd
 rw[show m+2=m+1+1 from rfl,Nat.pow_succ];omega
theorem Db {us vs:List Nat} {m N d:Nat} (hu:zi B9 us) (hul:us.length=N) (hv:xg vs) (hvl:vs.length=m+2) (hN:m+2≤N) (hd:0<d):val B9 us*d<B9^(N+1-(m+2))*(val B9 vs*d):=by
 have h1:=gj hu;have h2:=rY qx hv om;rw[hul] at h1;rw[hvl] at h2;have h3:B9^(N+1-(m+2))*B9^(m+2-1)≤B9^(N+1-(m+2))*val B9 vs:=Nat.mul_le_mul_left _ h2;rw[←Nat.pow_add,show N+1-(m+2)+(m+2-1)=N from om] at h3;rw[←Nat.mul_assoc];exact Nat.mul_lt_mul_of_pos_right om hd
theorem yO {tp v1 x2 x1:Int} (h2:0≤x2) (h1:0≤x1) (ht:tp=x2*1000000000+x1) (hv:0<v1) (hb2:x2<1000000000:=by omega) (hb1:x1<1000000000:=by omega) :
 0≤tp/v1∧tp/v1≤2000000000000000000∧0≤tp%v1∧tp%v1<v1∧tp/v1*v1+tp%v1=tp∧x2.toNat*B9+x1.toNat<((tp/v1).toNat+1)*v1.toNat:=by
 have a0:0≤tp:=om;have a1:0≤tp/v1:=Int.ediv_nonneg a0 om;have a2:tp/v1≤tp:=Int.ediv_le_self _ a0;have a3:=Int.emod_nonneg tp (show v1≠0 from om);have a4:=Int.emod_lt_of_pos tp hv;have a5:tp/v1*v1+tp%v1=tp:=Int.ediv_mul_add_emod tp v1;refine ⟨a1,om,a3,a4,a5,?_⟩;have e:((((tp/v1).toNat+1)*v1.toNat:Nat):Int)=tp/v1*v1+v1:=by
  rw[Int.natCast_mul,Int.natCast_add,Int.toNat_of_nonneg a1,Int.toNat_of_nonneg om,Int.add_mul,Int.natCast_one,Int.one_mul]
 unfold B9;omega
theorem yM {g r tp v1:Int} (h:g*v1+r=tp) (hr:1000000000≤r) (ht:tp<(v1+1)*1000000000) (hv:0<v1):g<1000000000:=by
 rcases (by omega:g<1000000000∨1000000000≤g) with h1 | h1
 · exact h1
 · exfalso
   have h2:1000000000*v1≤g*v1:=Int.mul_le_mul_of_nonneg_right h1 om;omega
theorem ytk {g r tp v1 x2 x1:Int} (h:g*v1+r=tp) (ht:tp=x2*1000000000+x1) (hg:0≤g) (hr:0≤r) (hv:0≤v1) (h2:0≤x2) (h1:0≤x1):g.toNat*v1.toNat+r.toNat=x2.toNat*B9+x1.toNat:=by
 have e:((g.toNat*v1.toNat:Nat):Int)=g*v1:=by rw[Int.natCast_mul,Int.toNat_of_nonneg hg,Int.toNat_of_nonneg hv]
 unfold B9;omega
theorem Iw {g r v0 x0:Int} (h:r*1000000000+x0<g*v0) (hg:0≤g) (hr:0≤r) (hx:0≤x0):1≤g:=by
 rcases Int.lt_or_eq_of_le hg with h1 | h1
 · omega
 · rw[←h1,Int.zero_mul] at h;omega
theorem Iy {g r v0 x0:Int} (h:r*1000000000+x0<g*v0) (hg:0≤g) (hr:0≤r) (hx:0≤x0) (hv:0≤v0):r.toNat*B9+x0.toNat<g.toNat*v0.toNat:=by
 exact VU
theorem nA {g r v0 x0:Int} (h:¬r*1000000000+x0<g*v0) (hg:0≤g) (hr:0≤r) (hx:0≤x0) (hv:0≤v0):g.toNat*v0.toNat≤r.toNat*B9+x0.toNat:=by
 exact VU
set_option maxRecDepth 100000 in
set_option maxHeartbeats 4000000 in
theorem yP (A B:Option Addr) (c d:Nat) (xs ys:List Nat) (w:World) (hx:ay w A xs) (hy:ay w B ys) (hs:zi au xs) (ht:zi au ys) (hl:xs.length≤1000) (hl':ys.length≤1000)
 (m:Nat) (h1:(aI B9 (val au ys)).length=m+2) (h2:(aI B9 (val au ys)).length≤(aI B9 (val au xs)).length) :
 Calls prog 130 #[.slice A xs.length c,.slice B ys.length d] w (ypk w (val au xs) (val au ys)):=by
 have hu:=ygv hs;have asx:=ygv ht;go_enter func130,ntmps130
 go_wp2_with fail
 refine (zqq B d ys _ hy ht om).mono ?_;rintro e w1 ⟨A1,c1,vs,rfl,hv,hvd,hb1⟩;have RF:=Lib.hid hvd;clear hvd;go_wp2_with fail
 refine lu ?_;rintro e w2 ⟨A2,c2,us,rfl,hus,hud,hb2⟩;have L2:=hb1.trans (hb2.mono hb1.size);have hv2:=hv.below hb2 (Nat.le_refl _);have Km:vs.length=m+2:=by rw[RF.out];exact h1
 have hun:vs.length≤us.length:=by rw[RF.out,hud];exact h2
 obtain ⟨gv,rfl,hg0,hg1,hcap,hc⟩:=hv2.at_ om;have aj5:=hc (m+1) om;have hsv:zi B9 vs:=by rw[RF.out];exact jo qx _
 have hnv:xg vs:=by rw[RF.out];exact zav qx _
 have hsu:zi B9 us:=by rw[hud];exact jo qx _
 have hvx:val B9 us=val au xs:=by rw[hud];exact jj qx _
 have hvy:val B9 vs=val au ys:=by rw[RF.out];exact jj qx _
 have hul:us.length≤2000:=by rw[hud];omega
 have hvl:m+2≤2000:=by rw[←h1];omega
 have aj6:1≤nth vs (m+1):=by
  rcases hnv with h | h
  · omega
  · rw[Km] at h;have:vs.getD (m+1) 0≠0:=h;unfold nth;omega
 have aj7:nth vs (m+1)<1000000000:=qj (by unfold B9;omega) hsv _;have hd0:1≤1000000000/(nth vs (m+1)+1):=Int.le_ediv_of_mul_le om om;have hd1:1000000000/(nth vs (m+1)+1)≤1000000000:=Int.ediv_le_self _ om;have hd2:(nth vs (m+1)+1==0)=false:=beq_eq_false_iff_ne.2 om;have hdm:1000000000/(nth vs (m+1)+1)*(nth vs (m+1)+1)≤1000000000:=Int.ediv_mul_le _ om;have hd9:1000000000/(nth vs (m+1)+1)≤500000000:=by
  have h:1000000000/(nth vs (m+1)+1)<500000001:=Int.ediv_lt_of_lt_mul om om;omega
 have hv1:((vs.length:Int)==1)=false:=beq_eq_false_iff_ne.2 om;have hlt:¬(us.length:Int)<(vs.length:Int):=om;have HX:=Lib.hid hvx;have HY:=Lib.hid hvy;have HN:=Lib.hid Km;have HDM:=Lib.hid hdm;have HNV:=Lib.hid hnv;have hm1:(m:Int)+2≤(us.length:Int):=om;clear hvx hvy hud h1 h2 hc hu asx hun hdm hnv;rw[Km] at hv1 hlt ⊢;clear Km;obtain ⟨dd,hdd⟩:∃dd,dd=1000000000/(nth vs (m+1)+1):=⟨_,rfl⟩;rw[←hdd] at hd0 hd1 hd9;have aj8:1000000000/(nth vs (m+1)+1)=dd:=hdd.symm;have HDD:=Lib.hid hdd;clear hdd;go_wp2_with fail
 refine (lq A2 c2 us dd _ (by exact hus.nums) hsu om om hd1).mono ?_;rintro e w3 ⟨g3,us0,rfl,hr3,hl3,hs3,VW,hg3,hb3⟩;have hu0:us0.length=us.length+1:=hl3;have HU0:=Lib.hid hu0;have HV3:=Lib.hid VW;rw[hl3];clear hl3 hu0 VW;have hv3:=hv2.below hb3 (Nat.le_refl _);go_wp2_with fail
 have hsc:=lq (some ⟨gv,0,none⟩) c1 vs dd w3 hv3.nums hsv (by rw[HN.out];omega) om hd1;rw[HN.out] at hsc;refine hsc.mono ?_;rintro e w4 ⟨g4,P7,rfl,hr4,hl4,hs4,VX,hg4,hb4⟩;have HV0:Hid (P7.length=m+3):=hl4;have HV4:=Lib.hid VX;rw[hl4];clear hl4 VX hsc;have aj9:=hr3.below hb4 hr3.lt;have L3:=L2.trans (hb3.mono L2.size);have L4:=L3.trans (hb4.mono L3.size);obtain ⟨L,hLe⟩:∃L,L=us.length+1-(m+2):=⟨_,rfl⟩;have hmk:=VO L om;have hL:(us.length:Int)+1-((m:Int)+2)=(L:Int):=om;have hLN:us.length+1=L+m+2:=om;have hL1:1≤L:=om;have Nn:=Lib.hid hLN;have hlow:val B9 P7<B9^(m+2):=by
  rw[HV4.out];rcases Iu hsv HN.out (d:=dd.toNat) (by
   have h:=HDM.out;rw[aj8] at h;have e1:nth vs (m+1)=((vs.getD (m+1) 0:Nat):Int):=by unfold nth;rfl
   rw[e1] at h;obtain ⟨q,rfl⟩:=Int.eq_ofNat_of_zero_le (show 0≤dd from om);have h2:((q*(vs.getD (m+1) 0+1):Nat):Int)≤1000000000:=by rw[Int.natCast_mul,Int.natCast_add];exact h
   simp only[Int.toNat_natCast];unfold B9;omega) with h | h
  · exact h
  · omega
 have hz4:=ks qx hlow;obtain ⟨vz,VY⟩:∃vz,vz=P7.take (m+2):=⟨_,rfl⟩;have ajq:vz.length=m+2:=by rw[VY,List.length_take,HV0.out];omega
 have sI:zi B9 vz:=by rw[VY];exact vm hs4 _
 have RJ:val B9 vz=val B9 vs*dd.toNat:=by rw[VY,qp P7 (m+2) (fun j hj _=>hz4 j hj)];exact HV4.out
 have ajz:∀j,j<m+2→nth P7 j=nth vz j:=fun j hj=>by rw[VY,xL _ _ _ hj]
 have hstart:val B9 us0<B9^L*val B9 vz:=by
  have h:=Db (N:=us.length) (d:=dd.toNat) hsu rfl HNV.out HN.out om om;rw[HV3.out,RJ,hLe];exact h
 have VZ:0<nth vz (m+1):=by
  have h1:=zw vz (m+1);rcases Int.lt_or_eq_of_le h1 with h | h
  · exact h
  · exfalso
    have YW:ke vz (m+1):=fun j hj=>by
     by_cases e:j=m+1
     · rw[e];unfold nth at h;omega
     · exact zmx _ _ om
    have h2:=ztq qx sI YW;have h3:=rY qx HNV.out (by rw[HN.out];omega);rw[HN.out,show m+2-1=m+1 from rfl] at h3;have h4:val B9 vs*1≤val B9 vs*dd.toNat:=Nat.mul_le_mul_left _ om;rw[RJ] at h2;omega
 have HVT:=Lib.hid VZ;clear VZ;have hr5:=(Row.made w4 L).fill;simp only[List.nil_append,List.length_nil,Nat.sub_zero] at hr5
 have L5:Below w.heap.size w (w4.alloc (.cells (madeCells #[.int .u64 0] L) 25)):=L4.alloc L4.size _;have ajx:Row (w4.alloc (.cells (madeCells #[.int .u64 0] L) 25)) g3 (us.length+1) us0:=aj9.alloc _;have ajj:Row (w4.alloc (.cells (madeCells #[.int .u64 0] L) 25)) g4 (m+2+1) P7:=hr4.alloc _;have hgz:w2.heap.size≤g3∧g3<g4∧g4<w4.heap.size:=⟨hg3,by have:=hr3.lt;omega,hr4.lt⟩;have ay9:w.heap.size≤g3:=by have:=L2.size;omega
 have HVN:=Lib.hid ajz;have lC:=Lib.hid ajq;have ak0:=Lib.hid RJ;have HST:=Lib.hid hstart;clear hLN hLe VY ajq RJ ajz hstart hlow hz4 HV4 HV0 hs4 hr3 aj9 hr4 hb4 hb3 hg3 hg4 L3 hv3 hv2 hv hus hb1 hb2 L2 hg0 hcap;go_wp2_with fail
 clear aj5 aj6 aj7 hd2 aj8 hL hmk;go_loopw [13] (fun v wr=>∃(k:Nat) (uz qs:List Nat),k≤L∧v= .int .i64 ((k:Int)-1)∧uz.length=us.length+1∧qs.length=L∧zi B9 uz∧zi B9 qs∧Row wr g3 (us.length+1) uz∧Row wr w4.heap.size L qs∧
  Row wr g4 (m+2+1) P7∧Below w.heap.size w wr∧val B9 us0=B9^k*(val B9 (qs.drop k)*val B9 vz)+val B9 uz∧val B9 uz<B9^k*val B9 vz) (fun v _=>(intOf v+1).toNat)
 case atStart=>exact ⟨L,us0,List.replicate L 0,Nat.le_refl _,rfl,HU0.out,by simp,hs3,fun x hx=>by rw[List.mem_replicate] at hx;rw[hx.2];unfold B9;omega,ajx,hr5,ajj,L5,by simp[val],HST.out⟩
 case round=>
  obtain ⟨k,uz,qs,hk,rfl,ak1,ak2,yN,Iq,Zj,hrq,Bf,hbel,hval,hlt'⟩:=hrel;have HUL:=Lib.hid ak1;have Da:=Lib.hid ak2;have Ir:=Lib.hid hval;have RD:=Lib.hid hlt';clear ak1 ak2 hval hlt' ajx ajj hr5 L5;by_cases hk0:k=0
  · subst hk0;have hve:=Ir.out;have hle:=RD.out;simp only[Nat.pow_zero,Nat.one_mul,List.drop_zero] at hve hle
    have hub:val B9 uz<B9^(m+2):=by
     have h2:=gj sI;rw[lC.out] at h2;omega
    have hut:(uz.take (m+2)).length=m+2:=by rw[List.length_take,HUL.out];have:=Nn.out;omega
    have huv:val B9 (uz.take (m+2))=val B9 uz:=qp uz (m+2) (fun j hj _=>ks qx hub j hj);have hnu:ay wr (some ⟨g3,0,none⟩) (uz.take (m+2)):=⟨xj (fun x hx=>by have:=vm yN (m+2) x hx;unfold B9 at this;omega),fun _=>⟨g3,0,rfl,Zj.lt,fun j hj=>by
     rw[Nat.zero_add,xL _ _ _ (by rw[←hut];exact hj)];exact Zj.cell (by rw[hut] at hj;have:=Nn.out;omega)⟩⟩
    have hnq:ay wr (some ⟨w4.heap.size,0,none⟩) qs:=⟨xj (fun x hx=>by have:=Iq x hx;unfold B9 at this;omega),fun _=>⟨w4.heap.size,0,rfl,hrq.lt,fun j hj=>by
     rw[Nat.zero_add];exact hrq.cell (by rw[←Da.out];exact hj)⟩⟩
    have HVE:=Lib.hid hve;have K6:=Lib.hid hle;have HUV:=Lib.hid huv;have HUT:=Lib.hid hut;have hm3:(0:Int)≤(m:Int)+2:=om;have hm4:(m:Int)+2≤(us.length:Int)+1:=om;clear hve hle huv hut Ir RD HDD;go_wp2_with fail
    have hsh:=oP (some ⟨g3,0,none⟩) (us.length+1) (uz.take (m+2)) dd wr hnu (vm yN _) (by rw[HUT.out];omega) om om;rw[HUT.out] at hsh;refine hsh.mono ?_;rintro e w6 ⟨g6,zs,r,rfl,hr6,hz6,ak3,ayq,ayz,hv6,hg6,hb6⟩;have HZ6:=Lib.hid hz6;have HV6:=Lib.hid hv6;clear hz6 hv6 hsh;go_wp2_with fail
    have hdb:=zyz (some ⟨w4.heap.size,0,none⟩) L qs w6 (hnq.below hb6 (Nat.le_refl _)) Iq (by rw[Da.out];have:=Nn.out;omega);rw[Da.out] at hdb;refine hdb.mono ?_;rintro e w7 ⟨A7,c7,q7,rfl,hq7,asj,ak4,ayx,Nl⟩;have HQ7:=Lib.hid ak4;clear ak4 hdb;go_wp2_with fail
    refine (zyz _ _ zs _ (by exact (hr6.nums rfl (fun x hx=>by have:=ak3 x hx;unfold B9 at this;omega)).below Nl (Nat.le_refl _)) ak3 (by have:=HZ6.out;omega)).mono ?_;rintro e w8 ⟨A8,c8,q8,rfl,hq8,at0,ak5,ayj,hb8⟩;have HQ8:=Lib.hid ak5;clear ak5;go_wp2
    go_ret2
    obtain ⟨d1,d2⟩:=Nf (X:=val au xs) (Y:=val au ys) (Q:=val B9 qs) (Z:=val B9 zs) (d:=dd.toNat) (r:=r.toNat) (by
     rw[←HX.out,←HV3.out,HVE.out,ak0.out,HY.out,←HUV.out,HV6.out]) om (by rw[←HY.out,←ak0.out,←HV6.out,HUV.out];exact K6.out)
    obtain ⟨e1,e2⟩:=Ng d1 d2;have L6:=hbel.trans (hb6.mono hbel.size);have L7:=L6.trans (Nl.mono L6.size);exact ⟨A7,c7,q7,A8,c8,q8,rfl,hq7.nums.below hb8 (Nat.le_refl _),hq8.nums,asj,at0,by have:=Nn.out;omega,by have:=HZ6.out;omega,by rw[HQ7.out];exact e1,by rw[HQ8.out];exact e2,L7.trans (hb8.mono L7.size)⟩
  · obtain ⟨t,rfl⟩:∃t,k=t+1:=⟨k-1,om⟩;obtain ⟨wo,rfl⟩:∃wo:World,wo=wr:=⟨_,rfl⟩;have ht1:((t+1:Nat):Int)-1=(t:Int):=om;rw[ht1];clear ht1 hk0;have hc2:=Zj.cell (j:=t+(m+2)) (by have:=Nn.out;omega);have hc1:=Zj.cell (j:=t+(m+1)) (by have:=Nn.out;omega);have hc0:=Zj.cell (j:=t+m) (by have:=Nn.out;omega);have ak6:=Bf.cell (j:=m+1) om;have ak7:=Bf.cell (j:=m) om;rw[HVN.out _ om] at ak6 ak7;have ak8:val B9 uz<B9^(t+(m+2)+1):=by
     have h1:=RD.out;have h2:=gj sI;rw[lC.out] at h2;have h3:B9^(t+1)*val B9 vz<B9^(t+1)*B9^(m+2):=Nat.mul_lt_mul_of_pos_left h2 (xK qx _);rw[←Nat.pow_add,show t+1+(m+2)=t+(m+2)+1 from om] at h3;omega
    have hzu:ke uz (t+m+3):=ks qx (by rw[show t+m+3=t+(m+2)+1 from om];exact ak8);obtain ⟨C9,Iz⟩:=Nb (us:=uz) (t:=t) (m:=m) yN hzu (by have:=HUL.out;have:=Nn.out;omega);obtain ⟨Dc,C8⟩:=Nc (vs:=vz) (t:=t) (m:=m) sI lC.out;have hb2:nth uz (t+(m+2))<1000000000:=qj (by unfold B9;omega) yN _;have hb1:nth uz (t+(m+1))<1000000000:=qj (by unfold B9;omega) yN _;have hb0:nth uz (t+m)<1000000000:=qj (by unfold B9;omega) yN _;have hb2':=zw uz (t+(m+2));have hb1':=zw uz (t+(m+1));have RL:=zw uz (t+m);have at1:nth vz (m+1)<1000000000:=qj (by unfold B9;omega) sI _;have at5:nth vz m<1000000000:=qj (by unfold B9;omega) sI _;have yQ:=zw vz m;have CZ:0<nth vz (m+1):=HVT.out;have hR:val B9 uz<B9*(B9^t*val B9 vz):=by have:=RD.out;rw[Nat.pow_succ,Nat.mul_assoc,Nat.mul_left_comm] at this;exact this
    obtain ⟨R,hRe⟩:∃R,R=val B9 uz:=⟨_,rfl⟩;obtain ⟨D,hDe⟩:∃D,D=B9^t*val B9 vz:=⟨_,rfl⟩;obtain ⟨Pw,hPe⟩:∃Pw,Pw=B9^(t+m):=⟨_,rfl⟩;rw[←hRe,←hPe] at C9 Iz;rw[←hDe,←hPe] at Dc C8;rw[←hRe,←hDe] at hR;obtain ⟨x2,hx2⟩:∃x,x=nth uz (t+(m+2)):=⟨_,rfl⟩;obtain ⟨x1,hx1⟩:∃x,x=nth uz (t+(m+1)):=⟨_,rfl⟩;obtain ⟨x0,hx0⟩:∃x,x=nth uz (t+m):=⟨_,rfl⟩;obtain ⟨v1,Zn⟩:∃x,x=nth vz (m+1):=⟨_,rfl⟩;obtain ⟨v0,Zo⟩:∃x,x=nth vz m:=⟨_,rfl⟩;have ex2:uz.getD (t+m+2) 0=x2.toNat:=by rw[hx2,zlk];rfl
    have ex1:uz.getD (t+m+1) 0=x1.toNat:=by rw[hx1,zlk];rfl
    have ex0:uz.getD (t+m) 0=x0.toNat:=by rw[hx0,zlk]
    have ev1:vz.getD (m+1) 0=v1.toNat:=by rw[Zn,zlk]
    have Bg:vz.getD m 0=v0.toNat:=by rw[Zo,zlk]
    rw[ex2,ex1,ex0] at C9 Iz;rw[ev1,Bg] at Dc C8;rw[←hx2] at hc2 hb2 hb2';rw[←hx1] at hc1 hb1 hb1';rw[←hx0] at hc0 hb0 RL;rw[←Zn] at ak6 at1 CZ;rw[←Zo] at ak7 at5 yQ;have HRe:=Lib.hid hRe;have HDe:=Lib.hid hDe;have C9:=Lib.hid C9;have Iz:=Lib.hid Iz;have Dc:=Lib.hid Dc;have C8:=Lib.hid C8;have hR:=Lib.hid hR;clear hRe hDe hPe hx2 hx1 hx0 Zn Zo ex2 ex1 ex0 ev1 Bg;have hi1:(t:Int)+((m:Int)+2)<(us.length:Int)+1:=by have:=Nn.out;omega
    have hi0:(0:Int)≤(t:Int)+((m:Int)+2):=om;have hw1:IntKind.i64.wrap ((t:Int)+((m:Int)+2))=(t:Int)+((m:Int)+2):=IntWalk.i64_in _ om;have hw2:IntKind.i64.wrap ((t:Int)+((m:Int)+2)-1)=(t:Int)+((m:Int)+2)-1:=IntWalk.i64_in _ om;have hw3:IntKind.i64.wrap ((m:Int)+2-1)=(m:Int)+2-1:=IntWalk.i64_in _ om;obtain ⟨tp,htp⟩:∃tp,tp=x2*1000000000+x1:=⟨_,rfl⟩;have hq1:IntKind.u64.wrap (x2*1000000000)=x2*1000000000:=by simp[IntKind.wrap,IntKind.signed,IntKind.bits];omega
    have hq2:IntKind.u64.wrap (x2*1000000000+x1)=tp:=by rw[htp];simp[IntKind.wrap,IntKind.signed,IntKind.bits];omega
    have az0:0≤tp:=om;have az1:tp<1000000000000000000:=om;have az2:(v1==0)=false:=beq_eq_false_iff_ne.2 om;have HTP:=Lib.hid htp;clear htp;go_wp2
    go_quiet (fail)
    go_wp2_with fail
    go_quiet (fail)
    go_wp2_with fail
    have htt:tp<(v1+1)*1000000000:=by
     have h:=Ip C8.out (by unfold B9;omega) C9.out hR.out;have e:=HTP.out;unfold B9 at h;omega
    have HTT:=Lib.hid htt;clear htt;have HUB:Hid (val B9 uz<B9^(t+(m+2)+1)):=ak8;have hnz:∀k,ay (wo.drewN k) (some ⟨g4,0,none⟩) vz:=fun k=>⟨xj (fun x hx=>by have:=sI x hx;unfold B9 at this;omega),fun _=>⟨g4,0,rfl,(Bf.drewN k).lt,fun j hj=>by rw[Nat.zero_add,←HVN.out j (by rw[←lC.out];exact hj)];exact (Bf.drewN k).cell (by rw[lC.out] at hj;omega)⟩⟩;have hgf:=yO (tp:=tp) (v1:=v1) (x2:=x2) (x1:=x1) hb2' hb1' HTP.out CZ;obtain ⟨f0,f1,f2,f3,f4,f5⟩:=hgf;have hG0:R<((tp/v1).toNat+1)*D:=yG Dc.out Iz.out (by unfold B9;omega) f5;have HG0:=Lib.hid hG0;have HF4:=Lib.hid f4;clear hG0 f4 f5 hq1 hq2 hw1 hw2 hc2 hc1;have hw4:IntKind.i64.wrap ((t:Int)+((m:Int)+2)-2)=(t:Int)+(m:Int):=by rw[IntWalk.i64_in _ om];omega
    have hw5:IntKind.i64.wrap ((m:Int)+2-2)=(m:Int):=by rw[IntWalk.i64_in _ om];omega
    have hw1:IntKind.i64.wrap ((t:Int)+((m:Int)+2))=(t:Int)+((m:Int)+2):=IntWalk.i64_in _ om;go_loopw [15,16] (fun gv rv wx=>∃g r:Int,gv= .int .u64 g∧rv= .int .u64 r∧0≤g∧g≤2000000000000000000∧0≤r∧r<1000000000∧g*v1+r=tp∧R<(g.toNat+1)*D∧ ∃nn,wx=wo.drewN nn) (fun gv _ _=>(intOf gv).toNat)
    case atStart=>exact ⟨_,_,rfl,rfl,f0,f1,f2,om,HF4.out,HG0.out,_,by simp only[World.drewN_drewN];rfl⟩
    case round=>
     obtain ⟨g,r,rfl,rfl,hg0,hg1,hr0,hr1,hgr,hG,nn,rfl⟩:=hrel;have HGR:=Lib.hid hgr;have HG:=Lib.hid hG;clear hgr hG f0 f1 f2 f3;have az3:decide (r<1000000000)=true:=by simpa using hr1
     by_cases hg9:1000000000≤g
     · have at6:decide (1000000000≤g)=true:=by simpa using hg9
       have hgp:1≤g:=om;have HGD:Hid (R<g.toNat*D):=CQ hR.out (by unfold B9;omega);exact aj3
     · have at6:decide (1000000000≤g)=false:=by simp;omega
       have hp0:0≤g*v0:=Int.mul_nonneg hg0 yQ;have hp1:g*v0≤999999999*999999999:=Int.mul_le_mul om om yQ om;have hwp:IntKind.u64.wrap (g*v0)=g*v0:=by simp[IntKind.wrap,IntKind.signed,IntKind.bits];omega
       have hwr:IntKind.u64.wrap (r*1000000000)=r*1000000000:=by simp[IntKind.wrap,IntKind.signed,IntKind.bits];omega
       have hws:IntKind.u64.wrap (r*1000000000+x0)=r*1000000000+x0:=by simp[IntKind.wrap,IntKind.signed,IntKind.bits];omega
       by_cases hcmp:r*1000000000+x0<g*v0
       · have hcd:decide (r*1000000000+x0<g*v0)=true:=by simpa using hcmp
         have hgp:1≤g:=Iw hcmp hg0 hr0 RL;have HGD:Hid (R<g.toNat*D):=sH Dc.out Iz.out (ytk HGR.out HTP.out hg0 hr0 om hb2' hb1') (Iy hcmp hg0 hr0 RL yQ);exact aj3
       · have hcd:decide (r*1000000000+x0<g*v0)=false:=by simpa using hcmp
         go_wp2_with fail
         go_quiet (fail)
         have hgt:g<1000000000:=om;have HGG:Hid (R<((g).toNat+1)*D):=HG;have HGH:Hid ((g).toNat*D≤R+D):=by show _≤_;exact CU C8.out Dc.out om C9.out (ytk HGR.out HTP.out hg0 hr0 om hb2' hb1') (by unfold B9;omega) (nA (by have:=hcmp;omega) hg0 hr0 RL yQ)
         go_wp2_with fail
         have htk:=yF (some ⟨g4,0,none⟩) g3 (us.length+1) t (us.length+1) (m+2+1) uz vz (g) (wo.drewN (nn+nq)) (Zj.drewN _) HUL.out (hnz _) (fun a ha=>by injection ha with ha;rw[←ha];have:=hgz;show g4≠g3;omega) yN sI om (by rw[lC.out];have:=Nn.out;omega) om hgt
          (by rw[lC.out];exact HUB.out) (by have:=HGH.out;rw[HRe.out,HDe.out,Nat.mul_left_comm] at this;exact this)
         rw[lC.out] at htk;refine htk.mono ?_;rintro e w5 ⟨yz,b,rfl,hry,hyl,hys,Zk,hyv,hyb⟩;have HYL:=Lib.hid hyl;have HYV:=Lib.hid hyv;have HYB:=Lib.hid hyb;clear hyl hyv hyb htk;have lD:Row w5 w4.heap.size L qs:=(hrq.drewN _).of_block (Zk.block _ (by simpa using hrq.lt) (by simp;have:=hgz;omega));have Np:Row w5 g4 (m+2+1) P7:=(Bf.drewN _).of_block (Zk.block _ (by simpa using Bf.lt) (by simp;have:=hgz;omega));have L5:Below w.heap.size w w5:=(jn hbel _).grown Zk (jn hbel _).size (fun k hk=>by injection hk with hk;omega);have hqc:=lD.cell (j:=t) om;have Zl:=lD.frozen t;have RG:=lD.lt;have htl:t<L:=om;cases b
         · obtain ⟨n1,n2,n3⟩:=Fz (Ry:=val B9 yz) (Rz:=val B9 uz) (t:=t) (Q:=(g).toNat) (V:=val B9 vz) (by have:=HYV.out;rw[if_neg (by simp)] at this;exact this) (HYB.out rfl);have hg1':1≤g:=om;have e1:(g-1).toNat=(g).toNat-1:=om;have HN2:Hid (val B9 yz+B9^t*((g-1).toNat*val B9 vz)=val B9 uz):=by show _=_;rw[e1];exact n2
           have Zm:=Lib.hid n3;clear n1 n2 n3 e1;go_wp2
           go_roundw
           case rel=>exact ⟨t,yz,qs.set t (g-1).toNat,om,by go_num,HYL.out,by rw[List.length_set];exact Da.out,hys,vh Iq _ _ (by unfold B9;omega),hry.setOther (by simp;have:=hgz;omega) _,lD.setInt _ om (by rw[Da.out];omega),
            Np.setOther (by simp;have:=hgz;omega) _,L5.setCell (by simp;have:=L4.size;omega) _,ybz (by rw[Da.out];omega) Ir.out HN2.out,Zm.out⟩
           case measure=>first | (simp[intOf];done) | (simp[intOf];omega)
         · have RI:=HYV.out;rw[if_pos rfl,Nat.add_zero] at RI;have HYT:=Lib.hid RI;have Zm:=Lib.hid (yH RI (by have:=HGG.out;rw[HRe.out,HDe.out] at this;exact this));clear RI;go_wp2
           go_roundw
           case rel=>exact ⟨t,yz,qs.set t (g).toNat,om,by go_num,HYL.out,by rw[List.length_set];exact Da.out,hys,vh Iq _ _ (by unfold B9;omega),hry.setOther (by simp;have:=hgz;omega) _,lD.setInt _ om (by rw[Da.out];omega),
            Np.setOther (by simp;have:=hgz;omega) _,L5.setCell (by simp;have:=L4.size;omega) _,ybz (by rw[Da.out];omega) Ir.out HYT.out,Zm.out⟩
           case measure=>first | (simp[intOf];done) | (simp[intOf];omega)
section
variable (A B:Option Addr) (c d:Nat) (xs ys:List Nat) (w:World)
theorem Df (hx:ay w A xs) (hy:ay w B ys) (hs:zi au xs) (ht:zi au ys) (hl:xs.length≤1000) (hl':ys.length≤1000) (h0:0<val au ys) :
 Calls prog 130 #[.slice A xs.length c,.slice B ys.length d] w (ypk w (val au xs) (val au ys)):=by
 have hp:=YP qx (n:=val au ys) om;by_cases h1:(aI B9 (val au ys)).length=1
 · exact CV A B c d xs ys w hx hy hs ht hl hl' h1
 by_cases h2:(aI B9 (val au xs)).length<(aI B9 (val au ys)).length
 · exact yJ A B c d xs ys w hx hy hs ht hl hl' h1 h2
 exact yP A B c d xs ys w hx hy hs ht hl hl' ((aI B9 (val au ys)).length-2) om om
theorem IB (n1 n2:Bool) (hx:ay w A xs) (hy:ay w B ys) (hg:zm n1 xs=true) (hk:zm n2 ys=true) (h0:0<ys.length) :
 Calls prog 93 #[.agg #[.bool n1,.slice A xs.length c],.agg #[.bool n2,.slice B ys.length d]] w (CX w (dq n1 n2 (val au xs) (val au ys)) (dr n1 n2 (val au xs) (val au ys)) 0):=by
 obtain ⟨hs,_,hl,_⟩:=yh hg;obtain ⟨ht,hm,hl',_⟩:=yh hk;exact yK A B c d xs ys w (fun w' hx' hy'=>Df A B c d xs ys w' hx' hy' hs ht om om (Nat.pos_of_ne_zero (xh yq hm om))) n1 n2 hx hy hg hk h0
end
theorem aJ.room {w:World} {base:Nat} {A:Option Addr} {c:Nat} {xs:List Nat} (h:aJ w base A c xs):xs.length≤c:=by
 rcases h.1.2 with ⟨hv,h0⟩ | ⟨g,cap,cur,hv,_,_,hle,_⟩
 · omega
 · injection hv;omega
set_option maxRecDepth 100000 in
set_option maxHeartbeats 1000000 in
theorem Nr (A:Option Addr) (c:Nat) (ds:List Nat) (w:World) (hx:aL w A ds) (hs:zi 10 ds) (hc:ds.length≤c) (hl:ds.length≤9223372036854775807) :
 Calls prog 78 #[.slice A ds.length c] w fun e w'=>e= .returned (.slice A (aI 10 (val 10 ds)).length c)∧aI 10 (val 10 ds)=ds.take (aI 10 (val 10 ds)).length∧(aI 10 (val 10 ds)).length≤ds.length∧w'=w:=by
 go_enter func78,ntmps78
 go_wp2
 go_loop [3] (fun v=>∃k:Nat,k≤ds.length∧v= .int .i64 k∧ ∀j,k≤j→nth ds j=0) (fun v=>(intOf v).toNat)
 case atStart=>exact ⟨ds.length,Nat.le_refl _,rfl,fun j hj=>xa ds j hj⟩
 case round=>
  obtain ⟨k,hk,rfl,hz⟩:=hrel;have HZ:=Lib.hid hz;clear hz;have hend:(k=0∨nth ds (k-1)≠0)→ds.take k=aI 10 (val 10 ds):=fun h=>
   xJ de hs hk (fun j hj _=>by have:=HZ.out j om;unfold nth at this;omega) (fun h0=>by
    rcases h with h | h
    · omega
    · unfold nth at h;omega)
  have hlen:(ds.take k).length=k:=by rw[List.length_take];omega
  by_cases hk0:k=0
  · have he:=hend (Or.inl hk0);subst hk0;have HE:=Lib.hid he;clear hend he;go_wp2
    go_ret
    refine ⟨?_,?_,?_,rfl⟩
    · rw[←HE.out];rfl
    · rw[←HE.out];rfl
    · rw[←HE.out];simp
  · obtain ⟨m,rfl⟩:∃m,k=m+1:=⟨k-1,om⟩;obtain ⟨b,o,rfl,hb,hcell'⟩:=hx.2 om;have hcell:=hcell' m om;have hm1:(m:Int)<(ds.length:Int):=om;have hmc:m+1≤c:=om;clear hcell';by_cases hl0:nth ds m=0
    · have hb0:(nth ds m==0)=true:=beq_iff_eq.2 hl0;have H0:=Lib.hid hl0;clear hl0 hend;go_wp2
      go_round
      case rel=>exact ⟨m,om,by go_num,fun j hj=>by
       by_cases e:j=m
       · rw[e];exact H0.out
       · exact HZ.out j om⟩
      case measure=>simp[intOf]
    · have hb0:(nth ds m==0)=false:=beq_eq_false_iff_ne.2 hl0;have he:=hend (Or.inr (by rw[Nat.add_sub_cancel];exact hl0));have HE:=Lib.hid he;have HL:=Lib.hid hlen;clear hend he hl0 hlen;go_wp2
      go_ret
      refine ⟨?_,?_,?_,rfl⟩
      · rw[←HE.out,HL.out];rfl
      · rw[←HE.out,HL.out]
      · rw[←HE.out,HL.out];exact hk
def sJ (W:World) (i:Int) (e:Ending) (w':World):Prop:=
 ∃A c,e= .returned (.agg #[.bool (decide (i<0)),.slice A (aC i).length c])∧aJ w' W.heap.size A c (aC i)∧Below W.heap.size W w'
theorem lF (w:World) (x:Int) (a:Nat) (hx:x=(a:Int)) :
 ∀j u,([a].map fun x:Nat=>Value.int .u8 (x:Int))[j]? =some u→(w.alloc (.cells #[.int .u8 x] 5)).cell? ((⟨w.heap.size,0,none⟩:Addr).add j)=some u:=by
 subst hx;intro j u hj;match j,hj with
 | 0,hj=>simp at hj;subst hj;simp[Addr.add]
theorem V3 (u:Int) (h:0≤u) (h9:u<256):IntKind.u8.wrap u=u:=by
 exact xQ
theorem yR {u:Int} (h:0<u):aI 10 u.toNat=(u%10).toNat::aI 10 (u/10).toNat:=by
 rw[ga de (by omega:u.toNat≠0)];have e1:(u%10).toNat=u.toNat%10:=om;have e2:(u/10).toNat=u.toNat/10:=om;rw[e1,e2]
theorem yS (n:Int) (h0:-9223372036854775808≤n) (hn:n<0):IntKind.u64.wrap (-IntKind.u64.wrap n)=(n.natAbs:Int):=by
 exact xQ
theorem yT (n:Int) (h1:n≤9223372036854775807) (hn:0≤n):IntKind.u64.wrap n=(n.natAbs:Int):=by
 exact xQ
set_option maxHeartbeats 1000000 in
theorem yjk (n:Int) (w:World) (h0:-9223372036854775808≤n) (h1:n≤9223372036854775807) :
 Calls prog 26 #[.int .i64 n] w (sJ w n):=by
 have RN:n.natAbs≤9223372036854775808:=om;by_cases hn:n<0
 all_goals
  first | have hw:=yS n h0 hn | have hw:=yT n h1 om
  obtain ⟨m,hm⟩:∃m,m=n.natAbs:=⟨_,rfl⟩;rw[←hm] at hw RN;have HM:=Lib.hid hm;clear hm;go_enter func26,ntmps26
  go_wp2_with fail
  go_loopw [3,4] (fun uv dv wr=>∃(u:Int) (A':Option Addr) (c':Nat) (zs:List Nat),uv= .int .u64 u∧0≤u∧u≤9223372036854775808∧dv= .slice A' zs.length c'∧aJ wr (w.heap.size+1) A' c' zs∧zs.length+u.toNat≤17592186044416+9223372036854775808∧zi 10 zs∧
   Hid (zs++aI 10 u.toNat=aI 10 m)∧Below (w.heap.size+1) (w.alloc (.cells #[.bool false,.slice none 0 0] 48)) wr) (fun uv _ _=>(intOf uv).toNat)
  case atStart=>exact ⟨(m:Int),none,0,[],rfl,om,om,rfl,aJ.nil _ _,by simp;omega,jg,rfl,Below.refl _ _⟩
  case round=>
   obtain ⟨u,A',c',zs,rfl,hu0,hu1,rfl,hown,hzl,hzs,HZ,hbel⟩:=hrel;have hlen:zs.length≤20:=by
    have h1:(aI 10 m).length≤20:=(yp de m 20).2 (Nat.lt_of_le_of_lt RN de);have h2:=HZ.out;rw[←h2,List.length_append] at h1;omega
   have R1:=(aA.new w 48 #[.bool false,.slice none 0 0]).below hbel om;have hsz:=hbel.size;simp only[World.size_alloc] at hsz
   by_cases hu:0<u
   · have hd:=yR hu;have hw8:=V3 (u%10) om om;have e1:u%10=(((u%10).toNat:Nat):Int):=om;have HC:=Lib.hid (lF wr _ _ e1);have H8:Hid (∀x∈ [(u%10).toNat],x<256):=by intro x hx';simp only[List.mem_cons,List.not_mem_nil,or_false] at hx';omega
     have HN:Hid (zs.length+ [(u%10).toNat].length≤17592186044416):=by show zs.length+1≤_;omega
     have HD:=Lib.hid hd;clear e1 hd hzl;go_wp2_with (at_builtin;go_loud (refine ywx rfl (.tmp 13) (.tmp 17) rfl (w.heap.size+1) A' c' zs rfl (hown.alloc _) [(u%10).toNat] ⟨wr.heap.size,0,none⟩ 1 1 rfl rfl (by exact HC.out) H8.out HN.out (by simp;omega) (fun A2 c2 w2 hown2 hg2=>?_)))
     go_roundw
     case rel=>exact ⟨u/10,A2,c2,zs++ [(u%10).toNat],by go_num,om,om,by simp,hown2,by simp;omega,
      zpx.2 ⟨hzs,by intro y hy;simp only[List.mem_cons,List.not_mem_nil,or_false] at hy;omega⟩,by show _=_;rw[List.append_assoc,List.singleton_append,←HD.out];exact HZ.out,Below.ahj (hbel.alloc (by simpa using hsz) _) (hown.alloc _) (by simp;omega) hg2⟩
     case measure=>simp[intOf];omega
   · obtain rfl:u=0:=om;have hz:zs=aC n:=by
      have:=HZ.out;rw[show (0:Int).toNat=0 from rfl,znx,List.append_nil] at this;rw[this,xd,HM.out]
     obtain ⟨r0,r1,r2,r3⟩:=R1.two;subst hz;clear hzl HZ;go_wp2_with fail
     refine bodyPost_ret (v:=.agg #[.bool (decide (n<0)),.slice A' (aC n).length c']) (by simp[results,Tryz.results26,go_sem,r0,r1,hn]) rfl ?_;exact ⟨A',c',rfl,((hown.aG (by show w.heap.size<w.heap.size+1;omega) _).aG (by show w.heap.size<w.heap.size+1;omega) _).mono om,
      (((Below.refl _ _).alloc (Nat.le_refl _) _).trans (hbel.mono om)).setCell (Nat.le_refl _) _ |>.setCell (Nat.le_refl _) _⟩
theorem IE (base:Nat) (A:Option Addr) (c:Nat) (ds:List Nat) (i:Int) (w:World) (hown:aJ w base A c ds) (hs:zi 10 ds) (hv:val 10 ds=i.natAbs) (hl:ds.length≤9223372036854775807) :
 Calls prog 78 #[.slice A ds.length c] w fun e w'=>e= .returned (.slice A (aC i).length c)∧aJ w base A c (aC i)∧w=w':=by
 refine (Nr A c ds w hown.nums hs hown.room hl).mono fun e w' h=>?_;obtain ⟨rfl,h2,h3,rfl⟩:=h;rw[hv,←xd] at h2 h3 ⊢;refine ⟨rfl,?_,rfl⟩;by_cases h0:ds= []
 · subst h0;have:aC i= []:=List.eq_nil_of_length_eq_zero (by simpa using h3);rw[this];exact hown
 · rw[h2];exact hown.cut h0 h3
theorem IG (base:Nat) (A:Option Addr) (c:Nat) (ds:List Nat) (i:Int) (w:World) (hown:aJ w base A c ds) (hs:zi 10 ds) (hv:val 10 ds=i.natAbs) (hl:ds.length≤1048576) :
 Calls prog 78 #[.slice A ds.length c] w fun e w'=>e= .returned (.slice A (aC i).length c)∧aJ w base A c (aC i)∧w=w':=IE base A c ds i w hown hs hv om
theorem RO {xs:List Nat} (h:zi au xs) {k j:Nat} (hj:j<18) {l:Int} (hl:l=((xs.getD k 0/10^j:Nat):Int)) :
 pad (18*k+j) (val au xs)++ [(l%10).toNat]=pad (18*k+(j+1)) (val au xs)∧l/10=((xs.getD k 0/10^(j+1):Nat):Int):=by
 have h1:=CJ h k j hj;have h2:=xU (18*k+j) (val au xs);rw[←h1] at h2;have h3:xs.getD k 0/10^(j+1)=xs.getD k 0/10^j/10:=by rw[Nat.pow_succ,Nat.div_div_eq_div_mul]
 subst hl;refine ⟨?_,by rw[h3];omega⟩;rw[show 18*k+(j+1)=18*k+j+1 from om,h2];congr 2
theorem II (xs:List Nat) (k:Nat):nth xs k=((xs.getD k 0/10^0:Nat):Int):=by unfold nth;simp
set_option maxHeartbeats 1000000 in
theorem FE (n1:Bool) (A:Option Addr) (c:Nat) (xs:List Nat) (w:World) (hx:ay w A xs) (hg:zm n1 xs=true) :
 Calls prog 45 #[.agg #[.bool n1,.slice A xs.length c]] w (sJ w (num n1 xs)):=by
 obtain ⟨hs,hn,hl,_⟩:=yh hg;have HS:=Lib.hid hs;have HN:=Lib.hid (neg_num hg);have HA:=Lib.hid (zfq n1 xs);clear hs hn hg;generalize num n1 xs=i at *
 go_enter func45,ntmps45
 go_wp2_with fail
 go_loopw [3,4,5,6] (fun dv iv _ _ wr=>∃(k:Nat) (A':Option Addr) (c':Nat) (zs:List Nat),k≤xs.length∧iv= .int .i64 k∧dv= .slice A' zs.length c'∧zs.length≤18*k∧aJ wr (w.heap.size+2) A' c' zs∧
  Hid (zs=pad (18*k) (val au xs))∧Below (w.heap.size+2) ((w.alloc (.cells #[.bool n1,.slice A xs.length c] 24)).alloc (.cells #[.bool false,.slice none 0 0] 48)) wr) (fun _ iv _ _ _=>xs.length-(intOf iv).toNat)
 case atStart=>exact ⟨0,none,0,[],Nat.zero_le _,rfl,rfl,by simp,aJ.nil _ _,rfl,Below.refl _ _⟩
 case round=>
  obtain ⟨k,A',c',zs,hk,rfl,rfl,hzl,hown,HZ,hbel⟩:=hrel;have R0:=(aA.first w 24 #[.bool n1,.slice A xs.length c] (.cells #[.bool false,.slice none 0 0] 48)).below hbel om;have R1:=(aA.new1 w (.cells #[.bool n1,.slice A xs.length c] 24) 48 #[.bool false,.slice none 0 0]).below hbel om;have hxr:ay wr A xs:=hx.below (w:=w) (B:=w.heap.size) ((((Below.refl _ _).alloc (Nat.le_refl _) _).alloc (by simp) _).trans (hbel.mono om)) (Nat.le_refl _);obtain ⟨r0,r1,r2,r3⟩:=R0.two;have hsz:=hbel.size;simp only[World.size_alloc] at hsz
  by_cases hkn:k<xs.length
  · obtain ⟨b,o,rfl,hb,hc⟩:=hxr.2 om;have hcell:=hc k hkn;have hm1:(k:Int)<(xs.length:Int):=om;have hm0:(0:Int)≤(k:Int):=om;have hnn:=zw xs k;have hnl:=qj (by unfold au;omega) HS.out k;rw[Cw] at hnl;have HL0:=Lib.hid (II xs k);clear hc;go_wp2_with fail
    obtain ⟨wo,rfl⟩:∃wo:World,wo=wr:=⟨_,rfl⟩;go_loopw [3,5,6] (fun dv lv jv wi=>∃(j:Nat) (l:Int) (A':Option Addr) (c':Nat) (zs:List Nat),j≤18∧jv= .int .i64 j∧lv= .int .u64 l∧0≤l∧l<1000000000000000000∧dv= .slice A' zs.length c'∧zs.length≤18*k+j∧aJ wi (w.heap.size+2) A' c' zs∧
     Hid (l=((xs.getD k 0/10^j:Nat):Int))∧Hid (zs=pad (18*k+j) (val au xs))∧Below (w.heap.size+2) ((w.alloc (.cells #[.bool n1,.slice (some ⟨b,o,none⟩) xs.length c] 24)).alloc (.cells #[.bool false,.slice none 0 0] 48)) wi) (fun _ _ jv _=>18-(intOf jv).toNat)
    case atStart=>exact ⟨0,nth xs k,A',c',zs,om,rfl,rfl,hnn,om,rfl,om,hown,HL0,HZ,hbel⟩
    case round=>
     obtain ⟨j,l,A2,c2,ys,hj,rfl,rfl,hl0,hl1,rfl,hyl,hown2,HL,HY,gF⟩:=hrel;have hsz2:=gF.size;simp only[World.size_alloc] at hsz2
     by_cases at7:j<18
     · have hstep:=RO HS.out at7 HL.out;have hw8:=V3 (l%10) om om;have e1:l%10=(((l%10).toNat:Nat):Int):=om;have HC:=Lib.hid (lF wr _ _ e1);have H8:Hid (∀x∈ [(l%10).toNat],x<256):=by intro x hx';simp only[List.mem_cons,List.not_mem_nil,or_false] at hx';omega
       have HN:Hid (ys.length+ [(l%10).toNat].length≤17592186044416):=by show ys.length+1≤_;omega
       have HST:=Lib.hid hstep;have aw4:(j:Int)<18:=om;clear e1 hstep;go_wp2_with (at_builtin;go_loud (refine ywx rfl (.tmp 23) (.tmp 27) rfl (w.heap.size+2) A2 c2 ys rfl (hown2.alloc _) [(l%10).toNat] ⟨wr.heap.size,0,none⟩ 1 1 rfl rfl (by exact HC.out) H8.out HN.out (by simp;omega) (fun A3 c3 w3 hown3 hg3=>?_)))
       go_roundw
       case rel=>exact ⟨j+1,l/10,A3,c3,ys++ [(l%10).toNat],om,by go_num,by go_num,om,om,by simp,by simp;omega,hown3,HST.out.2,by show _=_;rw[HY.out];exact HST.out.1,Below.ahj (gF.alloc (by simpa using hsz2) _) (hown2.alloc _) (by simp;omega) hg3⟩
       case measure=>simp[intOf];omega
     · obtain rfl:j=18:=om;have HY2:Hid (ys=pad (18*(k+1)) (val au xs)):=HY;clear HY;go_wp2_with fail
       go_roundw
       case rel=>exact ⟨k+1,A2,c2,ys,om,by go_num,rfl,om,hown2,HY2,gF⟩
       case measure=>simp[intOf];omega
  · obtain rfl:k=xs.length:=om;have VY:val 10 zs=i.natAbs:=by
     rw[HZ.out,Fw,Nat.mod_eq_of_lt (MS HS.out),HA.out]
    have V4:zi 10 zs:=by rw[HZ.out];exact oL _ _
    have HV:=Lib.hid VY;have H10:=Lib.hid V4;clear VY V4;obtain ⟨q0,q1,q2,q3⟩:=R1.two;go_wp2_with fail
    go_region_with (go_at_call 78;refine (IG (w.heap.size+2) _ _ _ i _ (by first | exact hown | exact hown.drew) H10.out HV.out om).mono ?_;rintro e w' ⟨rfl,hown3,rfl⟩)
    all_goals
     go_wp2_with fail
     refine bodyPost_ret (v:=.agg #[.bool n1,.slice A' (aC i).length c']) (by simp[results,Tryz.results45,go_sem,q0,q1]) rfl ?_;exact ⟨A',c',by rw[HN.out],((hown3.aG (by show w.heap.size+1<w.heap.size+2;omega) _).aG (by show w.heap.size+1<w.heap.size+2;omega) _).mono om,
      ((((((Below.refl _ _).alloc (Nat.le_refl _) _).alloc (by simp) _).trans (hbel.mono om)).drew).setCell (by show w.heap.size≤w.heap.size+1;omega) _).setCell (by show w.heap.size≤w.heap.size+1;omega) _⟩
theorem V5 {P:Prop} (h:P:=by
 exact ⟨A',c',by rw[←HB.out],(((hown.aG (by show w.heap.size+2<w.heap.size+3;omega) _).aG (by show w.heap.size+1<w.heap.size+3;omega) _).aG (by show w.heap.size+1<w.heap.size+3;omega) _).mono om,
  ((((((Below.refl _ _).alloc (Nat.le_refl _) _).alloc (by simp) _).trans (hbel.mono om)).setCell (by show w.heap.size≤w.heap.size+2;omega) _).setCell (by show w.heap.size≤w.heap.size+1;omega) _).setCell (by show w.heap.size≤w.heap.size+1;omega) _⟩):P:=h
theorem RP (n:Int) (m j:Nat) (hj:j<18) {l:Int} (hl:l=((n.natAbs/au^m%au/10^(j+1):Nat):Int)) :
 l*10+nth (aC n) (18*m+j)=((n.natAbs/au^m%au/10^j:Nat):Int)∧0≤l∧l<100000000000000000:=by
 have h1:=Ie (n.natAbs/au^m) j hj;have h2:nth (aC n) (18*m+j)=((n.natAbs/au^m/10^j%10:Nat):Int):=by rw[kY,oM]
 have h3:n.natAbs/au^m%au/10^(j+1)<100000000000000000:=by
  have h4:n.natAbs/au^m%au<au:=Nat.mod_lt _ (by unfold au;omega);have h5:n.natAbs/au^m%au/10^(j+1)≤n.natAbs/au^m%au/10:=by
   rw[Nat.pow_succ,Nat.mul_comm,←Nat.div_div_eq_div_mul];exact Nat.div_le_self _ _
  unfold au at h4 h5 ⊢;omega
 subst hl;rw[h2];refine ⟨?_,om,om⟩;rw[h1];omega
theorem aA.app {w w3:World} {g:Nat} {t:TypeId} {cs:Array Value} {base:Nat} {A:Option Addr} {c:Nat} {xs:List Nat} (h:aA w g t cs) (hown:Own w base A c xs) (hg:w.grownBy w3 (Value.slice A xs.length c).ownBlock) (ht:25≠t):aA w3 g t cs:=
 h.grown hg (fun e=>yfk hown.1 h ht e.symm)
theorem Zp:(25:TypeId)≠24:=de
theorem Zq (n:Int) (m:Nat):(0:Int)=((n.natAbs/au^m%au/10^18:Nat):Int):=by
 have h4:n.natAbs/au^m%au<10^18:=Nat.mod_lt _ (by unfold au;omega);rw[Nat.div_eq_of_lt h4];rfl
theorem RQ (n:Int) (m:Nat) (h:¬(aC n).length≤18*m) {zs:List Nat} (hz:zs++aI au (n.natAbs/au^m)=limbs n) {l:Int} (hl:l=((n.natAbs/au^m%au/10^0:Nat):Int)) :
 (zs++ [l.toNat])++aI au (n.natAbs/au^(m+1))=limbs n∧l.toNat<1000000000000000000:=by
 rw[Ic yq _ _ (fun e=>h ((Fy n m).2 e))] at hz;subst hl;refine ⟨?_,?_⟩
 · rw[List.append_assoc,←hz,Nat.pow_zero,Nat.div_one,Int.toNat_natCast,List.singleton_append]
 · have h4:n.natAbs/au^m%au<au:=Nat.mod_lt _ (by unfold au;omega);unfold au at h4 ⊢;simp only[Nat.pow_zero,Nat.div_one]
   omega
theorem Zr (n:Int) (m:Nat) (h:(aC n).length≤18*m) {zs:List Nat} (hz:zs++aI au (n.natAbs/au^m)=limbs n):zs=limbs n:=by
 rw[(Fy n m).1 h,znx,List.append_nil] at hz;exact hz
theorem Ns {n:Int} (h:n<0):0<(aC n).length:=by
 rw[xd];exact YP de om
set_option maxHeartbeats 1000000 in
theorem FH (A:Option Addr) (c:Nat) (n:Int) (w:World) (hx:aL w A (aC n)) (hl:(aC n).length≤1048576) :
 Calls prog 42 #[.agg #[.bool (decide (n<0)),.slice A (aC n).length c]] w (sj w n):=by
 obtain ⟨bn,hbn⟩:∃bn,bn=decide (n<0):=⟨_,rfl⟩;rw[←hbn];have HB:=Lib.hid hbn;have hpos:bn=true→0<(aC n).length:=fun e=>Ns (by rw[e] at hbn;simpa using hbn.symm);have HP:=Lib.hid hpos;clear hbn hpos;have hsm:=yev n;have HS:=Lib.hid hsm;clear hsm;go_enter func42,ntmps42
 go_wp2_with fail
 go_loopw [4,5,6] (fun iv _ _ wr=>∃(I:Int) (m:Nat) (A':Option Addr) (c':Nat) (zs:List Nat),iv= .int .i64 I∧0≤I∧I≤2000000∧zs.length≤m∧Hid (I=18*(m:Int))∧aA wr (w.heap.size+2) 24 #[.bool false,.slice A' zs.length c']∧Own wr (w.heap.size+3) A' c' zs∧
  Hid (zs++aI au (n.natAbs/au^m)=limbs n)∧Below (w.heap.size+2) ((w.alloc (.cells #[.bool bn,.slice A (aC n).length c] 48)).alloc (.cells #[.bool false,.slice none 0 0] 24)) wr) (fun iv _ _ _=>2000000-(intOf iv).toNat)
 case atStart=>exact ⟨0,0,none,0,[],rfl,om,om,by simp,by show _=_;rfl,aA.newAt (by simp),Own.nil _ _,by show _=_;rw[yo];simp,(Below.refl _ _).alloc (by simp) _⟩
 case round=>
  obtain ⟨I,m,A',c',zs,rfl,hI0,hI1,hzm,HI,RX,hown,HZ,hbel⟩:=hrel;have R0:=(aA.first w 48 #[.bool bn,.slice A (aC n).length c] (.cells #[.bool false,.slice none 0 0] 24)).below hbel om;have R1:=(aA.new1 w (.cells #[.bool bn,.slice A (aC n).length c] 48) 24 #[.bool false,.slice none 0 0]).below hbel om;have hxr:aL wr A (aC n):=hx.below (w:=w) (B:=w.heap.size) ((((Below.refl _ _).alloc (Nat.le_refl _) _).alloc (by simp) _).trans (hbel.mono om)) (Nat.le_refl _);obtain ⟨r0,r1,r2,r3⟩:=R0.two;obtain ⟨q0,q1,q2,q3⟩:=R1.two;obtain ⟨x0,x1,x2,x3⟩:=RX.two;have hsz:=RX.lt;by_cases hkn:I<((aC n).length:Int)
  · have HN1:Hid (¬(aC n).length≤18*m):=by have:=HI.out;show ¬_;omega
    obtain ⟨b,o,rfl,hb,hc⟩:=hxr.2 om;have HC:=Lib.hid hc;clear hc;go_wp2_with fail
    go_loop [5,6] (fun lv kv=>∃(j:Nat) (l K:Int),lv= .int .u64 l∧kv= .int .i64 K∧j≤18∧Hid (K=I+(j:Int)-1)∧Hid (l=((n.natAbs/au^m%au/10^j:Nat):Int))∧0≤l∧l<1000000000000000000∧I-1≤K∧K≤I+17) (fun _ kv=>(intOf kv+1).toNat)
    case atStart=>exact ⟨18,0,I+17,rfl,rfl,om,by show _=_;omega,Zq n m,om,om,om,om⟩
    case round=>
     obtain ⟨j,l,K,rfl,rfl,hj,HK,HL,hl0,hl1,hK0,hK1⟩:=hrel;by_cases hj0:j=0
     · subst hj0;have hKI:K<I:=by have:=HK.out;omega
       have V6:=RQ n m HN1.out HZ.out HL.out;have HPL:=Lib.hid V6;have e1:l=(l.toNat:Int):=om;have hC1:=yuv wr _ _ e1;have YU:Hid (∀x∈ [l.toNat],x<18446744073709551616):=by intro x hx';simp only[List.mem_cons,List.not_mem_nil,or_false] at hx';omega
       have HN:Hid (zs.length+ [l.toNat].length≤17592186044416):=by have:=HI.out;show zs.length+1≤_;omega
       have HC1:=Lib.hid hC1;have hmI:Hid (I+18=18*((m+1:Nat):Int)):=by have:=HI.out;show _=_;omega
       have hIl:I<1048576:=om;have HB0:Hid (w.heap.size+3≤(wr.alloc (.cells #[.int .u64 l] 25)).heap.size):=by show _≤_;simp;omega
       clear e1 hC1 V6 hl;go_wp2_with (at_builtin;(refine zoz rfl (.tmp 37) (.tmp 39) rfl (w.heap.size+3) A' c' zs rfl (hown.alloc _) [l.toNat] ⟨wr.heap.size,0,none⟩ 1 1 rfl rfl (by exact HC1.out) YU.out HN.out HB0.out (fun A3 c3 w3 hown3 hg3=>?_));(have RX3:=(RX.alloc _).app (hown.alloc _) hg3 Zp);obtain ⟨y0,y1,y2,y3⟩:=RX3.two)
       go_roundw
       case rel=>exact ⟨I+18,m+1,A3,c3,zs++ [l.toNat],rfl,om,om,by simp;omega,hmI,by simpa using RX3.pO 1 (.slice A3 (zs++ [l.toNat]).length c3),hown3.aG (by show w.heap.size+2<w.heap.size+3;omega) _,HPL.out.1,
        (Below.own (hbel.alloc om _) ((hown.alloc _).mono om) (by simp;omega) hg3).setCell (by show w.heap.size+2≤w.heap.size+2;omega) _⟩
       case measure=>simp[intOf];omega
     · obtain ⟨j,rfl⟩:∃j',j=j'+1:=⟨j-1,om⟩;have hKI:I≤K:=by have:=HK.out;omega
       obtain ⟨hs1,_,hs3⟩:=RP n m j om HL.out;have hKj:K.toNat=18*m+j:=by have:=HK.out;have:=HI.out;omega
       have ak9:K-1=I+(j:Int)-1:=by have:=HK.out;omega
       rw[←hKj] at hs1;have hnn:=zw (aC n) K.toNat;have az5:=qj om HS.out K.toNat;have hKp:0≤K:=om;have az6:IntKind.u64.wrap (l*10)=l*10:=by simp[IntKind.wrap,IntKind.signed,IntKind.bits];omega
       have HS1:=Lib.hid hs1;have akq:=Lib.hid ak9;clear hKj hs1 ak9;by_cases hKl:K<((aC n).length:Int)
       · have hcell:=HC.out K.toNat om;go_wp2
         go_round
         case rel=>exact ⟨j,_,K-1,rfl,rfl,om,akq,HS1,om,om,om,om⟩
         case measure=>simp[intOf];omega
       · have hz0:nth (aC n) K.toNat=0:=xa _ _ om;have HS2:Hid (l*10=((n.natAbs/au^m%au/10^j:Nat):Int)):=by have:=HS1.out;rw[hz0] at this;show _=_;omega
         clear hz0;go_wp2
         go_round
         case rel=>exact ⟨j,_,K-1,rfl,rfl,om,akq,HS2,om,om,om,om⟩
         case measure=>simp[intOf];omega
  · have hze:=Zr n m (by have:=HI.out;omega) HZ.out;subst hze;clear HZ;cases bn
    · go_wp2_with fail
      refine bodyPost_ret (v:=.agg #[.bool false,.slice A' (limbs n).length c']) (by simp[results,Tryz.results42,go_sem,q0,q1]) rfl ?_;exact V5
    · have hp0:0<(aC n).length:=HP.out rfl;go_wp2_with fail
      refine bodyPost_ret (v:=.agg #[.bool true,.slice A' (limbs n).length c']) (by simp[results,Tryz.results42,go_sem,q0,q1]) rfl ?_;exact V5
theorem V7 {P:Prop} (h:P:=by
 unfold P8;have:(xs==ys)=false:=beq_eq_false_iff_ne.2 fun e=>h (by rw[e]);rw[this,Bool.and_false]):P:=h
def P8 (n1:Bool) (xs:List Nat) (n2:Bool) (ys:List Nat):Bool:=(n1==n2)&&(xs==ys)
theorem lG {xs ys:List Nat} (hl:xs.length=ys.length) (h:∀j,j<xs.length→nth xs j=nth ys j):xs=ys:=by
 apply List.ext_getElem hl
 intro j h1 h2;have:=(ygx xs ys j j).1 (h j h1);simpa [List.getD,List.getElem?_eq_getElem h1,List.getElem?_eq_getElem h2] using this
theorem IJ {n1 n2:Bool} {xs ys:List Nat} (h:n1≠n2):P8 n1 xs n2 ys=false:=by unfold P8;simp[h]
theorem IK {n1 n2:Bool} {xs ys:List Nat} (h:xs.length≠ys.length):P8 n1 xs n2 ys=false:=by
 exact V7
theorem yU {n1 n2:Bool} {xs ys:List Nat} {k:Nat} (h:nth xs k≠nth ys k):P8 n1 xs n2 ys=false:=by
 exact V7
theorem IL {n:Bool} {xs ys:List Nat} (hl:xs.length=ys.length) (h:∀j,j<xs.length→nth xs j=nth ys j):P8 n xs n ys=true:=by
 rw[lG hl h];unfold P8;simp
section
variable (A B:Option Addr) (c d:Nat) (xs ys:List Nat) (w:World)
set_option maxHeartbeats 1000000 in
theorem IQ (n1 n2:Bool) (hx:ay w A xs) (hy:ay w B ys) (hl:xs.length≤1048576) (hl':ys.length≤1048576) :
 Calls prog 58 #[.agg #[.bool n1,.slice A xs.length c],.agg #[.bool n2,.slice B ys.length d]] w fun e w'=>e= .returned (.bool (P8 n1 xs n2 ys))∧Below w.heap.size w w':=by
 have L0:Below w.heap.size w ((w.alloc (.cells #[.bool n1,.slice A xs.length c] 24)).alloc (.cells #[.bool n2,.slice B ys.length d] 24)):=((Below.refl _ _).alloc (Nat.le_refl _) _).alloc (by simp) _;by_cases hn:n1=n2
 · subst hn;by_cases hlen:xs.length=ys.length
   · have hne:((xs.length:Int) !=(ys.length:Int))=false:=by simp[hlen]
     have hnn:(n1 !=n1)=false:=by simp
     have HL:=Lib.hid hlen;clear hlen;go_enter func58,ntmps58
     go_wp2
     go_loopw [5] (fun v wr=>∃k:Nat,k≤xs.length∧v= .int .i64 k∧(∀j,j<k→nth xs j=nth ys j)∧ ∃n,wr=((w.alloc (.cells #[.bool n1,.slice A xs.length c] 24)).alloc (.cells #[.bool n1,.slice B ys.length d] 24)).drewN n) (fun v _=>xs.length-(intOf v).toNat)
     case atStart=>exact ⟨0,Nat.zero_le _,rfl,fun j hj=>absurd hj om,0,rfl⟩
     case round=>
      obtain ⟨k,hk,rfl,hz,n,rfl⟩:=hrel;have HZ:=Lib.hid hz;clear hz;rcases Nat.lt_or_ge k xs.length with hk' | hk'
      · obtain ⟨b,o,rfl,hb,hc⟩:=hx.2 om;obtain ⟨b',o',rfl,hb',hc'⟩:=hy.2 (by rw[←HL.out];omega);have hcell:=hc k om;have hcell':=hc' k (by rw[←HL.out];omega);have hm1:(k:Int)<(xs.length:Int):=om;have hm2:(k:Int)<(ys.length:Int):=by have:=HL.out;omega
        have hm0:(0:Int)≤(k:Int):=om;clear hc hc';by_cases h:nth xs k=nth ys k
        · have hne':(nth xs k !=nth ys k)=false:=by simp[h]
          have H:=Lib.hid h;clear h;go_wp2
          go_quiet (fail)
          go_wp2
          go_roundw
          case rel=>exact ⟨k+1,om,by go_num,fun j hj=>by
           by_cases e:j=k
           · rw[e];exact H.out
           · exact HZ.out j om,_,by first | rfl | (simp only[World.drewN_drewN];rfl)⟩
          case measure=>simp[intOf];omega
        · have hne':(nth xs k !=nth ys k)=true:=by simpa using h
          have H:=Lib.hid h;clear h;go_wp2
          go_quiet (fail)
          go_wp2
          go_ret
          exact ⟨VK (yU H.out).symm,by first | exact L0.drewN _ | exact ⟨L0.os,L0.tape,L0.output,L0.size,L0.block⟩⟩
      · obtain rfl:k=xs.length:=om;go_wp2
        go_ret
        exact ⟨VK (IL HL.out HZ.out).symm,by exact ⟨L0.os,L0.tape,L0.output,L0.size,L0.block⟩⟩
   · have hne:((xs.length:Int) !=(ys.length:Int))=true:=by simp;omega
     have hnn:(n1 !=n1)=false:=by simp
     have H:=Lib.hid hlen;clear hlen;go_enter func58,ntmps58
     go_wp2
     go_ret
     exact ⟨VK (IK H.out).symm,L0⟩
 · have hnn:(n1 !=n2)=true:=by simpa using hn
   have H:=Lib.hid hn;clear hn;go_enter func58,ntmps58
   go_wp2
   go_ret
   exact ⟨VK (IJ H.out).symm,L0⟩
end
theorem V8 {a b w':World} (h:Below a.heap.size a b) (k:Below b.heap.size b w'):Below a.heap.size a w':=h.trans (k.mono h.size)
theorem ay.since {a b:World} {A:Option Addr} {xs:List Nat} (h:ay a A xs) (k:Below a.heap.size a b):ay b A xs:=h.below k (Nat.le_refl _)
theorem aL.since {a b:World} {A:Option Addr} {xs:List Nat} (h:aL a A xs) (k:Below a.heap.size a b):aL b A xs:=h.below k (Nat.le_refl _)
@[irreducible] def dz (ok:Bool) (s:Int):Int:=if ok then (if s.natAbs<au^30 then s else 0) else 0
@[irreducible] def cK (ok:Bool) (s:Int):Int:=if ok then (if s.natAbs<au^30 then 0 else 7) else 3
theorem xy {s:Int} (h:s.natAbs<au^30):dz true s=s:=by unfold dz;rw[if_pos rfl,if_pos h]
theorem xz {s:Int} (h:s.natAbs<au^30):cK true s=0:=by unfold cK;rw[if_pos rfl,if_pos h]
theorem ylq {s:Int} (h:au^30≤s.natAbs):dz true s=0:=by unfold dz;rw[if_pos rfl,if_neg om]
theorem zwq {s:Int} (h:au^30≤s.natAbs):cK true s=7:=by unfold cK;rw[if_pos rfl,if_neg om]
theorem yV (s:Int):dz false s=0:=by unfold dz;rfl
theorem yX (s:Int):cK false s=3:=by unfold cK;rfl
section
variable (A B:Option Addr) (c d:Nat) (xs ys:List Nat) (w:World)
theorem RU (n1 n2:Bool) (hx:ay w A xs) (hy:ay w B ys) (hl:xs.length≤9223372036854775807) (hl':ys.length≤9223372036854775807) :
 Calls prog 114 #[.agg #[.bool n1,.slice A xs.length c],.agg #[.bool n2,.slice B ys.length d]] w
  (yb w (dz (zm n1 xs&&zm n2 ys) (num n1 xs+num n2 ys)) (cK (zm n1 xs&&zm n2 ys) (num n1 xs+num n2 ys))):=by
 cases h:(zm n1 xs&&zm n2 ys)
 · rw[yV,yX];exact MV A B c d xs ys w n1 n2 hx hy hl hl' h
 · obtain ⟨hg,hk⟩:=Bool.and_eq_true_iff.1 h;rcases Nat.lt_or_ge (num n1 xs+num n2 ys).natAbs (au^30) with hf | hf
   · rw[xy hf,xz hf];exact YT A B c d xs ys w n1 n2 hx hy hg hk hf
   · rw[ylq hf,zwq hf];exact Ik A B c d xs ys w n1 n2 hx hy hg hk hf
end
theorem Below.drewN {B:Nat} {a w:World} (h:Below B a w) (n:Nat):Below B a (w.drewN n):=⟨h.os,h.tape,h.output,h.size,h.block⟩
@[irreducible] def yZ (ok:Bool) (i j:Int):Int:=if ok then xR i j else 0
theorem Sb {xs ys:List Nat}:rZ (val au xs) (val au ys)=xR (num false xs) (num false ys):=by
 rw[jx,jx];unfold xR rZ bg;by_cases h1:val au xs<val au ys
 · simp[h1]
 · by_cases h2:val au ys<val au xs<;>simp[h1,h2]
theorem Sc {xs ys:List Nat}:rZ (val au ys) (val au xs)=xR (num true xs) (num true ys):=by
 rw[jx,jx];unfold xR rZ bg;by_cases h1:val au ys<val au xs
 · simp[h1]
 · by_cases h2:val au xs<val au ys<;>simp[h1,h2]
theorem Zu {xs ys:List Nat} (hg:zm true xs=true):xR (num true xs) (num false ys)= -1:=by
 have h:=neg_num hg;have h1:num true xs<0:=by simpa using h
 have h2:(0:Int)≤num false ys:=by rw[jx];unfold bg;simp
 unfold xR;rw[if_pos om]
theorem Zv {xs ys:List Nat} (hk:zm true ys=true):xR (num false xs) (num true ys)=1:=by
 have h:=neg_num hk;have h1:num true ys<0:=by simpa using h
 have h2:(0:Int)≤num false xs:=by rw[jx];unfold bg;simp
 unfold xR;rw[if_neg om,if_pos om]
section
variable (A B:Option Addr) (c d:Nat) (xs ys:List Nat) (w:World)
set_option maxHeartbeats 1000000 in
theorem IY (n1 n2:Bool) (hx:ay w A xs) (hl:xs.length≤9223372036854775807) (hg:zm n1 xs=false) :
 Calls prog 97 #[.agg #[.bool n1,.slice A xs.length c],.agg #[.bool n2,.slice B ys.length d]] w fun e w'=>e= .returned (.int .i64 0)∧Below w.heap.size w w':=by
 go_enter func97,ntmps97
 go_wp2_with fail
 refine (ye n1 c _ A xs hl ((hx.alloc _).alloc _)).mono ?_;rintro e w1 ⟨rfl,hb1⟩;have L1:Below w.heap.size w w1:=(((Below.refl _ _).alloc (Nat.le_refl _) _).alloc (by simp) _).trans (hb1.mono (by simp;omega));go_wp2_with fail
 go_ret
 exact ⟨rfl,L1⟩
set_option maxHeartbeats 1000000 in
theorem IZ (n1 n2:Bool) (hx:ay w A xs) (hy:ay w B ys) (hl:ys.length≤9223372036854775807) (hg:zm n1 xs=true) (hk:zm n2 ys=false) :
 Calls prog 97 #[.agg #[.bool n1,.slice A xs.length c],.agg #[.bool n2,.slice B ys.length d]] w fun e w'=>e= .returned (.int .i64 0)∧Below w.heap.size w w':=by
 obtain ⟨_,_,hlx,_⟩:=yh hg;go_enter func97,ntmps97
 go_wp2_with fail
 refine (ye n1 c _ A xs om ((hx.alloc _).alloc _)).mono ?_;rintro e w1 ⟨rfl,hb1⟩;have Y1:=(aA.new (w.alloc (.cells #[.bool n1,.slice A xs.length c] 24)) 24 #[.bool n2,.slice B ys.length d]).below hb1 (by simp);have L1:Below w.heap.size w w1:=(((Below.refl _ _).alloc (Nat.le_refl _) _).alloc (by simp) _).trans (hb1.mono (by simp;omega));simp only[World.size_alloc] at Y1
 obtain ⟨y0,y1,y2,y3⟩:=Y1.two;go_wp2_with fail
 refine (ye n2 d _ B ys hl (hy.below L1 (Nat.le_refl _))).mono ?_;rintro e w2 ⟨rfl,hb2⟩;have L2:=L1.trans (hb2.mono L1.size);go_wp2_with fail
 go_ret
 exact ⟨rfl,L2⟩
set_option maxHeartbeats 1000000 in
theorem Ny (n1 n2:Bool) (hx:ay w A xs) (hy:ay w B ys) (hg:zm n1 xs=true) (hk:zm n2 ys=true) :
 Calls prog 97 #[.agg #[.bool n1,.slice A xs.length c],.agg #[.bool n2,.slice B ys.length d]] w fun e w'=>e= .returned (.int .i64 (xR (num n1 xs) (num n2 ys)))∧Below w.heap.size w w':=by
 obtain ⟨hs,hn,hlx,_⟩:=yh hg;obtain ⟨ht,hm,hly,_⟩:=yh hk;cases n1<;>cases n2
 case false.false=>
  have HV:=Lib.hid (Sb (xs:=xs) (ys:=ys));go_enter func97,ntmps97
  go_wp2_with fail
  refine (ye false c _ A xs om ((hx.alloc _).alloc _)).mono ?_;rintro e w1 ⟨rfl,hb1⟩;have X1:=(aA.first w 24 #[.bool false,.slice A xs.length c] (.cells #[.bool false,.slice B ys.length d] 24)).below hb1 (by simp;omega);have Y1:=(aA.new (w.alloc (.cells #[.bool false,.slice A xs.length c] 24)) 24 #[.bool false,.slice B ys.length d]).below hb1 (by simp);have L1:Below w.heap.size w w1:=(((Below.refl _ _).alloc (Nat.le_refl _) _).alloc (by simp) _).trans (hb1.mono (by simp;omega));simp only[World.size_alloc] at X1 Y1
  clear hb1;obtain ⟨y0,y1,y2,y3⟩:=Y1.two;go_wp2_with fail
  refine (ye false d _ B ys om (hy.below L1 (Nat.le_refl _))).mono ?_;rintro e w2 ⟨rfl,hb2⟩;have X2:=X1.below hb2 X1.lt;have Y2:=Y1.below hb2 Y1.lt;have L2:=L1.trans (hb2.mono L1.size);clear y0 y1 y2 y3 X1 Y1 L1 hb2;obtain ⟨x0,x1,x2,x3⟩:=X2.two;obtain ⟨y0,y1,y2,y3⟩:=Y2.two;go_wp2_with fail
  refine (yiv A B c d xs ys _ (hx.below L2 (Nat.le_refl _)) (hy.below L2 (Nat.le_refl _)) hs ht hn hm om om).mono ?_;rintro e w3 ⟨rfl,n,rfl⟩;rw[HV.out];go_wp2_with fail
  go_ret
  exact ⟨rfl,Below.drewN L2 n⟩
 case true.true=>
  have HV:=Lib.hid (Sc (xs:=xs) (ys:=ys));go_enter func97,ntmps97
  go_wp2_with fail
  refine (ye true c _ A xs om ((hx.alloc _).alloc _)).mono ?_;rintro e w1 ⟨rfl,hb1⟩;have X1:=(aA.first w 24 #[.bool true,.slice A xs.length c] (.cells #[.bool true,.slice B ys.length d] 24)).below hb1 (by simp;omega);have Y1:=(aA.new (w.alloc (.cells #[.bool true,.slice A xs.length c] 24)) 24 #[.bool true,.slice B ys.length d]).below hb1 (by simp);have L1:Below w.heap.size w w1:=(((Below.refl _ _).alloc (Nat.le_refl _) _).alloc (by simp) _).trans (hb1.mono (by simp;omega));simp only[World.size_alloc] at X1 Y1
  clear hb1;obtain ⟨y0,y1,y2,y3⟩:=Y1.two;go_wp2_with fail
  refine (ye true d _ B ys om (hy.below L1 (Nat.le_refl _))).mono ?_;rintro e w2 ⟨rfl,hb2⟩;have X2:=X1.below hb2 X1.lt;have Y2:=Y1.below hb2 Y1.lt;have L2:=L1.trans (hb2.mono L1.size);clear y0 y1 y2 y3 X1 Y1 L1 hb2;obtain ⟨x0,x1,x2,x3⟩:=X2.two;obtain ⟨y0,y1,y2,y3⟩:=Y2.two;go_wp2_with fail
  refine (yiv B A d c ys xs _ (hy.below L2 (Nat.le_refl _)) (hx.below L2 (Nat.le_refl _)) ht hs hm hn om om).mono ?_;rintro e w3 ⟨rfl,n,rfl⟩;rw[HV.out];go_wp2_with fail
  go_ret
  exact ⟨rfl,Below.drewN L2 n⟩
 case true.false=>
  have HV:=Lib.hid (Zu (xs:=xs) (ys:=ys) hg);go_enter func97,ntmps97
  go_wp2_with fail
  refine (ye true c _ A xs om ((hx.alloc _).alloc _)).mono ?_;rintro e w1 ⟨rfl,hb1⟩;have X1:=(aA.first w 24 #[.bool true,.slice A xs.length c] (.cells #[.bool false,.slice B ys.length d] 24)).below hb1 (by simp;omega);have Y1:=(aA.new (w.alloc (.cells #[.bool true,.slice A xs.length c] 24)) 24 #[.bool false,.slice B ys.length d]).below hb1 (by simp);have L1:Below w.heap.size w w1:=(((Below.refl _ _).alloc (Nat.le_refl _) _).alloc (by simp) _).trans (hb1.mono (by simp;omega));simp only[World.size_alloc] at X1 Y1
  clear hb1;obtain ⟨y0,y1,y2,y3⟩:=Y1.two;go_wp2_with fail
  refine (ye false d _ B ys om (hy.below L1 (Nat.le_refl _))).mono ?_;rintro e w2 ⟨rfl,hb2⟩;have X2:=X1.below hb2 X1.lt;have Y2:=Y1.below hb2 Y1.lt;have L2:=L1.trans (hb2.mono L1.size);clear y0 y1 y2 y3 X1 Y1 L1 hb2;obtain ⟨x0,x1,x2,x3⟩:=X2.two;obtain ⟨y0,y1,y2,y3⟩:=Y2.two;go_wp2_with fail
  go_ret
  exact ⟨YQ HV.out.symm,L2⟩
 case false.true=>
  have HV:=Lib.hid (Zv (xs:=xs) (ys:=ys) hk);go_enter func97,ntmps97
  go_wp2_with fail
  refine (ye false c _ A xs om ((hx.alloc _).alloc _)).mono ?_;rintro e w1 ⟨rfl,hb1⟩;have X1:=(aA.first w 24 #[.bool false,.slice A xs.length c] (.cells #[.bool true,.slice B ys.length d] 24)).below hb1 (by simp;omega);have Y1:=(aA.new (w.alloc (.cells #[.bool false,.slice A xs.length c] 24)) 24 #[.bool true,.slice B ys.length d]).below hb1 (by simp);have L1:Below w.heap.size w w1:=(((Below.refl _ _).alloc (Nat.le_refl _) _).alloc (by simp) _).trans (hb1.mono (by simp;omega));simp only[World.size_alloc] at X1 Y1
  clear hb1;obtain ⟨y0,y1,y2,y3⟩:=Y1.two;go_wp2_with fail
  refine (ye true d _ B ys om (hy.below L1 (Nat.le_refl _))).mono ?_;rintro e w2 ⟨rfl,hb2⟩;have X2:=X1.below hb2 X1.lt;have Y2:=Y1.below hb2 Y1.lt;have L2:=L1.trans (hb2.mono L1.size);clear y0 y1 y2 y3 X1 Y1 L1 hb2;obtain ⟨x0,x1,x2,x3⟩:=X2.two;obtain ⟨y0,y1,y2,y3⟩:=Y2.two;go_wp2_with fail
  go_ret
  exact ⟨YQ HV.out.symm,L2⟩
theorem FI (n1 n2:Bool) (hx:ay w A xs) (hy:ay w B ys) (hl:xs.length≤9223372036854775807) (hl':ys.length≤9223372036854775807) :
 Calls prog 97 #[.agg #[.bool n1,.slice A xs.length c],.agg #[.bool n2,.slice B ys.length d]] w fun e w'=>e= .returned (.int .i64 (yZ (zm n1 xs&&zm n2 ys) (num n1 xs) (num n2 ys)))∧Below w.heap.size w w':=by
 unfold yZ;cases hg:zm n1 xs
 · exact IY A B c d xs ys w n1 n2 hx hl hg
 cases hk:zm n2 ys
 · exact IZ A B c d xs ys w n1 n2 hx hy hl' hg hk
 exact Ny A B c d xs ys w n1 n2 hx hy hg hk
end
theorem Per.Nz {X:Nat→Prop} {w:World} {A:Option Addr} {xs:List Nat} (h:aL w A xs) (hx:∀q,A=some q→ ¬X q.block):Per X w (fun b=>aL b A xs):=fun b hb=>
 ⟨h.1,fun h0=>by
  obtain ⟨g,o,rfl,hg,hc⟩:=h.2 h0;exact ⟨g,o,rfl,Nat.lt_of_lt_of_le hg hb.size,fun k hk=>(hb.cell (p:=⟨g,o+k,none⟩) hg (hx ⟨g,o,none⟩ rfl)).trans (hc k hk)⟩⟩
theorem Per.Di {w:World} {A:Option Addr} {xs:List Nat} (h:aL w A xs):Per No w (fun b=>aL b A xs):=Per.Nz h (fun _ _=>id)
theorem Per.y5 {X:Nat→Prop} {w:World} {base c:Nat} {A:Option Addr} {xs:List Nat} (h:aJ w base A c xs) (hx:∀k,X k→k<base):Per X w (fun b=>aL b A xs):=Per.Nz h.nums (fun q hq e=>by have:=hx _ e;have:=(h.ge q hq).1;omega)
theorem Wd {j:Int} (h0:j≠0):0<(aC j).length:=by rw[xd];exact YP de om
theorem Zw {i:Int} (A:Option Addr) (c:Nat) (w:World) (hi:i.natAbs<au^30) (hx:ay w A (limbs i)):Calls prog 45 #[.agg #[.bool (decide (i<0)),.slice A (limbs i).length c]] w (sJ w i):=by
 have h:=FE (decide (i<0)) A c (limbs i) w hx (qo hi);rwa [gu] at h
theorem NA {i:Int} (A:Option Addr) (c:Nat) (w:World) (hi:i.natAbs<au^30) (hx:ay w A (limbs i)):Calls prog 30 #[.agg #[.bool (decide (i<0)),.slice A (limbs i).length c]] w fun e w'=>e= .returned (.bool true)∧Below w.heap.size w w':=by
 have h:=oI (decide (i<0)) c w A (limbs i) (by have:=vf hi;omega) hx;rwa [qo hi] at h
theorem FJ (xs:List Nat) (k:Nat):nth xs k=((xs.getD k 0:Nat):Int):=by unfold nth;rfl
def bor (m n k:Nat):Nat:=if m%10^k<n%10^k then 1 else 0
def an8 (W:World) (i:Int) (e:Ending) (w':World):Prop:=∃A c,e= .returned (.slice A (aC i).length c)∧aJ w' W.heap.size A c (aC i)∧Below W.heap.size W w'
end Go.Proofs.YtdofcnodhgaedaaGreatDoor

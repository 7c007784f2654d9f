/- Texts of this claim. -/
import Derived.Test.YtebjkmjfcijebaaGreatB2
import Derived.Below
import Derived.Laws.OwnMore
import Derived.Deep.AppendLies
import Derived.Deep.Draws
import Derived.Deep.OwnRows
import Derived.Laws.Rows
import Derived.Maps.AppendAt
import Derived.RegionTactic
import Derived.OwnWalk
import Derived.WalkKit
set_option maxRecDepth 100000
namespace Go.Proofs.YtebjkmjfcijebaaGreat
open Go.RowKit
theorem ywz (a:Addr) (n:Nat):(a.add n).block=a.block:=by unfold Addr.add;split<;>rfl
theorem add_of_add (a:Addr) (i j:Nat):(a.add i).add j=a.add (i+j):=by
 unfold Addr.add;by_cases hi:i=0<;>by_cases hj:j=0<;>simp[hi,hj,Nat.add_assoc]
def Reads (w:World) (B size:Nat) (A:Option Addr) (n:Nat) (xs:List Value):Prop:=
 xs.length=n*size∧(0<n→ ∃ad,A=some ad∧ad.block<B∧ ∀j u,xs[j]? =some u→w.cell? (ad.add j)=some u)
section
variable {w w':World} {B B' size n:Nat} {A:Option Addr} {xs:List Value}
theorem Reads.none_:Reads w B size A 0 []:=⟨by simp,fun h=>absurd h (by omega)⟩
theorem Reads.at_ {k:Nat} (h:Reads w B 1 A n xs) (hk:k<n):∃ad u,A=some ad∧ad.block<B∧xs[k]? =some u∧w.cell? (ad.add k)=some u:=by
 obtain ⟨ad,e,hb,hc⟩:=h.2 (by omega);have hl:k<xs.length:=by have:=h.1;omega
 exact ⟨ad,xs[k],e,hb,List.getElem?_eq_getElem hl,hc k _ (List.getElem?_eq_getElem hl)⟩
theorem Reads.keep (h:Reads w B size A n xs) (hk:∀p:Addr,p.block<B→w'.cell? p=w.cell? p):Reads w' B size A n xs:=
 ⟨h.1,fun hn=>by
  obtain ⟨ad,e,hb,hc⟩:=h.2 hn;exact ⟨ad,e,hb,fun j u hu=>(hk _ (by rw[ywz];exact hb)).trans (hc j u hu)⟩⟩
theorem Reads.more (h:Reads w B size A n xs) (hB:B≤B'):Reads w B' size A n xs:=
 ⟨h.1,fun hn=>by
  obtain ⟨ad,e,hb,hc⟩:=h.2 hn;exact ⟨ad,e,by omega,hc⟩⟩
theorem Reads.below (h:Reads w B size A n xs) (hb:Below B w w'):Reads w' B size A n xs:=h.keep fun _ hp=>hb.cell hp
theorem Reads.drew (h:Reads w B size A n xs):Reads w.drew B size A n xs:=h
theorem Reads.drewN (h:Reads w B size A n xs) (k:Nat):Reads (w.drewN k) B size A n xs:=h
theorem Reads.alloc (h:Reads w B size A n xs) (hB:B≤w.heap.size) (o:Obj):Reads (w.alloc o) B size A n xs:=h.keep fun p hp=>World.cell?_alloc_lt w o p (by omega)
theorem Reads.setCell (h:Reads w B size A n xs) {p:Addr} (hB:B≤p.block) (u:Value):Reads (w.setCell p u) B size A n xs:=
 h.keep fun q hq=>World.cell?_setCell_other w p q u (fun e=>by subst e;omega)
theorem Reads.grown (h:Reads w B size A n xs) {row:Option Nat} (hg:w.grownBy w' row) (hB:B≤w.heap.size) (hr:∀g,row=some g→B≤g):Reads w' B size A n xs:=
 h.keep fun p hp=>World.cell?_of_block (hg.block p.block (by omega) (fun e=>by have:=hr _ e.symm;omega))
theorem Reads.cut (h:Reads w B size A n xs) {k cap:Nat} (hk:k≤n) (hc:n≤cap) :
 Reads w B size (if cap=k then A else A.map (·.add (k*size))) (n-k) (xs.drop (k*size)):=by
 refine ⟨by rw[List.length_drop,h.1,Nat.sub_mul],fun hn=>?_⟩;obtain ⟨ad,rfl,hb,hcell⟩:=h.2 (by omega);rw[if_neg (by omega)];refine ⟨ad.add (k*size),rfl,by rw[ywz];exact hb,fun j u hu=>?_⟩;rw[add_of_add];exact hcell _ u (by rw[←hu,List.getElem?_drop])
end
def Blk (w:World) (g:Nat) (t:TypeId) (cs:Array Value):Prop:=w.heap[g]? =some (.cells cs t (0,0))
section
variable {w w':World} {g:Nat} {t:TypeId} {cs:Array Value}
theorem Blk.lt (h:Blk w g t cs):g<w.heap.size:=by
 rcases Nat.lt_or_ge g w.heap.size with hlt | hge
 · exact hlt
 · unfold Blk at h;rw[Array.getElem?_eq_none hge] at h;cases h
theorem Blk.cell (h:Blk w g t cs) (i:Nat):w.cell? ⟨g,i,none⟩=cs[i]? :=cell_of_row w g i cs t (0,0) h
theorem Blk.frozen (h:Blk w g t cs) (i:Nat):w.frozen? ⟨g,i,none⟩=false:=by
 unfold Blk at h;simp[World.frozen?,h]
theorem Blk.new (w:World) (t:TypeId) (cs:Array Value):Blk (w.alloc (.cells cs t)) w.heap.size t cs:=heap_alloc_new w _
theorem Blk.drew (h:Blk w g t cs):Blk w.drew g t cs:=h
theorem Blk.drewN (h:Blk w g t cs) (n:Nat):Blk (w.drewN n) g t cs:=h
theorem Blk.alloc (h:Blk w g t cs) (o:Obj):Blk (w.alloc o) g t cs:=(Below.heap_alloc w o g h.lt).trans h
theorem Blk.set_ (h:Blk w g t cs) (i:Nat) (u:Value):Blk (w.setCell ⟨g,i,none⟩ u) g t (cs.setIfInBounds i u):=by
 unfold Blk at h ⊢;simp[World.setCell,Array.getElem?_modify,h]
theorem Blk.far (h:Blk w g t cs) {p:Addr} (hp:g≠p.block) (u:Value):Blk (w.setCell p u) g t cs:=(Below.heap_setCell w p u g hp).trans h
theorem Blk.below {B:Nat} (h:Blk w g t cs) (hb:Below B w w') (hg:g<B):Blk w' g t cs:=(hb.block g hg).trans h
theorem Blk.grown {row:Option Nat} (h:Blk w g t cs) (hb:w.grownBy w' row) (hg:some g≠row):Blk w' g t cs:=(hb.block g h.lt hg).trans h
theorem Blk.ne_ {g':Nat} {t':TypeId} {cs':Array Value} (h:Blk w g t cs) (h':Blk w g' t' cs') (hne:t≠t'):g≠g':=by
 rintro rfl;unfold Blk at h h';rw[h] at h';injection h' with h'
 injection h' with _ ht
 exact hne ht
theorem zwx {base:Nat} {e:TypeId} {size n:Nat} {v:Value} {xs:List Value} (h:w.ownsRow base e size v n xs) (hg:Blk w g t cs) (hne:e≠t):v.ownBlock≠some g:=by
 rcases h.2 with ⟨rfl,_⟩ | ⟨g',cap,cur,rfl,_,hh,_⟩
 · simp[Value.ownBlock]
 · intro he;have:g'=g:=by simpa [Value.ownBlock] using he
   subst this;exact Blk.ne_ (t:=e) hh hg hne rfl
end
section
variable {P:Program} (w:World)
theorem run_append_of_nil (base:Nat) (t ty e:TypeId) (i:TypeInfo) (size:Nat) (ht:P.underlying t=some (.slice e)) (hi:P.info? e=some i)
 (v:Value) (n:Nat) (xs:List Value) (hown:w.ownsRow base e size v n xs) (c:Nat):(Builtin.append_ #[t,t] ty #[v,.slice none 0 c]).run P w= .ok v w:=by
 rcases hown.2 with ⟨rfl,rfl⟩ | ⟨g,cap,cur,rfl,_,_,hnc,_⟩
 · simp[Builtin.append_,run_underlying ht,sizeOf,typeInfo,hi,Builtin.lenOf,Builtin.firstCells]
 · simp[Builtin.append_,run_underlying ht,sizeOf,typeInfo,hi,Builtin.lenOf,Builtin.firstCells,hnc,storeCells]
theorem run_append_any (base:Nat) (t ty e:TypeId) (i:TypeInfo) (z:Value) (size bytes:Nat) (ht:P.underlying t=some (.slice e)) (hi:P.info? e=some i) (hz:i.zero=some z)
 (zt:i.size=size) (hby:i.bytes=bytes) (hzs:z.cells.size=size) (hsz:0<size)
 (v:Value) (n:Nat) (xs:List Value) (hown:w.ownsRow base e size v n xs)
 (B:Nat) (A:Option Addr) (m c:Nat) (news:List Value) (hr:Reads w B size A m news) (h1:∀u∈news,u.oneCell'=true)
 (h63:n+m≤maxLen) (hbytes:(n+m)*bytes≤140737488355328) (hbase:base≤w.heap.size) :
 ∃v' w',(Builtin.append_ #[t,t] ty #[v,.slice A m c]).run P w= .ok v' w'∧w'.ownsRow base e size v' (n+m) (xs++news)∧w.grownBy w' v.ownBlock∧
  (v'.ownBlock=v.ownBlock∨v'.ownBlock=some w.heap.size):=by
 rcases A with _ | ad
 · have hm:m=0:=by
    rcases Nat.eq_zero_or_pos m with h0 | h0
    · exact h0
    · obtain ⟨ad,h,_⟩:=hr.2 h0;cases h
   subst hm;have hn:news= []:=List.eq_nil_of_length_eq_zero (by simpa using hr.1);subst hn;exact ⟨v,w,run_append_of_nil w base t ty e i size ht hi v n xs hown c,by simpa using hown,World.grownBy.refl w _,.inl rfl⟩
 · have hcells:∀j u,news[j]? =some u→w.cell? (ad.add j)=some u:=by
    intro j u hu;rcases Nat.eq_zero_or_pos m with h0 | h0
    · subst h0;have hn:news= []:=List.eq_nil_of_length_eq_zero (by simpa using hr.1);subst hn;simp at hu
    · obtain ⟨ad',h,_,hc⟩:=hr.2 h0;injection h with h
      subst h;exact hc j u hu
   obtain ⟨v',w',hrun,h2,h3,_,h5⟩:=run_append_own_at (P:=P) w base t ty e i z size bytes ht hi hz zt hby hzs hsz v n xs hown ad m c news hr.1 hcells h1 h63 hbytes hbase;exact ⟨v',w',hrun,h2,h3,h5⟩
end
theorem gj {B:Nat} {a w:World} (h:Below B a w) (n:Nat):Below B a (w.drewN n):=⟨h.os,h.tape,h.output,h.size,h.block⟩
theorem only_drewN {a w:World} {row:Option Nat} (h:a.grownBy w row) (n:Nat):a.grownBy (w.drewN n) row:=⟨h.os,h.tape,h.output,h.size,h.block⟩
theorem kp {a w:World} {g:Nat} (h:a.grownBy w (some g)) {p:Addr} (hp:p.block=g∨a.heap.size≤p.block) (u:Value):a.grownBy (w.setCell p u) (some g):=
 ⟨h.os,h.tape,h.output,by simpa [World.setCell] using h.size,fun i hi hne=>(Below.heap_setCell w p u i (by
  rintro rfl;rcases hp with hp | hp
  · exact hne (by rw[hp])
  · omega)).trans (h.block i hi hne)⟩
@[irreducible] def nth (xs:List Nat) (k:Nat):Int:=((xs.getD k 0:Nat):Int)
theorem yo (xs:List Nat) (k:Nat):0≤nth xs k:=by unfold nth;omega
def Nums (w:World) (A:Option Addr) (xs:List Nat):Prop:=
 (∀k,nth xs k<18446744073709551616)∧(0<xs.length→ ∃b o,A=some ⟨b,o,none⟩∧b<w.heap.size∧ ∀k,k<xs.length→w.cell? ⟨b,o+k,none⟩=some (.int .u64 (nth xs k)))
end Go.Proofs.YtebjkmjfcijebaaGreat
namespace Go.Proofs.YtebjkmjfcijebaaGreat
/-! ### words -/
def zzv (w:Nat):Int:=if 9223372036854775808<w then -(((18446744073709551616-w+1)/4:Nat):Int) else ((w/4:Nat):Int)
def zw (w:Nat):Nat:=
 if w%4=0 then (if 1≤w/4∧w/4<1048576 then 0 else 3)
 else if w%4=1 then (if zzv w≤999999999999999999∧ -999999999999999999≤zzv w then 1 else 3)
 else if w%4=2 then (if w<18 then 2 else 3) else 3
theorem wkind_addr {w:Nat} (h:zw w=0):w=4*(w/4)∧1≤w/4∧w/4<1048576:=by
 unfold zw at h;split at h
 · split at h
   · omega
   · cases h
 · split at h
   · split at h<;>cases h
   · split at h
     · split at h<;>cases h
     · cases h
theorem wkind_of {a:Nat} (h:1≤a∧a<1048576):zw (4*a)=0:=by
 unfold zw;rw[if_pos (by omega),if_pos (by omega)]
/-! ### objects -/
def yf (h:Nat):Nat:=h%256
def yg (h:Nat):Nat:=h/256%16777216
def zt (h:Nat):Nat:=h/4294967296%16777216
def jr (k t s:Nat):Nat:=k+256*t+4294967296*s
theorem ydz {k t s:Nat} (hk:k<256):yf (jr k t s)=k:=by unfold yf jr;omega
theorem yjx {k t s:Nat} (hk:k<256) (ht:t<16777216):yg (jr k t s)=t:=by unfold yg jr;omega
theorem zbv {k t s:Nat} (hk:k<256) (ht:t<16777216) (hs:s<16777216):zt (jr k t s)=s:=by unfold zt jr;omega
def wat (W:List Nat) (i:Nat):Nat:=W.getD i 0
theorem ke {W:List Nat} {i:Nat} (h:i<W.length):W[i]? =some (wat W i):=by unfold wat;rw[List.getD_eq_getElem?_getD,List.getElem?_eq_getElem h];rfl
theorem wat_of {W:List Nat} {i v:Nat} (h:W[i]? =some v):wat W i=v:=by unfold wat;rw[List.getD_eq_getElem?_getD,h];rfl
structure Seen (W:List Nat) (top a:Nat):Prop where
 lo:1≤a
 hi:a+2≤top
 len:top≤W.length
 kind:0<yf (wat W a)
 fit:yg (wat W a)+2≤zt (wat W a)
 room:a+zt (wat W a)≤top
structure Lies (W:List Nat) (top a:Nat):Prop extends Seen W top a where
 head:wat W a=jr (yf (wat W a)) (yg (wat W a)) (zt (wat W a))
 nil:wat W (a+1)=0
inductive Objs (W:List Nat) (top:Nat):Nat→List Nat→Prop
 | nil:Objs W top top []
 | cons {a:Nat} {l:List Nat}:Lies W top a→Objs W top (a+zt (wat W a)) l→Objs W top a (a::l)
theorem Objs.le {W:List Nat} {top a:Nat} {l:List Nat} (h:Objs W top a l):a≤top:=by
 cases h with
 | nil=>exact Nat.le_refl _
 | cons h1 h2=>have:=h1.hi;omega
theorem Objs.same {W:List Nat} {top a:Nat} {l l':List Nat} (h:Objs W top a l) (h':Objs W top a l'):l=l':=by
 induction h generalizing l' with
 | nil=>cases h' with
  | nil=>rfl
  | cons h1 h2=>have:=h1.hi;omega
 | cons h1 h2 ih=>cases h' with
  | nil=>have:=h1.hi;omega
  | cons h3 h4=>rw[ih h4]
theorem Objs.mem {W:List Nat} {top a b:Nat} {l:List Nat} (h:Objs W top a l) (hb:b∈l):Lies W top b∧a≤b∧b<top:=by
 induction h with
 | nil=>cases hb
 | cons h1 h2 ih=>
  rcases List.mem_cons.1 hb with rfl | hb
  · exact ⟨h1,Nat.le_refl _,by have:=h1.hi;omega⟩
  · obtain ⟨h3,h4,h5⟩:=ih hb;exact ⟨h3,by omega,h5⟩
def ymk (W W':List Nat) (top:Nat):Prop:=∀i,i<top→wat W' i=wat W i
theorem Seen.agree {W W':List Nat} {top top' a:Nat} (h:Seen W top a) (hA:ymk W W' top) (ht:top≤top') (hl:top'≤W'.length):Seen W' top' a:=by
 have e:wat W' a=wat W a:=hA a (by have:=h.hi;omega);exact ⟨h.lo,by have:=h.hi;omega,hl,by rw[e];exact h.kind,by rw[e];exact h.fit,by rw[e];have:=h.room;omega⟩
theorem Lies.agree {W W':List Nat} {top top' a:Nat} (h:Lies W top a) (hA:ymk W W' top) (ht:top≤top') (hl:top'≤W'.length):Lies W' top' a:=by
 have e:wat W' a=wat W a:=hA a (by have:=h.hi;omega);exact ⟨h.toSeen.agree hA ht hl,by rw[e];exact h.head,by rw[hA (a+1) (by have:=h.hi;omega)];exact h.nil⟩
theorem Objs.app {W W':List Nat} {top top' a:Nat} {l l2:List Nat} (h:Objs W top a l) (hA:ymk W W' top) (ht:top≤top') (hl:top'≤W'.length) (h2:Objs W' top' top l2):Objs W' top' a (l++l2):=by
 induction h with
 | nil=>exact h2
 | @cons a l h1 h3 ih=>
  have e:wat W' a=wat W a:=hA a (by have:=h1.hi;omega);refine .cons (h1.agree hA ht hl) ?_;rw[e];exact ih
def WordOk (l:List Nat) (w:Nat):Prop:=zw w≠3∧(zw w=0→w/4∈l)
theorem WordOk.app {l l2:List Nat} {w:Nat} (h:WordOk l w):WordOk (l++l2) w:=⟨h.1,fun h0=>List.mem_append_left _ (h.2 h0)⟩
structure FormL (W:List Nat) (top:Nat) (l:List Nat):Prop where
 two:2≤W.length
 most:W.length≤1048576
 one:1≤top
 len:top≤W.length
 zero:wat W 0=0
 rest:∀i,top≤i→wat W i=0
 objs:Objs W top 1 l
 words:∀a∈l,∀i,i<yg (wat W a)→WordOk l (wat W (a+2+i))
theorem FormL.more {W W':List Nat} {top k t s:Nat} {l:List Nat} (h:FormL W top l) (hlen:W'.length=W.length) (hA:ymk W W' top) (hk:0<k) (hk2:k<256) (hts:t+2≤s) (hs:top+s≤W.length)
 (hhead:wat W' top=jr k t s) (hnil:wat W' (top+1)=0) (hw:∀i,i<t→WordOk (l++ [top]) (wat W' (top+2+i))) (hrest:∀i,top+s≤i→wat W' i=0):FormL W' (top+s) (l++ [top]):=by
 have hm:=h.most;have ek:yf (wat W' top)=k:=by rw[hhead];exact ydz hk2
 have et:yg (wat W' top)=t:=by rw[hhead];exact yjx hk2 (by omega)
 have es:zt (wat W' top)=s:=by rw[hhead];exact zbv hk2 (by omega) (by omega)
 have hL:Lies W' (top+s) top:=⟨⟨h.one,by omega,by omega,by rw[ek];exact hk,by rw[et,es];exact hts,by rw[es];exact Nat.le_refl _⟩,by rw[ek,et,es];exact hhead,hnil⟩;refine ⟨by rw[hlen];exact h.two,by rw[hlen];exact hm,by have:=h.one;omega,by omega,by rw[hA 0 (by have:=h.one;omega)];exact h.zero,hrest,h.objs.app hA (by omega) (by omega) (.cons hL (by rw[es];exact .nil)),fun a ha i hi=>?_⟩;rcases List.mem_append.1 ha with ha | ha
 · obtain ⟨h1,h2,h3⟩:=h.objs.mem ha;have e:wat W' a=wat W a:=hA a h3;rw[e] at hi;have h4:=h1.room;have h5:=h1.fit;rw[hA (a+2+i) (by omega)];exact (h.words a ha i hi).app
 · rw[List.mem_singleton.1 ha] at hi ⊢;rw[et] at hi;exact hw i hi
theorem FormL.seen {W:List Nat} {top a:Nat} {l:List Nat} (h:FormL W top l) (ha:a∈l):Seen W top a:=(h.objs.mem ha).1.toSeen
def laid (W:List Nat) (top k:Nat) (tagged raw:List Nat):List Nat:=W.take top++(jr k tagged.length (2+tagged.length+raw.length)::0::(tagged++raw))++W.drop (top+(2+tagged.length+raw.length))
section
variable {W:List Nat} {top k:Nat} {tagged raw:List Nat}
theorem zbq (h:top+(2+tagged.length+raw.length)≤W.length):(laid W top k tagged raw).length=W.length:=by
 unfold laid;simp only[List.length_append,List.length_take,List.length_cons,List.length_drop]
 omega
theorem zbk (h:top+(2+tagged.length+raw.length)≤W.length) (i:Nat):(laid W top k tagged raw)[i]? =if i<top then W[i]? else if i<top+(2+tagged.length+raw.length) then (jr k tagged.length (2+tagged.length+raw.length)::0::(tagged++raw))[i-top]? else W[i]? :=by
 unfold laid;have ht:(W.take top).length=top:=by rw[List.length_take];omega
 have hm:(jr k tagged.length (2+tagged.length+raw.length)::0::(tagged++raw)).length=2+tagged.length+raw.length:=by simp only[List.length_cons,List.length_append];omega
 by_cases h1:i<top
 · rw[if_pos h1,List.append_assoc,List.getElem?_append_left (by omega),List.getElem?_take_of_lt h1]
 · rw[if_neg h1,List.append_assoc,List.getElem?_append_right (by omega),ht];by_cases h2:i<top+(2+tagged.length+raw.length)
   · rw[if_pos h2,List.getElem?_append_left (by omega)]
   · rw[if_neg h2,List.getElem?_append_right (by omega),hm,List.getElem?_drop];congr 1;omega
theorem wat_eq {W W':List Nat} {i:Nat} (h:W[i]? =W'[i]?):wat W i=wat W' i:=by unfold wat;rw[List.getD_eq_getElem?_getD,List.getD_eq_getElem?_getD,h]
theorem laid_lt (h:top+(2+tagged.length+raw.length)≤W.length):ymk W (laid W top k tagged raw) top:=fun i hi=>wat_eq (by rw[zbk h,if_pos hi])
theorem ou (h:top+(2+tagged.length+raw.length)≤W.length):wat (laid W top k tagged raw) top=jr k tagged.length (2+tagged.length+raw.length):=wat_of (by rw[zbk h,if_neg (by omega),if_pos (by omega),Nat.sub_self];rfl)
theorem laid_nil (h:top+(2+tagged.length+raw.length)≤W.length):wat (laid W top k tagged raw) (top+1)=0:=wat_of (by rw[zbk h,if_neg (by omega),if_pos (by omega),show top+1-top=1 by omega];rfl)
theorem yiv (h:top+(2+tagged.length+raw.length)≤W.length) {i v:Nat} (hi:(tagged++raw)[i]? =some v):wat (laid W top k tagged raw) (top+2+i)=v:=by
 have hl:=(List.getElem?_eq_some_iff.1 hi).1;rw[List.length_append] at hl;refine wat_of ?_;rw[zbk h,if_neg (by omega),if_pos (by omega),show top+2+i-top=i+1+1 by omega,List.getElem?_cons_succ,List.getElem?_cons_succ,hi]
theorem yzv (h:top+(2+tagged.length+raw.length)≤W.length) {i:Nat} (hi:top+(2+tagged.length+raw.length)≤i):wat (laid W top k tagged raw) i=wat W i:=wat_eq (by rw[zbk h,if_neg (by omega),if_neg (by omega)])
theorem FormL.laid {l:List Nat} (hF:FormL W top l) (h:top+(2+tagged.length+raw.length)≤W.length) (hk:0<k) (hk2:k<256) (hw:∀w∈tagged,WordOk (l++ [top]) w):FormL (laid W top k tagged raw) (top+(2+tagged.length+raw.length)) (l++ [top]):=
 hF.more (zbq h) (laid_lt h) hk hk2 (t:=tagged.length) (by omega) h (ou h) (laid_nil h) (fun i hi=>by
  have h1:(tagged++raw)[i]? =some tagged[i]:=by rw[List.getElem?_append_left hi,List.getElem?_eq_getElem hi]
  rw[yiv h h1];exact hw _ (List.getElem_mem _)) (fun i hi=>by rw[yzv h hi];exact hF.rest i (by omega))
end
end Go.Proofs.YtebjkmjfcijebaaGreat

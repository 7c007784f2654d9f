/- Texts of this claim. -/
import Derived.Test.YtebjkmjfcijebaaGreatB6
import Derived.ArgAppend
set_option maxRecDepth 100000
namespace Go.Proofs.YtebjkmjfcijebaaGreat
open Go.RowKit
abbrev Sl:=Option Addr×Nat×Nat
def sl3 (r:Sl):Value:=.slice r.1 r.2.1 r.2.2
def mk3 (v:Nat):Value:=.int .u64 (v:Int)
def Lane (w:World) (r:Sl):Prop:=(r.1=none∧r.2.1=0∧r.2.2=0)∨ ∃g cur,r.1=some ⟨g,0,none⟩∧Blk w g 27 cur∧r.2.1≤r.2.2∧r.2.2≤maxLen∧cur.size=r.2.2
def Marked (w:World) (r:Sl) (n:Nat) (v:Nat):Prop:=∀g,r.1=some ⟨g,0,none⟩→ ∀j,j<n→w.cell? ⟨g,j,none⟩=some (mk3 v)
def Owns (ls:List Sl) (b k:Nat):Prop:=∃r,ls[k]? =some r∧r.1=some ⟨b,0,none⟩
def Bk (ls:List Sl) (b:Nat):Prop:=∃k,Owns ls b k
def Single (ls:List Sl):Prop:=∀b k m,Owns ls b k→Owns ls b m→k=m
def Bank (w:World) (ls:List Sl):Prop:=∀r∈ls,Lane w r
def Paint (ls:List Sl) (B:Nat) (w w':World):Prop:=∀(b:Nat) (cur:Array Value),b<B→Blk w b 27 cur→ ∃cur':Array Value,Blk w' b 27 cur'∧cur'.size=cur.size∧ ∀(j:Nat) (x:Value),cur'[j]? =some x→cur[j]? =some x∨ ∃k,Owns ls b k∧x=mk3 (k+1000)
variable {ls:List Sl} {B:Nat} {w w' w'':World}
theorem Paint.refl:Paint ls B w w:=fun _ cur _ h=>⟨cur,h,rfl,fun _ _ h=>.inl h⟩
theorem Paint.trans (h:Paint ls B w w') (k:Paint ls B w' w''):Paint ls B w w'':=fun b cur hb h1=>by
 obtain ⟨c1,h2,h3,h4⟩:=h b cur hb h1;obtain ⟨c2,h5,h6,h7⟩:=k b c1 hb h2;exact ⟨c2,h5,by omega,fun j x hx=>(h7 j x hx).elim (h4 j x) .inr⟩
theorem Paint.mono {C:Nat} (h:Paint ls B w w') (hc:C≤B):Paint ls C w w':=fun b cur hb h1=>h b cur (by omega) h1
theorem Paint.no {X:Nat→Prop} (h:Ext X w w') (hx:∀b,X b→b<B→False) (_hB:B≤w.heap.size):Paint ls B w w':=fun b cur hb h1=>⟨cur,h.blk h1 (fun hX=>hx b hX hb),rfl,fun _ _ h=>.inl h⟩
theorem Lane.blk {r:Sl} (h:Lane w r) {g:Nat} (hg:r.1=some ⟨g,0,none⟩):∃cur,Blk w g 27 cur∧r.2.1≤r.2.2∧r.2.2≤maxLen∧cur.size=r.2.2:=by
 rcases h with ⟨h1,_⟩ | ⟨g',cur,h1,h2,h3⟩
 · rw[h1] at hg;cases hg
 · rw[h1] at hg;cases hg;exact ⟨cur,h2,h3⟩
theorem Lane.lt {r:Sl} (h:Lane w r) {g:Nat} (hg:r.1=some ⟨g,0,none⟩):g<w.heap.size:=by
 obtain ⟨_,h1,_⟩:=h.blk hg;exact h1.lt
theorem Paint.lane {r:Sl} (h:Paint ls B w w') (hl:Lane w r) (hB:∀g,r.1=some ⟨g,0,none⟩→g<B):Lane w' r:=by
 rcases hl with h1 | ⟨g,cur,h1,h2,h3,h4,h5⟩
 · exact .inl h1
 · obtain ⟨c,k1,k2,_⟩:=h g cur (hB g h1) h2;exact .inr ⟨g,c,h1,k1,h3,h4,by omega⟩
theorem Paint.marked {r:Sl} {n v:Nat} (h:Paint ls B w w') (hl:Lane w r) (hm:Marked w r n v) (hn:n≤r.2.2) (hB:∀g,r.1=some ⟨g,0,none⟩→g<B) (ho:∀g k,r.1=some ⟨g,0,none⟩→Owns ls g k→v=k+1000):Marked w' r n v:=by
 intro g hg j hj;obtain ⟨cur,k1,k2,k3,k4⟩:=hl.blk hg;obtain ⟨c,q1,q2,q3⟩:=h g cur (hB g hg) k1;have h1:=hm g hg j hj;rw[k1.cell] at h1;rw[q1.cell];have h2:j<c.size:=by omega
 have h3:c[j]? =some c[j]:=Array.getElem?_eq_getElem h2;rw[h3];rcases q3 j _ h3 with h4 | ⟨k,h4,h5⟩
 · rw[←h4,h1]
 · rw[h5,ho g k hg h4]
def AppStep (w w':World) (r r':Sl) (v:Nat):Prop:=
 (r'.1=r.1∧ ∃(b:Nat) (cur cur':Array Value),r.1=some ⟨b,0,none⟩∧Blk w b 27 cur∧Blk w' b 27 cur'∧cur'.size=cur.size∧Ext (Mut [some b]) w w'∧ ∀(j:Nat) (x:Value),cur'[j]? =some x→cur[j]? =some x∨x=mk3 v)∨
 ((∃b,r'.1=some ⟨b,0,none⟩∧w.heap.size≤b)∧Ext No w w')
theorem AppStep.ext {r r':Sl} {v k:Nat} {w1:World} (h:AppStep w w' r r' v) (E:Ext (Bk ls) w1 w) (ho:∀b,r.1=some ⟨b,0,none⟩→Owns ls b k∨w1.heap.size≤b):Ext (Bk ls) w1 w':=by
 rcases h with ⟨_,b,_,_,h1,_,_,_,h2,_⟩ | ⟨_,h2⟩
 · refine E.step h2 fun i hi=>?_;rcases hi with hi | hi
   · cases hi;exact (ho b h1).imp (fun h=>⟨k,h⟩) id
   · exact hi.elim
 · exact E.step h2 fun i hi=>hi.elim
theorem AppStep.paint {r r':Sl} {k:Nat} (h:AppStep w w' r r' (k+1000)) (hB:B≤w.heap.size) (ho:∀b,r.1=some ⟨b,0,none⟩→Owns ls b k∨B≤b):Paint ls B w w':=by
 rcases h with ⟨_,b,cur,cur',h1,h2,h3,h4,h5,h6⟩ | ⟨_,h2⟩
 · intro b' c' hb hc;by_cases e:b'=b
   · subst e;have e1:c'=cur:=by have:=hc.symm.trans h2;simpa using this
     subst e1;have ho':Owns ls b' k:=(ho b' h1).resolve_right (by omega);exact ⟨cur',h3,h4,fun j x hx=>(h6 j x hx).imp id (fun e=>⟨k,ho',e⟩)⟩
   · exact ⟨c',h5.blk hc (fun hX=>hX.elim (fun hX=>e (Option.some.inj hX)) (fun hX=>hX.elim)),rfl,fun _ _ h=>.inl h⟩
 · exact Paint.no h2 (fun _ h _=>h.elim) hB
theorem AppStep.same {r r' s:Sl} {n v:Nat} (h:AppStep w w' r r' v) (hl:Lane w s) (hm:Marked w s n v) (hn:n≤s.2.2):Lane w' s∧Marked w' s n v:=by
 have key:∀(g:Nat) (cur cur':Array Value),s.1=some ⟨g,0,none⟩→Blk w g 27 cur→cur.size=s.2.2→s.2.1≤s.2.2→s.2.2≤maxLen→Blk w' g 27 cur'→cur'.size=cur.size→(∀(j:Nat) (x:Value),cur'[j]? =some x→cur[j]? =some x∨x=mk3 v)→Lane w' s∧Marked w' s n v:=by
  intro g cur cur' h1 h2 h3 h4 h5 h6 h7 h8;refine ⟨.inr ⟨g,cur',h1,h6,h4,h5,by omega⟩,fun g' hg' j hj=>?_⟩;rw[h1] at hg';cases hg';have e1:=hm g h1 j hj;rw[h2.cell] at e1;rw[h6.cell];have e2:j<cur'.size:=by omega
  have e3:cur'[j]? =some cur'[j]:=Array.getElem?_eq_getElem e2;rw[e3];rcases h8 j _ e3 with h4 | h4
  · rw[←h4,e1]
  · rw[h4]
 rcases hl with ⟨h1,h2,h3⟩ | ⟨g,cur,h1,h2,h3,h4,h5⟩
 · exact ⟨.inl ⟨h1,h2,h3⟩,fun g hg=>by rw[h1] at hg;cases hg⟩
 · rcases h with ⟨_,b,c,c',q1,q2,q3,q4,q5,q6⟩ | ⟨_,q⟩
   · by_cases e:g=b
     · subst e;have e1:c=cur:=by have:=q2.symm.trans h2;simpa using this
       subst e1;exact key g c c' h1 h2 h5 h3 h4 q3 q4 q6
     · exact key g cur cur h1 h2 h5 h3 h4 (q5.blk h2 (fun hX=>hX.elim (fun hX=>e (Option.some.inj hX)) (fun hX=>hX.elim))) rfl (fun _ _ h=>.inl h)
   · exact key g cur cur h1 h2 h5 h3 h4 (q.blk h2 (fun h=>h.elim)) rfl (fun _ _ h=>.inl h)
theorem Ext.lane {X:Nat→Prop} {r:Sl} (h:Ext X w w') (hl:Lane w r) (hx:∀g,r.1=some ⟨g,0,none⟩→ ¬X g):Lane w' r:=by
 rcases hl with h1 | ⟨g,cur,h1,h2,h3⟩
 · exact .inl h1
 · exact .inr ⟨g,cur,h1,h.blk h2 (hx g h1),h3⟩
theorem Ext.marked {X:Nat→Prop} {r:Sl} {n v:Nat} (h:Ext X w w') (hl:Lane w r) (hm:Marked w r n v) (hx:∀g,r.1=some ⟨g,0,none⟩→ ¬X g):Marked w' r n v:=fun g hg j hj=>by
 rw[h.cell (p:=⟨g,j,none⟩) (hl.lt hg) (hx g hg)];exact hm g hg j hj
section
variable {P:Program} {N:Nat} {ops:Array Oper} {Q:Exit→Act→World→Prop} {σ:Env} {ty:TypeId} {pos:String} {af:Array Edge} {dst:Option Nat} {Post:Value→World→Prop}
end
end Go.Proofs.YtebjkmjfcijebaaGreat
namespace Go.Proofs.YtebjkmjfcijebaaGreat
open Go.RowKit
def at3 (ls:List Sl) (k:Nat):Sl:=ls.getD k (none,0,0)
theorem at3_get {ls:List Sl} {k:Nat} (h:k<ls.length):ls[k]? =some (at3 ls k):=by
 unfold at3;rw[List.getD_eq_getElem?_getD,List.getElem?_eq_getElem h];rfl
theorem at3_mem {ls:List Sl} {k:Nat} (h:k<ls.length):at3 ls k∈ls:=List.mem_of_getElem? (at3_get h)
theorem at3_owns {ls:List Sl} {k g:Nat} (h:k<ls.length) (hg:(at3 ls k).1=some ⟨g,0,none⟩):Owns ls g k:=⟨_,at3_get h,hg⟩
theorem Bank.at_ {w:World} {ls:List Sl} (h:Bank w ls) {k:Nat} (hk:k<ls.length):Lane w (at3 ls k):=h _ (at3_mem hk)
theorem Lane.le {w:World} {r:Sl} (h:Lane w r):r.2.1≤r.2.2:=by
 rcases h with ⟨_,h1,h2⟩ | ⟨_,_,_,_,h,_⟩
 · omega
 · exact h
theorem Marked.less {w:World} {r:Sl} {n m v:Nat} (h:Marked w r n v) (hm:m≤n):Marked w r m v:=fun g hg j hj=>h g hg j (by omega)
theorem Marked.none_ {w:World} {r:Sl} {v:Nat}:Marked w r 0 v:=fun _ _ _ h=>absurd h (Nat.not_lt_zero _)
def Laid (ls:List Sl) (k:Nat) (w:World):Prop:=Bank w ls∧ ∀m,m<k→Marked w (at3 ls m) (at3 ls m).2.1 (m+1000)
theorem Laid.paint {ls:List Sl} {k:Nat} {w w':World} (h:Laid ls k w) (hk:k≤ls.length) (hs:Single ls) (p:Paint ls w.heap.size w w'):Laid ls k w':=
 ⟨fun r hr=>p.lane (h.1 r hr) (fun g hg=>(h.1 r hr).lt hg),fun m hm=>p.marked (h.1.at_ (by omega)) (h.2 m hm) (h.1.at_ (by omega)).le (fun g hg=>(h.1.at_ (by omega:m<ls.length)).lt hg) (fun g q hg hq=>by rw[hs g m q (at3_owns (by omega) hg) hq])⟩
def Grown (ls gs:List Sl) (w:World):Prop:=∀m r,gs[m]? =some r→Lane w r∧Marked w r r.2.1 (m/2+1000)∧ ∀b q,r.1=some ⟨b,0,none⟩→Owns ls b q→q=m/2
theorem Grown.paint {ls gs:List Sl} {w w':World} (h:Grown ls gs w) (p:Paint ls w.heap.size w w'):Grown ls gs w':=fun m r hr=>by
 obtain ⟨h1,h2,h3⟩:=h m r hr;exact ⟨p.lane h1 (fun g hg=>h1.lt hg),p.marked h1 h2 h1.le (fun g hg=>h1.lt hg) (fun g q hg hq=>by rw[h3 g q hg hq]),h3⟩
structure Grow (ls:List Sl) (k:Nat) (w4 w':World) (r:Sl) (n:Nat):Prop where
 lane:Lane w' r
 mark:Marked w' r n (k+1000)
 le:n≤r.2.1
 own:∀b,r.1=some ⟨b,0,none⟩→Owns ls b k∨w4.heap.size≤b
structure Went (ls:List Sl) (w4 w':World):Prop where
 ext:Ext (Bk ls) w4 w'
 paint:Paint ls w4.heap.size w4 w'
theorem Went.refl {ls:List Sl} {w4:World}:Went ls w4 w4:=⟨Ext.refl _ _,Paint.refl⟩
theorem Went.fresh {ls:List Sl} {w4 w' w'':World} (h:Went ls w4 w') (e:Ext No w' w''):Went ls w4 w'':=
 ⟨h.ext.step e (fun _ h=>h.elim),h.paint.trans (Paint.no e (fun _ h _=>h.elim) h.ext.size)⟩
theorem Went.step {ls:List Sl} {k n:Nat} {w4 w' w'':World} {r r':Sl} (h:Went ls w4 w') (g:Grow ls k w4 w' r n) (s:AppStep w' w'' r r' (k+1000)):Went ls w4 w'':=
 ⟨s.ext h.ext g.own,h.paint.trans (s.paint h.ext.size g.own)⟩
theorem Went.row {ls:List Sl} {w4 w' w'':World} {base n size:Nat} {e:TypeId} {v:Value} {xs:List Value} (h:Went ls w4 w') (o:w'.ownsRow base e size v n xs) (he:e≠27) (E:Ext (Mut [v.ownBlock]) w' w''):Paint ls w4.heap.size w4 w'':=
 h.paint.trans fun b cur hlt hc=>⟨cur,E.blk hc (fun hX=>by
  rcases hX with hX | hX
  · rcases o.2 with ⟨rfl,_⟩ | ⟨g,cap,cu,rfl,_,hg,_⟩
    · cases hX
    · have e:b=g:=Option.some.inj hX;have h1:w'.heap[b]? =some (.cells cur 27 (0,0)):=hc;rw[←e,h1] at hg;simp only[Option.some.injEq,Obj.cells.injEq] at hg
      exact he hg.2.1.symm
  · exact hX.elim),rfl,fun _ _ h=>.inl h⟩
theorem Grow.fresh {ls:List Sl} {k n:Nat} {w4 w' w'':World} {r:Sl} (h:Grow ls k w4 w' r n) (e:Ext No w' w''):Grow ls k w4 w'' r n:=
 ⟨e.lane h.lane (fun _ _ h=>h.elim),e.marked h.lane h.mark (fun _ _ h=>h.elim),h.le,h.own⟩
theorem Grow.other {ls:List Sl} {k n:Nat} {w4 w' w'':World} {r s s':Sl} (h:Grow ls k w4 w' r n) (st:AppStep w' w'' s s' (k+1000)):Grow ls k w4 w'' r n:=
 have h1:=st.same h.lane h.mark (Nat.le_trans h.le h.lane.le);⟨h1.1,h1.2,h.le,h.own⟩
theorem Grow.step {ls:List Sl} {k n:Nat} {w4 w' w'':World} {r r':Sl} (h:Grow ls k w4 w' r n) (W:Went ls w4 w') (st:AppStep w' w'' r r' (k+1000)) (hl:Lane w'' r') (hm:Marked w'' r' r'.2.1 (k+1000)):Grow ls k w4 w'' r' r'.2.1:=
 ⟨hl,hm,Nat.le_refl _,fun b hb=>by
  rcases st with ⟨h1,_⟩ | ⟨⟨b',h1,h2⟩,_⟩
  · exact h.own b (h1▸hb)
  · rw[h1] at hb;cases hb;exact .inr (Nat.le_trans W.ext.size h2)⟩
theorem Grow.row {ls:List Sl} {k m:Nat} {w4 w' w'':World} {r:Sl} {base n size:Nat} {e:TypeId} {v:Value} {xs:List Value} (h:Grow ls k w4 w' r m) (o:w'.ownsRow base e size v n xs) (he:e≠27) (E:Ext (Mut [v.ownBlock]) w' w''):Grow ls k w4 w'' r m:=by
 have hx:∀g,r.1=some ⟨g,0,none⟩→ ¬Mut [v.ownBlock] g:=fun g hg hX=>by
  rcases hX with hX | hX
  · rcases o.2 with ⟨rfl,_⟩ | ⟨g',cap,cu,rfl,_,hg',_⟩
    · cases hX
    · have e:g=g':=Option.some.inj hX;obtain ⟨cur,h1,_⟩:=h.lane.blk hg;have h2:w'.heap[g]? =some (.cells cur 27 (0,0)):=h1;rw[←e,h2] at hg';simp only[Option.some.injEq,Obj.cells.injEq] at hg'
      exact he hg'.2.1.symm
  · exact hX.elim
 exact ⟨E.lane h.lane hx,E.marked h.lane h.mark hx,h.le,h.own⟩
section
variable (ls:List Sl) (gl ol c:Nat) (w:World)
end
end Go.Proofs.YtebjkmjfcijebaaGreat

/- Texts of this claim. -/
import Derived.Test.YtdofcnodhgaedaaGreatDoorG10
import Derived.Lib.Builder
import Derived.Lib.AppendStr
set_option maxRecDepth 100000
namespace Go.Proofs.YtdofcnodhgaedaaGreatDoor
open Go.RowKit Proofs.Tryz
section
variable {P:Program} {N:Nat} {ops:Array Oper} {Q:Exit→Act→World→Prop} {σ:Env} {w:World} {ty:TypeId} {pos:String} {af:Array Edge} {dst:Option Nat} {Post:Value→World→Prop}
theorem Td {x y:Operand} {T U e:TypeId} {a:Option Addr} (hd:P.underlying T=some (.pointer e)) (hx:ev σ x=some (.pointer a)) (hy:ev σ y=some (.pointer none)) (k:Post (.bool a.isNone) w):OW P N ops Q ⟨dst,.binOp .eql T x y U,ty,pos,af,none⟩ σ w Post:=
 zt (fun ρ ha=>by
  have e1:(Op.equal T (.pointer a) (.pointer none)).run P w= .ok a.isNone w:=by
   unfold Op.equal;rw[show Op.maxDepth=9999+1 from rfl,Op.equalIn];simp only[Sem.run_bind,run_underlying hd,Result.andThen_ok]
   cases a<;>rfl
  simp only[execOp,ha hx,ha hy,eqGuard,binOp]
  simp[e1,go_sem]) k
theorem Jy {x y:Operand} {T U e:TypeId} {a:Addr} {n:Nat} (hd:P.underlying T=some (.pointer e)) (hi:(P.info? e).map (·.size)=some n) (hx:ev σ x=some (.pointer (some a))) (hy:ev σ y=some (.pointer (some a))) (k:Post (.bool false) w):OW P N ops Q ⟨dst,.binOp .neq T x y U,ty,pos,af,none⟩ σ w Post:=
 zt (fun ρ ha=>by
  obtain ⟨j,hj,_⟩:=Option.map_eq_some_iff.1 hi;have e1:=Lib.run_neq_ptr_same (w:=w) (P:=P) a hd hj;simp only[execOp,ha hx,ha hy,eqGuard]
  simp[e1,go_sem]) k
theorem ZV {x:Operand} {T U t e:TypeId} {g n:Nat} {cs:Array Value} (hs:P.underlying T=some (.pointer t)) (hd:P.underlying U=some .unsafePointer) (hi:(P.info? t).map (·.size)=some n) (hn:n≠0) (hx:ev σ x=some (.pointer (some ⟨g,0,none⟩))) (hb:aA w g e cs) (h0:0<cs.size) (k:Post (.pointer (some ⟨g,0,none⟩)) w):OW P N ops Q ⟨dst,.convert T U x,ty,pos,af,none⟩ σ w Post:=
 zt (fun ρ ha=>by
  obtain ⟨j,hj,hjs⟩:=Option.map_eq_some_iff.1 hi;have e1:=Lib.run_to_unsafe (w:=w) (e:=e) (cells:=cs.size) ⟨g,0,none⟩ hs hd hj (by rw[hjs];exact hn) (by unfold World.shape?;rw[show w.heap[g]? =_ from hb]) h0;simp only[execOp,ha hx]
  simp[e1,go_sem]) k
theorem OI {x:Operand} {T U u e:TypeId} {g n:Nat} {cs:Array Value} (hs:P.underlying T=some .unsafePointer) (hd:P.underlying U=some (.pointer u)) (hi:(P.info? u).map (·.size)=some n) (hx:ev σ x=some (.pointer (some ⟨g,0,none⟩))) (hb:aA w g e cs) (hl:liesAt P P.depth e (cs.size/P.cellsOf e) 0 u 1=true) (k:Post (.pointer (some ⟨g,0,none⟩)) w):OW P N ops Q ⟨dst,.convert T U x,ty,pos,af,none⟩ σ w Post:=
 zt (fun ρ ha=>by
  obtain ⟨j,hj,_⟩:=Option.map_eq_some_iff.1 hi;have e1:=Lib.run_from_unsafe (w:=w) (e:=e) (cells:=cs.size) ⟨g,0,none⟩ hs hd hj (by unfold World.shape?;rw[show w.heap[g]? =_ from hb]) hl;simp only[execOp,ha hx]
  simp[e1,go_sem]) k
theorem OJ {n c:Nat} (h:n≤1000000) (hc:c<n):Builtin.nextslicecap n c≤281474976710656:=Nat.le_trans (nextslicecap_le hc) om
theorem tF {T U e:TypeId} {x y:Operand} {base n n':Nat} {v:Value} {xs:List Value} {s:ByteArray} (hd:P.underlying T=some (.slice e)) (hu:P.underlying U=some .string) (hi:iK P e (.int .u8 0) 1 1) (hx:ev σ x=some v) (hown:w.ownsRow base e 1 v n xs) (h0:0<n) (hy:ev σ y=some (.string s)) (hn:n+s.size=n') (h63:n'≤1000000) (hbase:base≤w.heap.size)
 (k:∀A' c' w',w'.ownsRow base e 1 (.slice A' n' c') n' (xs++Lib.strCells s)→Ext (ah [v.ownBlock]) w w'→(∀q,(Value.slice A' n' c').ownBlock=some q→v.ownBlock=some q∨w.heap.size≤q)→Post (.slice A' n' c') w'):OW P N ops Q ⟨dst,.call ⟨.builtin .append,#[x,y],#[T,U]⟩,ty,pos,af,none⟩ σ w Post:=by
 subst hn;obtain ⟨i,hi1,hi2⟩:=Option.map_eq_some_iff.1 hi;simp only[Prod.mk.injEq] at hi2
 obtain ⟨hz,hs,hby⟩:=hi2;obtain ⟨v',w',hrun,h2,h3,_⟩:=Lib.run_append_own_string (P:=P) w base T U ty e i hd hu hi1 hz hs hby v n xs hown s (by unfold maxLen;omega) om hbase;obtain ⟨A',c',rfl⟩:=zp h2;have hN:∀q,(Value.slice A' (n+s.size) c').ownBlock=some q→v.ownBlock=some q∨w.heap.size≤q:=fun q hq=>by
  rcases hown.2 with ⟨hv,hn0⟩ | ⟨g,cap,cur,rfl,hbg,hg,hnc,hcm,hcs,htake⟩
  · omega
  · by_cases hroom:n+s.size≤cap
    · have h4:=Lib.run_append_room_string (P:=P) w T U ty e i hd hu hi1 hs g n cap cur hg s hroom om;rw[hrun] at h4;injection h4 with h4 _
      rw[h4] at hq;exact Or.inl hq
    · have hl:(cur.toList.take (n*1)).length=n*i.size:=by
       rw[List.length_take,Array.length_toList,hs];omega
      have h4:=Lib.run_append_grow_string (P:=P) w T U ty e i (.int .u8 0) hd hu hi1 hz ⟨g,0,none⟩ n cap (cur.toList.take (n*1)) hl (fun j u hj=>by
       rw[Addr.add_eq];rw[List.getElem?_take] at hj;split at hj
       · rw[Array.getElem?_toList] at hj;have h5:=(show aA w g e cur from hg).cell j;simp only[Nat.zero_add] at h5 ⊢
         exact h5.trans hj
       · cases hj) s om om (by
       rw[hby,Nat.mul_one];exact OJ om om)
      rw[hrun] at h4;injection h4 with h4 _
      rw[h4] at hq;have hq:some w.heap.size=some q:=hq;injection hq with hq
      exact Or.inr om
 refine zt (v:=_) (w':=w') (fun ρ ha=>?_) (k A' c' w' h2 (Ext.grown h3) hN);simp only[execOp,resolve,invoke,builtin,Sem.run_bind,Sem.run_pure,Result.andThen_ok,List.map_toArray,List.map_cons,List.map_nil,ha hx,ha hy,hrun]
end
end Go.Proofs.YtdofcnodhgaedaaGreatDoor

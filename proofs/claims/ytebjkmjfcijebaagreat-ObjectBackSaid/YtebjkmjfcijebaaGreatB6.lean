/- Texts of this claim. -/
import Derived.Test.YtebjkmjfcijebaaGreatB5
import Derived.Laws.IdiomStrings
import Derived.Lib.ItoaMem
namespace Go.Proofs.YtebjkmjfcijebaaGreat
open Go.RowKit
theorem Per.turn {X Y:Nat→Prop} {w w':World} {F:World→Prop} (h:Per X w F) (e:Ext X w w') (hy:∀k,Y k→X k∨w.heap.size≤k):Per Y w' F:=fun _ hb=>h _ (e.step hb hy)
theorem Apart.turn {r r' s:Option Nat} {n:Nat} (d:Apart r s) (kn:∀k,r'=some k→r=some k∨n≤k) (hs:∀k,s=some k→k<n):Apart r' s:=fun k e f=>(kn k e).elim (fun e'=>d k e' f) (fun h=>by have:=hs k f;omega)
theorem Apart.ge {r s:Option Nat} {n:Nat} (kn:∀k,r=some k→n≤k) (hs:∀k,s=some k→k<n):Apart r s:=fun k e f=>by have h1:=kn k e;have h2:=hs k f;omega
theorem owns_shape {w:World} {base n size:Nat} {e:TypeId} {v:Value} {xs:List Value} (h:w.ownsRow base e size v n xs):∃A c,v= .slice A n c:=by
 rcases h.2 with ⟨rfl,rfl⟩ | ⟨g,cap,cur,rfl,_⟩
 · exact ⟨none,0,rfl⟩
 · exact ⟨_,_,rfl⟩
theorem owns_nil {w:World} {base size:Nat} {e:TypeId}:w.ownsRow base e size (.slice none 0 0) 0 []:=⟨by simp,Or.inl ⟨rfl,rfl⟩⟩
theorem yhz {w:World} {base base' n size:Nat} {e:TypeId} {v:Value} {xs:List Value} (h:w.ownsRow base e size v n xs) (hb:base'≤base):w.ownsRow base' e size v n xs:=by
 refine ⟨h.1,h.2.imp id ?_⟩;rintro ⟨g,cap,cur,hv,hg,r⟩;exact ⟨g,cap,cur,hv,by omega,r⟩
theorem zvv {w:World} {base n c:Nat} {e:TypeId} {A:Option Addr} {xs:List Value} (h:w.ownsRow base e 1 (.slice A n c) n xs) (h0:0<n):∃g,A=some ⟨g,0,none⟩∧base≤g∧g<w.heap.size∧ ∀j u,xs[j]? =some u→w.cell? ⟨g,j,none⟩=some u:=by
 rcases h.2 with ⟨_,rfl⟩ | ⟨g,cap,cur,hv,hg,hh,hn,_,hs,ht⟩
 · omega
 · cases hv
   refine ⟨g,rfl,hg,(Array.getElem?_eq_some_iff.1 hh).1,fun j u hj=>?_⟩;unfold World.cell?;simp only[hh,Option.isSome_none,Bool.false_eq_true,if_false]
   rw[←ht,List.getElem?_take] at hj;split at hj
   · simpa using hj
   · cases hj
section
variable {P:Program} {N:Nat} {ops:Array Oper} {Q:Exit→Act→World→Prop} {σ:Env} {w:World} {ty:TypeId} {pos:String} {af:Array Edge} {dst:Option Nat} {Post:Value→World→Prop}
theorem qdz {S D e:TypeId} {x:Operand} {A:Option Addr} {c:Nat} {l:List UInt8} (hS:P.underlying S=some (.slice e)) (he:P.underlying e=some (.int .u8)) (hD:P.underlying D=some .string) (hx:ev σ x=some (.slice A l.length c))
 (hc:0<l.length→ ∃b o,A=some ⟨b,o,none⟩∧ ∀j (hj:j<l.length),w.cell? ⟨b,o+j,none⟩=some (.int .u8 (l[j].toNat:Int)))
 (k:Post (.string ⟨l.toArray⟩) w):OW P N ops Q ⟨dst,.convert S D x,ty,pos,af,none⟩ σ w Post:=
 yw (fun ρ ha=>by
  have key:(convert S D (.slice A l.length c)).run P w= .ok (.string ⟨l.toArray⟩) w:=by
   rcases Nat.eq_zero_or_pos l.length with h0 | h0
   · obtain rfl:l= []:=List.length_eq_zero_iff.1 h0;rw[run_convert_bytes_string w S D e A _ c hS he hD];cases A<;>simp[Conv.bytesToString,loadCellsFrom,go_sem]<;>rfl
   · obtain ⟨b,o,rfl,hcc⟩:=hc h0;exact run_convert_bytes_back w S D e ⟨b,o,none⟩ c l hS he hD (fun j hj=>by
      rw[Lib.add_plain];exact hcc j hj)
  simp only[execOp,ha hx,Sem.run_bind,key,Result.andThen_ok,Sem.run_pure]) k
end
end Go.Proofs.YtebjkmjfcijebaaGreat

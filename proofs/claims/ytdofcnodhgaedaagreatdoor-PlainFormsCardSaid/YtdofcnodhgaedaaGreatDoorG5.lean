/- Texts of this claim. -/
import Derived.Test.YtdofcnodhgaedaaGreatDoorG4
import Derived.Laws.IdiomStrings
import Derived.Lib.ItoaMem
namespace Go.Proofs.YtdofcnodhgaedaaGreatDoor
open Go.RowKit
theorem Per.turn {X Y:Nat→Prop} {w w':World} {F:World→Prop} (h:Per X w F) (e:Ext X w w') (hy:∀k,Y k→X k∨w.heap.size≤k):Per Y w' F:=fun _ hb=>h _ (e.step hb hy)
theorem Apart.turn {r r' s:Option Nat} {n:Nat} (d:Apart r s) (kn:∀k,r'=some k→r=some k∨n≤k) (hs:∀k,s=some k→k<n):Apart r' s:=fun k e f=>(kn k e).elim (fun e'=>d k e' f) (fun h=>by have:=hs k f;omega)
theorem Apart.ge {r s:Option Nat} {n:Nat} (kn:∀k,r=some k→n≤k) (hs:∀k,s=some k→k<n):Apart r s:=fun k e f=>by have h1:=kn k e;have h2:=hs k f;omega
theorem zp {w:World} {base n size:Nat} {e:TypeId} {v:Value} {xs:List Value} (h:w.ownsRow base e size v n xs):∃A c,v= .slice A n c:=by
 rcases h.2 with ⟨rfl,rfl⟩ | ⟨g,cap,cur,rfl,_⟩
 · exact ⟨none,0,rfl⟩
 · exact ⟨_,_,rfl⟩
theorem ykq {w:World} {base size:Nat} {e:TypeId}:w.ownsRow base e size (.slice none 0 0) 0 []:=⟨by simp,Or.inl ⟨rfl,rfl⟩⟩
theorem ytq {p:Nat→Prop}:∀k,(Value.slice none 0 0).ownBlock=some k→p k:=fun _ e=>by cases e
theorem ysq {w:World} {base base' n size:Nat} {e:TypeId} {v:Value} {xs:List Value} (h:w.ownsRow base e size v n xs) (hb:base'≤base):w.ownsRow base' e size v n xs:=by
 refine ⟨h.1,h.2.imp id ?_⟩;rintro ⟨g,cap,cur,hv,hg,r⟩;exact ⟨g,cap,cur,hv,om,r⟩
theorem BA {w:World} {base n c:Nat} {e:TypeId} {A:Option Addr} {xs:List Value} (h:w.ownsRow base e 1 (.slice A n c) n xs) (h0:0<n):∃g,A=some ⟨g,0,none⟩∧base≤g∧g<w.heap.size∧ ∀j u,xs[j]? =some u→w.cell? ⟨g,j,none⟩=some u:=by
 rcases h.2 with ⟨_,rfl⟩ | ⟨g,cap,cur,hv,hg,hh,hn,_,hs,ht⟩
 · omega
 · cases hv
   refine ⟨g,rfl,hg,(Array.getElem?_eq_some_iff.1 hh).1,fun j u hj=>?_⟩;unfold World.cell?;simp only[hh,Option.isSome_none,Bool.false_eq_true,if_false]
   rw[←ht,List.getElem?_take] at hj;split at hj
   · simpa using hj
   · cases hj
theorem zdz {w:World} {base n c:Nat} {e:TypeId} {A:Option Addr} {xs:List Value} {l:List UInt8} (h:w.ownsRow base e 1 (.slice A n c) n xs) (hx:xs=l.map fun b=>.int .u8 (b.toNat:Int)) :
 0<l.length→ ∃b o,A=some ⟨b,o,none⟩∧ ∀j (hj:j<l.length),w.cell? ⟨b,o+j,none⟩=some (.int .u8 (l[j].toNat:Int)):=by
 intro h0;have hn:n=l.length:=by have:=h.1;rw[hx] at this;simpa using this.symm
 obtain ⟨g,rfl,_,_,hc⟩:=BA h om;refine ⟨g,0,rfl,fun j hj=>?_⟩;rw[Nat.zero_add];exact hc j _ (by rw[hx];simp[hj])
theorem qq {w:World} {g:Nat} {t:TypeId} {cs:Array Value} {B n:Nat} (h:aA w g t cs) (hB:g<B) (hn:cs.size=n):Reads w B 1 (some ⟨g,0,none⟩) n cs.toList:=by
 refine ⟨by simp[hn],fun _=>⟨_,rfl,hB,fun j u hj=>?_⟩⟩;have h1:=h.cell j;rw[Lib.add_plain];simpa [h1] using hj
section
variable {P:Program} {N:Nat} {ops:Array Oper} {Q:Exit→Act→World→Prop} {σ:Env} {w:World} {ty:TypeId} {pos:String} {af:Array Edge} {dst:Option Nat} {Post:Value→World→Prop}
theorem znk {ρ:Operand→Value} (ha:∀ {x v},ev σ x=some v→ρ x=v) (y:Operand) (q:IntKind) (j lim:Nat) (code:BoundsCode) (hy:ev σ y=some (.int q (j:Int))) (hj:j≤lim):(Instr.sliceBound (ρ y) lim code).run P w= .ok j w:=by
 exact Uo
theorem oi {T:TypeId} {x:Operand} {lo hi:Option Operand} {s:ByteArray} {l h:Nat} (hd:P.underlying T=some .string) (hx:ev σ x=some (.string s))
 (hl:(match lo with | none=>l=0 | some y=>∃q,ev σ y=some (.int q (l:Int)))) (hh:(match hi with | none=>h=s.size | some y=>∃q,ev σ y=some (.int q (h:Int)))) (hlh:l≤h) (hhc:h≤s.size)
 (k:Post (.string (s.extract l h)) w):OW P N ops Q ⟨dst,.slice T x lo hi none,ty,pos,af,none⟩ σ w Post:=
 zt (fun ρ ha=>by
  cases lo with
  | none=>
   cases hi with
   | none=>
    simp only at hl hh
    subst hl;subst hh;simp only[execOp,Instr.sliceAt,Option.map_none,ha hx,Sem.run_bind,run_underlying hd,Result.andThen_ok,Instr.slice,Instr.sliceBounds,Sem.run_pure,Option.isSome_none,Bool.false_eq_true,if_false]
   | some y=>
    simp only at hl
    subst hl;obtain ⟨q,hy⟩:=hh;simp only[execOp,Instr.sliceAt,Option.map_none,Option.map_some,ha hx,Sem.run_bind,run_underlying hd,Result.andThen_ok,Instr.slice,Instr.sliceBounds,Sem.run_pure,Option.isSome_none,Bool.false_eq_true,if_false,znk ha y q h s.size _ hy hhc]
  | some z=>
   obtain ⟨q',hz⟩:=hl;cases hi with
   | none=>
    simp only at hh
    subst hh;simp only[execOp,Instr.sliceAt,Option.map_none,Option.map_some,ha hx,Sem.run_bind,run_underlying hd,Result.andThen_ok,Instr.slice,Instr.sliceBounds,Sem.run_pure,Option.isSome_none,Bool.false_eq_true,if_false,znk ha z q' l _ _ hz hlh]
   | some y=>
    obtain ⟨q,hy⟩:=hh;simp only[execOp,Instr.sliceAt,Option.map_none,Option.map_some,ha hx,Sem.run_bind,run_underlying hd,Result.andThen_ok,Instr.slice,Instr.sliceBounds,Sem.run_pure,Option.isSome_none,Bool.false_eq_true,if_false,znk ha y q h s.size _ hy hhc,znk ha z q' l _ _ hz hlh]) k
theorem nL {T e:TypeId} {x y:Operand} {g n s h:Nat} {q:IntKind} (hd:P.underlying T=some (.array n e)) (hs:yv P e s) (hx:ev σ x=some (.pointer (some ⟨g,0,none⟩))) (hy:ev σ y=some (.int q (h:Int))) (hn:h≤n)
 (k:Post (.slice (some ⟨g,0,none⟩) h n) w):OW P N ops Q ⟨dst,.slice T x none (some y) none,ty,pos,af,none⟩ σ w Post:=
 zt (fun ρ ha=>by
  simp only[execOp,Instr.sliceAt,Option.map_none,Option.map_some,ha hx,Sem.run_bind,run_underlying hd,Result.andThen_ok,Instr.sureAddr,Instr.sliceBounds,Sem.run_pure,ja hs,Option.isSome_none,Bool.false_eq_true,if_false,znk ha y q h n _ hy hn]
  simp[Addr.add]) k
theorem kg {S D e:TypeId} {x:Operand} {A:Option Addr} {c:Nat} {l:List UInt8} (hS:P.underlying S=some (.slice e)) (he:P.underlying e=some (.int .u8)) (hD:P.underlying D=some .string) (hx:ev σ x=some (.slice A l.length c))
 (hc:0<l.length→ ∃b o,A=some ⟨b,o,none⟩∧ ∀j (hj:j<l.length),w.cell? ⟨b,o+j,none⟩=some (.int .u8 (l[j].toNat:Int)))
 (k:Post (.string ⟨l.toArray⟩) w):OW P N ops Q ⟨dst,.convert S D x,ty,pos,af,none⟩ σ w Post:=
 zt (fun ρ ha=>by
  have key:(convert S D (.slice A l.length c)).run P w= .ok (.string ⟨l.toArray⟩) w:=by
   rcases Nat.eq_zero_or_pos l.length with h0 | h0
   · obtain rfl:l= []:=List.length_eq_zero_iff.1 h0;rw[run_convert_bytes_string w S D e A _ c hS he hD];cases A<;>simp[Conv.bytesToString,loadCellsFrom,go_sem]<;>rfl
   · obtain ⟨b,o,rfl,hcc⟩:=hc h0;exact run_convert_bytes_back w S D e ⟨b,o,none⟩ c l hS he hD (fun j hj=>by
      rw[Lib.add_plain];exact hcc j hj)
  simp only[execOp,ha hx,Sem.run_bind,key,Result.andThen_ok,Sem.run_pure]) k
theorem ysv {x y:Operand} {t1 t2:TypeId} {q q2:IntKind} {m n:Int} (hx:ev σ x=some (.int q m)) (hy:ev σ y=some (.int q2 n))
 (k:Post (.int q (if n>m then n else m)) w):OW P N ops Q ⟨dst,.call ⟨.builtin .max,#[x,y],#[t1,t2]⟩,ty,pos,af,none⟩ σ w Post:=
 zt (fun ρ ha=>by simp[execOp,resolve,invoke,builtin,Builtin.max_,Builtin.max2,ha hx,ha hy,go_sem]) k
end
end Go.Proofs.YtdofcnodhgaedaaGreatDoor

/- Texts of this claim. -/
import Derived.Test.YtebjkmjfcijebaaGreatB8
import Derived.ArgAppend
import Derived.Deep.Upon
namespace Go.Proofs.YtebjkmjfcijebaaGreat
open Go.RowKit
section
variable {P:Program} {N:Nat} {ops:Array Oper} {Q:Exit→Act→World→Prop} {σ:Env} {w:World} {ty:TypeId} {pos:String} {af:Array Edge} {dst:Option Nat} {Post:Value→World→Prop}
theorem ow_build0 {T e:TypeId} {s:Nat} {z:Value} (hd:P.underlying T=some (.slice e)) (hs:vf P e s) (hz:xa P e z)
 (k:∀g w',Blk w' g e #[]→Below w.heap.size w w'→w.heap.size≤g→Post (.slice (some ⟨g,0,none⟩) 0 0) w'):OW P N ops Q ⟨dst,.buildSlice T 0 #[],ty,pos,af,none⟩ σ w Post:=
 vi (ps:=[]) (vs:=[]) (cs:=#[]) hd hs hz (by omega) rfl (by simp[Instr.fill]) (fun g w' h1 h2 h3=>k g w' h1 h2.toBelow h3)
theorem ow_appendE {T e:TypeId} {x y:Operand} {z:Value} {size bytes g m c B:Nat} {A:Option Addr} {news:List Value} (hd:P.underlying T=some (.slice e)) (hi:yev P e z size bytes) (hzs:z.cells.size=size) (hsz:0<size)
 (hx:ev σ x=some (.slice (some ⟨g,0,none⟩) 0 0)) (hy:ev σ y=some (.slice A m c)) (hr:Reads w B size A m news) (h1:∀u∈news,u.oneCell'=true) (h63:m≤maxLen) (hbytes:m*bytes≤140737488355328)
 (k:∀A' c' w',Below w.heap.size w w'→((m=0∧A'=some ⟨g,0,none⟩∧c'=0∧news= [])∨w'.ownsRow w.heap.size e size (.slice A' m c') m news)→Post (.slice A' m c') w') :
 OW P N ops Q ⟨dst,.call ⟨.builtin .append,#[x,y],#[T,T]⟩,ty,pos,af,none⟩ σ w Post:=by
 obtain ⟨i,hi1,hi2⟩:=Option.map_eq_some_iff.1 hi;simp only[Prod.mk.injEq] at hi2
 obtain ⟨hz,hs,hby⟩:=hi2;have go:∀v' w',(Builtin.append_ #[T,T] ty #[.slice (some ⟨g,0,none⟩) 0 0,.slice A m c]).run P w= .ok v' w'→Post v' w'→OW P N ops Q ⟨dst,.call ⟨.builtin .append,#[x,y],#[T,T]⟩,ty,pos,af,none⟩ σ w Post:=fun v' w' hrun hp=>
  yw (v:=v') (w':=w') (fun ρ ha=>by
   simp only[execOp,resolve,invoke,builtin,Sem.run_bind,Sem.run_pure,Result.andThen_ok,List.map_toArray,List.map_cons,List.map_nil,ha hx,ha hy,hrun]) hp
 rcases Nat.eq_zero_or_pos m with h0 | h0
 · subst h0;have hn:news= []:=List.eq_nil_of_length_eq_zero (by simpa using hr.1);subst hn;have hrun:(Builtin.append_ #[T,T] ty #[.slice (some ⟨g,0,none⟩) 0 0,.slice A 0 c]).run P w= .ok (.slice (some ⟨g,0,none⟩) 0 0) w:=by
    cases A<;>simp[Builtin.append_,run_underlying hd,sizeOf,typeInfo,hi1,Builtin.lenOf,Builtin.firstCells,storeCells,loadCellsFrom,go_sem]
   exact go _ _ hrun (k _ _ _ (Below.refl _ _) (.inl ⟨rfl,rfl,rfl,rfl⟩))
 · obtain ⟨ad,rfl,_,hc⟩:=hr.2 h0;obtain ⟨v',w',hrun,r1,r2⟩:=run_append_arg_grows (P:=P) w T ty e i z size bytes hd hi1 hz hs hby hzs hsz ⟨g,0,none⟩ 0 0 [] (by simp) (by simp) ad m c news hr.1 hc (by omega) (by rw[Nat.zero_add];exact h63) (by rw[Nat.zero_add];exact hbytes);simp only[List.nil_append,Nat.zero_add] at r1
   obtain ⟨A',c',rfl⟩:=owns_shape r1;exact go _ _ hrun (k _ _ _ ⟨r2.os,r2.tape,r2.output,r2.size,fun i hi=>r2.block i hi (by simp)⟩ (.inr r1))
end
theorem ynv {w:World} {g:Nat} {t:TypeId} {cs:Array Value} {B n size:Nat} (h:Blk w g t cs) (hB:g<B) (hn:cs.size=n*size):Reads w B size (some ⟨g,0,none⟩) n cs.toList:=by
 refine ⟨by simp[hn],fun _=>⟨_,rfl,hB,fun j u hj=>?_⟩⟩;have h1:=h.cell j;rw[Lib.add_plain];simpa [h1] using hj
theorem Per.zown {X:Nat→Prop} {w w2:World} {e:TypeId} {size base g m c:Nat} {A:Option Addr} {news:List Value} (kz:Per X w (fun b=>Blk b g e #[]∧base≤g)) (hb:Below w.heap.size w w2) (hx:∀k,X k→k<w.heap.size) (hbase:base≤w.heap.size)
 (h:(m=0∧A=some ⟨g,0,none⟩∧c=0∧news= [])∨w2.ownsRow w.heap.size e size (.slice A m c) m news):Per X w2 (fun b=>b.ownsRow base e size (.slice A m c) m news):=by
 rcases h with ⟨rfl,rfl,rfl,rfl⟩ | h
 · exact (kz.on (Ext.of_below hb X)).map fun b ⟨h1,h2⟩=>⟨by simp,.inr ⟨g,0,#[],rfl,h2,h1,Nat.le_refl _,Nat.zero_le _,by simp,by simp⟩⟩
 · intro b hE;refine ⟨h.1,?_⟩;rcases h.2 with h1 | ⟨g',cap,cur,hv,hg,hh,r⟩
   · exact .inl h1
   · exact .inr ⟨g',cap,cur,hv,by omega,(hE.block g' (Array.getElem?_eq_some_iff.1 hh).1 (fun hX=>by have:=hx _ hX;omega)).trans hh,r⟩
end Go.Proofs.YtebjkmjfcijebaaGreat

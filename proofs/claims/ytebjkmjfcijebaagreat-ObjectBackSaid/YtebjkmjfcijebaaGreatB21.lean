/- Texts of this claim. -/
import Derived.Test.YtebjkmjfcijebaaGreatB20
import Derived.SizedLaws
set_option maxRecDepth 100000
namespace Go.Proofs.YtebjkmjfcijebaaGreat
open Go.ChangeShapes Go.WideShapes Go.ChangeAt Go.RowKit Go.Joins
section
variable {H:Type} {enc:TypeId×Value→H}
theorem row_sized {W:World} {fuel:Nat} {cs:List Value} {x:DataW H×List MemPlace} (h:DataW.trod enc Tryz.prog W 0 (fun _=>true) true fuel 22 cs=some x) :
 ∃A c xs,cs= [.slice A xs.length c]∧(∀y∈xs,U64 y)∧RowS W.heap.size W 1 (fun w g o (x:Nat)=>w.cell? ⟨g,o,none⟩=some (.int .u64 ((x:Nat):Int))) A xs∧(xs.length=0∨ ∃m,xs.length≤m∧m*Tryz.prog.bytesOf 27∈x.1.weights Tryz.prog 22):=by
 rcases open_ints u22 u27 (by kernel_rfl) h with ⟨rfl,_⟩ | ⟨a,len,cap,zs,rfl,_,hle,hmax,hz,hx,hcell,hwf⟩
 · exact ⟨none,0,[],rfl,fun y h=>(by cases h),fun h=>absurd rfl h,Or.inl rfl⟩
 · simp only[if_true] at hz
   have hl:((zs.take len).map Int.toNat).length=len:=by simp;omega
   have hu:∀n∈zs,0≤n∧n<18446744073709551616:=fun n hn=>u64_of_wf (hwf n hn);refine ⟨some a,cap,(zs.take len).map Int.toNat,by rw[hl],fun y hy=>?_,fun h0=>?_,Or.inr ⟨(lits (H:=H) .u64 (zs.take len)).length+(lits (H:=H) .u64 (zs.drop len)).length,?_,?_⟩⟩
   · rw[List.mem_map] at hy;obtain ⟨n,hn,rfl⟩:=hy;have:=hu n (List.mem_of_mem_take hn);unfold U64;omega
   · have h0':0<len:=by rw[←hl];exact List.length_pos_iff.2 h0
     obtain ⟨b,off,rfl,hc⟩:=ints_at hcell (by omega);refine ⟨b,off,rfl,cell_lt (hc 0 (by omega)),fun k x hk=>?_⟩;have hkl:=(List.getElem?_eq_some_iff.1 hk).1;rw[hl] at hkl;have hkz:k<zs.length:=by omega
     have e1:zs.getD k 0=zs[k]:=by simp[List.getD,List.getElem?_eq_getElem hkz]
     rw[List.getElem?_map,List.getElem?_take_of_lt hkl,List.getElem?_eq_getElem hkz] at hk;have e2:zs[k].toNat=x:=Option.some.inj hk;have h1:=hu _ (List.getElem_mem hkz);show W.cell? ⟨b,off+k*1,none⟩=_
     rw[Nat.mul_one,hc k hkz,e1];congr 2
     omega
   · rw[hl];unfold lits;simp;omega
   · rw[hx];simp only[DataW.weights,u22]
     exact List.mem_cons_self
theorem qbk {W:World} {fuel:Nat} {cs:List Value} {x:DataW H×List MemPlace} (h:DataW.trod enc Tryz.prog W 0 (fun _=>true) true fuel 22 cs=some x) (hw:∀n∈x.1.weights Tryz.prog 22,n≤reachBytes) :
 ∃A c xs,cs= [.slice A xs.length c]∧WordsA W.heap.size W A xs∧xs.length*8≤140737488351232:=by
 obtain ⟨A,c,xs,e,h1,h2,h3⟩:=row_sized h;have h4:xs.length*8≤140737488351232:=by
  rcases h3 with h3 | ⟨m,h3,h5⟩
  · omega
  · have h4:=hw _ h5;have h5:Tryz.prog.bytesOf 27=8:=by kernel_rfl
    rw[h5] at h4;have h6:reachBytes=140737488351232:=by decide
    omega
 exact ⟨A,c,xs,e,⟨by omega,h1,h2⟩,h4⟩
theorem mem_sized {W:World} {r:Reach} {b0:Nat} {v:Value} {d:DataW H} {p:List MemPlace} (hv:Value.okWide Tryz.prog W r b0 24 v) (h:DataW.Trod enc Tryz.prog W 0 (fun _=>true) true 24 v d p)
 (hw:∀n∈d.weights Tryz.prog 24,n≤reachBytes) :
 ∃A c xs i,v= .agg #[.slice A xs.length c,.int .i64 i]∧WordsA W.heap.size W A xs∧I64 i:=by
 obtain ⟨c0,c1,y0,y1,m,rfl,rfl,rfl,hy0,hy1⟩:=open_agg2 u24 (by kernel_rfl) (by kernel_rfl) hv h;obtain ⟨i,e1,rfl,wf⟩:=DataW.trod_int Tryz.underlying3 hy1;simp at e1
 subst e1;obtain ⟨A,c,xs,e0,h1,h2⟩:=qbk hy0 (fun n hn=>hw n (by
  simp only[DataW.weights,u24]
  exact DataW.weights_mem_each (j:=0) rfl rfl _ hn))
 simp at e0
 subst e0;exact ⟨A,c,xs,i,rfl,h1,i64_of_wf wf⟩
end
section
variable {H:Type} {enc:TypeId×Value→H} {P:Program} {W:World} {fuel:Nat} {t:TypeId}
def Light (P:Program) (t:TypeId) (d:DataW H):Prop:=∀n∈d.weights P t,n≤reachBytes
theorem Light.agg {fs:Array Field} {parts:List (DataW H)} (hu:P.underlying t=some (.struct fs)) (h:Light P t (.agg parts)) {j:Nat} {f:Field} {d:DataW H} (hf:fs[j]? =some f) (hd:parts[j]? =some d):Light P f.type d:=by
 unfold Light at h;simp only[DataW.weights,hu] at h
 exact fun n hn=>h n (DataW.weights_mem_each (by rw[List.getElem?_map,Array.getElem?_toList,hf];rfl) hd n hn)
theorem segN {f:Field} {n c:Nat} {t:TypeId} {cs ds:List Value} {z:Option (DataW H×List MemPlace)} {sp:Nat→Bool} (h:DataW.trod enc Tryz.prog W 0 sp true n f.type ((cs.drop f.offset).take (Tryz.prog.cellsOf f.type))=z) (ht:f.type=t) (hc:Tryz.prog.cellsOf t=c) (hd:(cs.drop f.offset).take c=ds):DataW.trod enc Tryz.prog W 0 sp true n t ds=z:=by
 subst ht;rw[hc,hd] at h;exact h
theorem open_valC {c:List Value} {z:DataW H×List MemPlace} (hc1:c.length=7) (hz:DataW.trod enc Tryz.prog W 0 (fun _=>true) true fuel 30 c=some z) (hl:Light Tryz.prog 30 z.1):∃v p,c=PV.cells v p∧PVA W.heap.size W v p:=by
 match c,hc1 with
 | [c0,c1,c2,c3,c4,c5,c6],_=>
  obtain ⟨zs,m2,_,hzx,_,hzn,hf⟩:=DataW.trod_struct u30 hz;match zs,hzn with
  | [z0,z1,z2,z3,z4,z5],_=>
   have k0:Tryz.prog.cellsOf 3=1:=by kernel_rfl
   have k1:Tryz.prog.cellsOf 4=1:=by kernel_rfl
   have k2:Tryz.prog.cellsOf 26=2:=by kernel_rfl
   have k3:Tryz.prog.cellsOf 27=1:=by kernel_rfl
   have k4:Tryz.prog.cellsOf 9=1:=by kernel_rfl
   have k5:Tryz.prog.cellsOf 28=1:=by kernel_rfl
   have k6:Tryz.prog.cellsOf 22=1:=by kernel_rfl
   have f0:DataW.trod enc Tryz.prog W 0 (fun _=>true) true m2 3 [c0]=some z0:=segN (hf 0 _ rfl) rfl k0 rfl;have f1:DataW.trod enc Tryz.prog W 0 (fun _=>true) true m2 4 [c1]=some z1:=segN (hf 1 _ rfl) rfl k1 rfl;have f2:DataW.trod enc Tryz.prog W 0 (fun _=>true) true m2 26 [c2,c3]=some z2:=segN (hf 2 _ rfl) rfl k2 rfl;have f3:DataW.trod enc Tryz.prog W 0 (fun _=>true) true m2 27 [c4]=some z3:=segN (hf 3 _ rfl) rfl k3 rfl;have f4:DataW.trod enc Tryz.prog W 0 (fun _=>true) true m2 9 [c5]=some z4:=segN (hf 4 _ rfl) rfl k4 rfl;have f5:DataW.trod enc Tryz.prog W 0 (fun _=>true) true m2 28 [c6]=some z5:=segN (hf 5 _ rfl) rfl k5 rfl;rw[hzx] at hl;have l2:Light Tryz.prog 26 z2.1:=hl.agg (j:=2) u30 rfl rfl;obtain ⟨zs2,m3,_,hzx2,_,hzn2,hf2⟩:=DataW.trod_struct u26 f2;match zs2,hzn2 with
   | [y0,y1],_=>
    have g0:DataW.trod enc Tryz.prog W 0 (fun _=>true) true m3 4 [c2]=some y0:=segN (hf2 0 _ rfl) rfl k1 rfl;have g1:DataW.trod enc Tryz.prog W 0 (fun _=>true) true m3 22 [c3]=some y1:=segN (hf2 1 _ rfl) rfl k6 rfl;rw[hzx2] at l2;have l3:Light Tryz.prog 22 y1.1:=l2.agg (j:=1) u26 rfl rfl;obtain ⟨m0,e0,_,w0⟩:=DataW.trod_int Tryz.underlying3 f0;obtain ⟨b1,e1,_⟩:=DataW.trod_bool u4 f1;obtain ⟨b2,e2,_⟩:=DataW.trod_bool u4 g0;obtain ⟨A3,p3,x3,e3,h3,_⟩:=qbk g1 l3;obtain ⟨m4,e4,_,w4⟩:=DataW.trod_int u27 f3;obtain ⟨s5,e5,_,w5⟩:=DataW.trod_string Tryz.underlying9 f4;obtain ⟨A6,n6,p6,e6⟩:∃A n p,[c6]= [.slice A n p]:=by
     rcases DataW.trod_slice Tryz.underlying28 f5 with ⟨h1,_⟩ | ⟨a,len,cap,_,_,_,_,hcs,_⟩
     · exact ⟨_,_,_,h1⟩
     · exact ⟨_,_,_,hcs⟩
    have hu:=u64_of_wf w4;obtain ⟨q4,hq4⟩:∃q:Nat,m4=((q:Nat):Int):=⟨m4.toNat,by omega⟩;subst hq4;cases e0;cases e1;cases e2;cases e3;cases e4;cases e5;cases e6
    exact ⟨⟨m0,b1,b2,x3,q4,s5,n6⟩,⟨A3,p3,A6,p6⟩,rfl,⟨i64_of_wf w0,(show q4<18446744073709551616 by omega),h3⟩⟩
theorem open_val {r:Reach} {b0:Nat} {v:Value} {d:DataW H} {p:List MemPlace} (hv:Value.okWide Tryz.prog W r b0 30 v) (h:DataW.Trod enc Tryz.prog W 0 (fun _=>true) true 30 v d p) (hl:Light Tryz.prog 30 d):∃x q,v=PV.val x q∧PVA W.heap.size W x q:=by
 obtain ⟨cs,rfl,hsz⟩:=okWide_struct u30 hv;have hsz:cs.size=7:=hsz.trans (by kernel_rfl);obtain ⟨fuel,h⟩:=h;have h:DataW.trod enc Tryz.prog W 0 (fun _=>true) true fuel 30 cs.toList=some (d,p):=h;obtain ⟨x,q,e,hA⟩:=open_valC (by simpa using hsz) h hl;refine ⟨x,q,?_,hA⟩;have e2:cs=(PV.cells x q).toArray:=by rw[←e]
 rw[e2];rfl
end
end Go.Proofs.YtebjkmjfcijebaaGreat

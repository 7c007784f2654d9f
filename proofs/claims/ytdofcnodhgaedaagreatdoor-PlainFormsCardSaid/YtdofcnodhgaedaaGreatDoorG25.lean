/- Texts of this claim. -/
import Derived.Test.YtdofcnodhgaedaaGreatDoorG24
import Derived.ChangeSame
import Derived.OpenShut
import Derived.Deep.Strs
set_option maxRecDepth 100000
namespace Go.Proofs.YtdofcnodhgaedaaGreatDoor
open Proofs.Tryz
open Go.ChangeShapes Go.WideShapes Go.ChangeAt Go.RowKit Go.Joins
section
variable {H:Type} {enc:TypeId×Value→H} {P:Program} {W:World} {base:Nat} {spare:Nat→Bool} {held:Bool} {fuel:Nat} {t:TypeId} {cs:List Value} {x:DataW H×List MemPlace}
theorem Ef {k:FloatKind} (ht:P.underlying t=some (.float k)) (h:DataW.trod enc P W base spare held fuel t cs=some x):∃n,cs= [.float k n]∧x=(.lit (.float k n),[]):=by
 cases fuel with
 | zero=>simp[DataW.trod] at h
 | succ n=>
  unfold DataW.trod at h;rw[ht] at h;split at h<;>simp_all
theorem Eh {ms:Array (String×TypeId)} {n:String} {d:DataW H} {p:List MemPlace} (ht:P.underlying t=some (.interface ms)) (h:DataW.trod enc P W base spare false fuel t cs=some (.iface n d,p)):∃te pe,cs= [.iface te pe]:=by
 cases fuel with
 | zero=>simp[DataW.trod] at h
 | succ n=>
  unfold DataW.trod at h;rw[ht] at h;split at h<;>simp_all
theorem aa8 {a:Addr} (h:W.cells? base a 1=some cs):∃v,cs= [v]∧W.cell? a=some v:=by
 unfold World.cells? at h;split at h
 · have e:a.add 0=a:=rfl;have e2:List.range 1= [0]:=rfl;rw[e2] at h;simp only[List.mapM_cons,List.mapM_nil,e,Option.bind_eq_bind,Option.bind_eq_some_iff,Option.pure_def,Option.some.injEq] at h
   obtain ⟨v,hv,r,rfl,rfl⟩:=h;exact ⟨v,rfl,hv⟩
 · cases h
theorem aa9 {a:Addr} (h:W.cells? base a 2=some cs):∃v u,cs= [v,u]∧W.cell? a=some v∧W.cell? (a.add 1)=some u:=by
 unfold World.cells? at h;split at h
 · have e:a.add 0=a:=rfl;have e2:List.range 2= [0,1]:=rfl;rw[e2] at h;simp only[List.mapM_cons,List.mapM_nil,e,Option.bind_eq_bind,Option.bind_eq_some_iff,Option.pure_def,Option.some.injEq] at h
   obtain ⟨v,hv,r,⟨u,hu,r2,rfl,rfl⟩,rfl⟩:=h;exact ⟨v,u,rfl,hv,hu⟩
 · cases h
theorem pK {a:Addr} {v:Value} (h:W.cell? a=some v):∃b o,a= ⟨b,o,none⟩:=by
 obtain ⟨b,o,s⟩:=a;cases s with
 | none=>exact ⟨b,o,rfl⟩
 | some k=>
  unfold World.cell? at h;split at h
  · simp at h
  · cases h
theorem mH (b o n:Nat):(⟨b,o,none⟩:Addr).add n= ⟨b,o+n,none⟩:=by
 unfold Addr.add;split
 · rename_i h;subst h;rfl
 · rfl
theorem yxq {e:TypeId} {L:List (DataW H)} {p:List MemPlace} (ht:P.underlying t=some (.slice e)) (hce:P.cellsOf e=1) (rd:DataW H→Option Value)
 (hel:∀n c y,DataW.trod enc P W 0 spare held n e [c]=some y→rd y.1=some c) (hL:0<L.length) (h:DataW.trod enc P W 0 spare held fuel t cs=some (.slice L [],p)) :
 ∃b o c,cs= [.slice (some ⟨b,o,none⟩) L.length c]∧ ∀i d,L[i]? =some d→ ∃v,rd d=some v∧W.cell? ⟨b,o+i,none⟩=some v:=by
 rcases DataW.trod_slice ht h with ⟨_,h2⟩ | ⟨a,len,cap,elems,rest,n,_,hcs,hx,_,_,_,hlen,hi,_⟩
 · cases h2
 · have hmap:L=elems.map (·.1):=by have:=congrArg Prod.fst hx;injection this
   have hll:L.length=len:=by rw[hmap,List.length_map,hlen]
   have key:∀i d,L[i]? =some d→ ∃v,rd d=some v∧W.cell? (a.add i)=some v:=by
    intro i d hd;rw[hmap,List.getElem?_map,Option.map_eq_some_iff] at hd;obtain ⟨y,hy,rfl⟩:=hd;have hil:i<len:=by rw[←hlen];exact (List.getElem?_eq_some_iff.1 hy).1
    have h1:=hi i hil;rw[hce,Nat.mul_one,hy,Option.bind_eq_some_iff] at h1;obtain ⟨cs',hc1,hc2⟩:=h1;obtain ⟨v,rfl,hv⟩:=aa8 hc1;exact ⟨v,hel n v y hc2,hv⟩
   obtain ⟨v0,_,hv0⟩:=key 0 L[0] (List.getElem?_eq_getElem hL);obtain ⟨b,o,rfl⟩:=pK (show W.cell? a=some v0 from hv0);exact ⟨b,o,cap,by rw[hcs,hll],fun i d hd=>by rw[←mH];exact key i d hd⟩
theorem AX {e:TypeId} {L:List (DataW H)} {p:List MemPlace} (ht:P.underlying t=some (.slice e)) (hce:P.cellsOf e=2) (rd:DataW H→Option (Value×Value))
 (hel:∀n c d y,DataW.trod enc P W 0 spare held n e [c,d]=some y→rd y.1=some (c,d)) (hL:0<L.length) (h:DataW.trod enc P W 0 spare held fuel t cs=some (.slice L [],p)) :
 ∃b o c,cs= [.slice (some ⟨b,o,none⟩) L.length c]∧ ∀i d,L[i]? =some d→ ∃v u,rd d=some (v,u)∧W.cell? ⟨b,o+i*2,none⟩=some v∧W.cell? ⟨b,o+i*2+1,none⟩=some u:=by
 rcases DataW.trod_slice ht h with ⟨_,h2⟩ | ⟨a,len,cap,elems,rest,n,_,hcs,hx,_,_,_,hlen,hi,_⟩
 · cases h2
 · have hmap:L=elems.map (·.1):=by have:=congrArg Prod.fst hx;injection this
   have hll:L.length=len:=by rw[hmap,List.length_map,hlen]
   have key:∀i d,L[i]? =some d→ ∃v u,rd d=some (v,u)∧W.cell? (a.add (i*2))=some v∧W.cell? ((a.add (i*2)).add 1)=some u:=by
    intro i d hd;rw[hmap,List.getElem?_map,Option.map_eq_some_iff] at hd;obtain ⟨y,hy,rfl⟩:=hd;have hil:i<len:=by rw[←hlen];exact (List.getElem?_eq_some_iff.1 hy).1
    have h1:=hi i hil;rw[hce,hy,Option.bind_eq_some_iff] at h1;obtain ⟨cs',hc1,hc2⟩:=h1;obtain ⟨v,u,rfl,hv,hu⟩:=aa9 hc1;exact ⟨v,u,hel n v u y hc2,hv,hu⟩
   obtain ⟨v0,_,_,hv0,_⟩:=key 0 L[0] (List.getElem?_eq_getElem hL);obtain ⟨b,o,rfl⟩:=pK (show W.cell? a=some v0 from hv0);refine ⟨b,o,cap,by rw[hcs,hll],fun i d hd=>?_⟩;obtain ⟨v,u,h1,h2,h3⟩:=key i d hd;rw[mH] at h2 h3;rw[mH] at h3;exact ⟨v,u,h1,h2,h3⟩
end
theorem zgz {P:Program} {W:World} {name:String} {d:DataW Unit} {rest:List (String×DataW Unit)} {g:Nat} {t:TypeId} (hg:P.globalNamed name=some g) (hty:(P.globals[g]?).map (·.type)=some t) (h:laidMet P ((name,d)::rest) W) :
 ∃cs fuel p,(∀i,W.cell? ⟨g,i,none⟩=cs[i]?)∧DataW.trod (fun _=>()) P W 0 (fun _=>true) false fuel t cs=some (d,p):=by
 obtain ⟨ps,⟨g',t',cs,fuel,p,q,hg',ht',hvar,hd,_,_⟩,_⟩:=h;obtain rfl:=Option.some.inj (hg.symm.trans hg');obtain rfl:=Option.some.inj (hty.symm.trans ht');exact ⟨cs.toList,fuel,p,fun i=>by rw[World.var?_cell hg hvar i,Array.getElem?_toList],hd⟩
def Gn:DataW Unit→Option Value
 | .lit (.int k n)=>some (.int k n)
 | .lit (.float k n)=>some (.float k n)
 | .lit (.bool b)=>some (.bool b)
 | _=>none
def PD:DataW Unit→Option (Value×Value)
 | .agg [.lit (.int k n),.lit (.string s)]=>some (.int k n,.string ⟨s.toArray⟩)
 | .agg [.lit (.int k n),.lit (.int k' n')]=>some (.int k n,.int k' n')
 | _=>none
theorem znq {W:World} {g:Nat} {cs:List Value} {v:Value} (h:∀i,W.cell? ⟨g,i,none⟩=cs[i]?) (hc:cs= [v]):W.cell? ⟨g,0,none⟩=some v:=by rw[h,hc];rfl
theorem Ei (s:ByteArray):(⟨s.data.toList.toArray⟩:ByteArray)=s:=by rw[Array.toArray_toList]
section
variable {W:World}
theorem Ud {rest:List (String×DataW Unit)} (h:laidMet prog (("internal/strconv.float64info",Rows.laid_internal_strconv_float64info)::rest) W) :
 W.cell? ⟨13,0,none⟩=some (.int .u64 52)∧W.cell? ⟨13,1,none⟩=some (.int .u64 11)∧W.cell? ⟨13,2,none⟩=some (.int .i64 (-1023)):=by
 obtain ⟨cs,fuel,p,hc,hd⟩:=zgz (g:=13) (t:=237) kr kr h;obtain ⟨y0,y1,y2,n,hx,hl,h0,h1,h2⟩:=Go.Deep.trod_struct3 underlying237 hd;have c1:prog.cellsOf 53=1:=kr;have c2:prog.cellsOf 3=1:=kr;have c3:prog.cellsOf 237=3:=kr;rw[c3] at hl;match cs,hl with
 | [a,b,c],_=>
  have h0:DataW.trod (fun _=>()) prog W 0 (fun _=>true) false n 53 [a]=some y0:=by rw[c1] at h0;exact h0
  have h1:DataW.trod (fun _=>()) prog W 0 (fun _=>true) false n 53 [b]=some y1:=by rw[c1] at h1;exact h1
  have h2:DataW.trod (fun _=>()) prog W 0 (fun _=>true) false n 3 [c]=some y2:=by rw[c2] at h2;exact h2
  obtain ⟨z0,e0,rfl,_⟩:=DataW.trod_int u53 h0;obtain ⟨z1,e1,rfl,_⟩:=DataW.trod_int u53 h1;obtain ⟨z2,e2,rfl,_⟩:=DataW.trod_int underlying3 h2;have hx:=congrArg Prod.fst hx;simp only[Rows.laid_internal_strconv_float64info,DataW.agg.injEq,List.cons.injEq,DataW.lit.injEq,Lit.int.injEq,true_and,and_true] at hx
  obtain ⟨rfl,rfl,rfl⟩:=hx;cases e0;cases e1;cases e2
  exact ⟨by rw[hc];rfl,by rw[hc];rfl,by rw[hc];rfl⟩
theorem aaq {rest:List (String×DataW Unit)} (h:laidMet prog (("internal/strconv.optimize",Rows.laid_internal_strconv_optimize)::rest) W):W.cell? ⟨4,0,none⟩=some (.bool true):=by
 obtain ⟨cs,fuel,p,hc,hd⟩:=zgz (g:=4) (t:=4) kr kr h;obtain ⟨b,hb,hx⟩:=DataW.trod_bool underlying4 hd;have hx:=congrArg Prod.fst hx;simp only[Rows.laid_internal_strconv_optimize,DataW.lit.injEq,Lit.bool.injEq] at hx
 subst hx;exact znq hc hb
theorem aaz {rest:List (String×DataW Unit)} (h:laidMet prog (("strconv.ErrRange",Rows.laid_strconv_ErrRange)::rest) W):∃te pe,W.cell? ⟨7,0,none⟩=some (.iface te pe):=by
 obtain ⟨cs,fuel,p,hc,hd⟩:=zgz (g:=7) (t:=63) kr kr h;obtain ⟨te,pe,he⟩:=Eh underlying63 hd;exact ⟨te,pe,znq hc he⟩
theorem aax {fuel:Nat} {c:Value} {y:DataW Unit×List MemPlace} (h:DataW.trod (fun _=>()) prog W 0 (fun _=>true) false fuel 3 [c]=some y):Gn y.1=some c:=by
 obtain ⟨n,e,rfl,_⟩:=DataW.trod_int underlying3 h;cases e;rfl
theorem PE {fuel:Nat} {c:Value} {y:DataW Unit×List MemPlace} (h:DataW.trod (fun _=>()) prog W 0 (fun _=>true) false fuel 83 [c]=some y):Gn y.1=some c:=by
 obtain ⟨n,e,rfl⟩:=Ef UJ h;cases e;rfl
theorem PG {fuel:Nat} {c d:Value} {y:DataW Unit×List MemPlace} (h:DataW.trod (fun _=>()) prog W 0 (fun _=>true) false fuel 222 [c,d]=some y):PD y.1=some (c,d):=by
 obtain ⟨y0,y1,n,rfl,_,h0,h1⟩:=trod_struct2 underlying222 h;have c1:prog.cellsOf 3=1:=kr;have c2:prog.cellsOf 9=1:=kr;have h0:DataW.trod (fun _=>()) prog W 0 (fun _=>true) false n 3 [c]=some y0:=by rw[c1] at h0;exact h0
 have h1:DataW.trod (fun _=>()) prog W 0 (fun _=>true) false n 9 [d]=some y1:=by rw[c2] at h1;exact h1
 obtain ⟨z0,e0,rfl,_⟩:=DataW.trod_int underlying3 h0;obtain ⟨z1,e1,rfl,_⟩:=DataW.trod_string u9 h1;cases e0;cases e1
 show some (Value.int .i64 z0,Value.string ⟨z1.data.toList.toArray⟩)=_
 rw[Ei]
theorem aaj {fuel:Nat} {c d:Value} {y:DataW Unit×List MemPlace} (h:DataW.trod (fun _=>()) prog W 0 (fun _=>true) false fuel 217 [c,d]=some y):PD y.1=some (c,d):=by
 obtain ⟨y0,y1,n,rfl,_,h0,h1⟩:=trod_struct2 underlying217 h;have c1:prog.cellsOf 25=1:=kr;have h0:DataW.trod (fun _=>()) prog W 0 (fun _=>true) false n 25 [c]=some y0:=by rw[c1] at h0;exact h0
 have h1:DataW.trod (fun _=>()) prog W 0 (fun _=>true) false n 25 [d]=some y1:=by rw[c1] at h1;exact h1
 obtain ⟨z0,e0,rfl,_⟩:=DataW.trod_int u25 h0;obtain ⟨z1,e1,rfl,_⟩:=DataW.trod_int u25 h1;cases e0;cases e1
 rfl
theorem JO {rest:List (String×DataW Unit)} (h:laidMet prog (("internal/strconv.powtab",Rows.laid_internal_strconv_powtab)::rest) W):∃b o c,tH 15 b o 9 c (Z7.map (fun z=>Value.int .i64 z)) W:=by
 obtain ⟨cs,fuel,p,hc,hd⟩:=zgz (g:=15) (t:=251) kr kr h;have hL:(Rows.laid_internal_strconv_powtab:DataW Unit)= .slice (Z7.map (fun z=>.lit (.int .i64 z))) []:=rfl;rw[hL] at hd;obtain ⟨b,o,c,h1,h2⟩:=yxq underlying251 kr Gn (fun _ _ _ h=>aax h) de hd;refine ⟨b,o,c,znq hc h1,fun i v hv=>?_⟩;rw[List.getElem?_map,Option.map_eq_some_iff] at hv;obtain ⟨z,hz,rfl⟩:=hv;obtain ⟨u,hu,h3⟩:=h2 i (.lit (.int .i64 z)) (by rw[List.getElem?_map,hz];rfl);cases hu
 exact h3
theorem ab0 {rest:List (String×DataW Unit)} (h:laidMet prog (("internal/strconv.float64pow10",Rows.laid_internal_strconv_float64pow10)::rest) W):∃b o c,tH 16 b o 23 c (tJ.map (fun f=>Value.float .f64 f)) W:=by
 obtain ⟨cs,fuel,p,hc,hd⟩:=zgz (g:=16) (t:=252) kr kr h;have hL:(Rows.laid_internal_strconv_float64pow10:DataW Unit)= .slice (tJ.map (fun z=>.lit (.float .f64 z))) []:=rfl;rw[hL] at hd;obtain ⟨b,o,c,h1,h2⟩:=yxq underlying252 kr Gn (fun _ _ _ h=>PE h) de hd;refine ⟨b,o,c,znq hc h1,fun i v hv=>?_⟩;rw[List.getElem?_map,Option.map_eq_some_iff] at hv;obtain ⟨z,hz,rfl⟩:=hv;obtain ⟨u,hu,h3⟩:=h2 i (.lit (.float .f64 z)) (by rw[List.getElem?_map,hz];rfl);cases hu
 exact h3
theorem PI {rest:List (String×DataW Unit)} (h:laidMet prog (("internal/strconv.leftcheats",Rows.laid_internal_strconv_leftcheats)::rest) W):∃b o c,Pg b o c W:=by
 obtain ⟨cs,fuel,p,hc,hd⟩:=zgz (g:=11) (t:=223) kr kr h;have hL:(Rows.laid_internal_strconv_leftcheats:DataW Unit)= .slice (Go.Pinned.cheatRows.map (fun x=>.agg [.lit (.int .i64 x.1),.lit (.string x.2)])) []:=rfl;rw[hL] at hd;have hlen:(Go.Pinned.cheatRows.map (fun x=>(.agg [.lit (.int .i64 x.1),.lit (.string x.2)]:DataW Unit))).length=61:=by rw[List.length_map];decide +kernel
 obtain ⟨b,o,c,h1,h2⟩:=AX underlying223 kr PD (fun _ _ _ _ h=>PG h) (by rw[hlen];decide) hd;rw[hlen] at h1;have key:∀k,Shl k→W.cell? ⟨b,o+k*2,none⟩=some (.int .i64 ((Pe k:Nat):Int))∧W.cell? ⟨b,o+k*2+1,none⟩=some (.string (lcB k)):=by
  intro k hk;obtain ⟨e1,_,e3⟩:=Z8 hk;have hkl:k<Go.Pinned.cheatRows.length:=by rw[List.length_map] at hlen;omega
  have hg:Go.Pinned.cheatRows.getD k (0,[])=Go.Pinned.cheatRows[k]:=by rw[List.getD_eq_getElem?_getD,List.getElem?_eq_getElem hkl];rfl
  obtain ⟨v,u,hu,h3,h4⟩:=h2 k _ (by rw[List.getElem?_map,List.getElem?_eq_getElem hkl];rfl);rw[←hg] at hu;cases hu
  rw[e1] at h3;exact ⟨h3,h4⟩
 exact ⟨b,o,c,znq hc h1,fun k hk=>(key k hk).1,fun k hk=>(key k hk).2⟩
theorem Ue {rest:List (String×DataW Unit)} (h:laidMet prog (("internal/strconv.pow10Tab",Rows.laid_internal_strconv_pow10Tab)::rest) W):bY W:=by
 obtain ⟨cs,fuel,p,hc,hd⟩:=zgz (g:=10) (t:=218) kr kr h;obtain ⟨xs,m,_,hx,hl,hn,hi⟩:=DataW.trod_array underlying218 hd;have hce:prog.cellsOf 217=2:=kr;have hct:prog.cellsOf 218=1392:=kr;rw[hct] at hl;have hmap:xs.map (·.1)=Go.Pinned.pow10Rows.map fun x=>(DataW.agg [.lit (.int .u64 x.1),.lit (.int .u64 x.2)]:DataW Unit):=by
  have:=congrArg Prod.fst hx;simp only[Rows.laid_internal_strconv_pow10Tab,Go.Pinned.pow10Tab] at this
  injection this with this
  exact this.symm
 intro j hj;obtain ⟨hrow,_,_⟩:=rz hj;have hij:=hi j hj;rw[hce] at hij;have h1:(xs[j]?).map (·.1)=some (.agg [.lit (.int .u64 ((Cc j:Nat):Int)),.lit (.int .u64 ((AY j:Nat):Int))]):=by
  rw[←List.getElem?_map,hmap,List.getElem?_map,hrow];rfl
 obtain ⟨y,hy,hy1⟩:=Option.map_eq_some_iff.1 h1;rw[hy] at hij;have hd2:(cs.drop (j*2)).take 2= [cs[j*2]'(om),cs[j*2+1]'(om)]:=by
  rw[List.drop_eq_getElem_cons om,List.drop_eq_getElem_cons om];rfl
 rw[hd2] at hij;have h2:=aaj hij;rw[hy1] at h2;have h3:some (Value.int .u64 ((Cc j:Nat):Int),Value.int .u64 ((AY j:Nat):Int))=some (cs[j*2]'(om),cs[j*2+1]'(om)):=h2;injection h3 with h3
 injection h3 with h3 h4
 exact ⟨by rw[hc,List.getElem?_eq_getElem om,h3],by rw[hc,List.getElem?_eq_getElem om,h4]⟩
theorem Uf (h:laidMetH prog Rows.plainFormsRow.laid W):∃bp op cp bf of cf bl ol cl,TL bp op cp bf of cf bl ol cl W:=by
 have h:=ygk h;obtain ⟨i0,i1,i2⟩:=Ud h.tail.tail.tail;obtain ⟨bp,op,cp,hp⟩:=JO h.tail.tail.tail.tail.tail;obtain ⟨bf,of,cf,hf⟩:=ab0 h.tail.tail.tail.tail.tail.tail;obtain ⟨bl,ol,cl,hl⟩:=PI h.tail.tail.tail.tail.tail.tail.tail.tail.tail.tail.tail;exact ⟨bp,op,cp,bf,of,cf,bl,ol,cl,Ue h.tail.tail.tail.tail.tail.tail.tail.tail.tail.tail.tail.tail,i0,i1,i2,aaq h.tail.tail.tail.tail,hp,hf,hl⟩
theorem Ug (h:laidMetH prog Rows.plainFormsRow.laid W):∃te pe,W.cell? ⟨7,0,none⟩=some (.iface te pe):=aaz (ygk h).tail.tail.tail.tail.tail.tail.tail.tail.tail
end
end Go.Proofs.YtdofcnodhgaedaaGreatDoor
namespace Go.Proofs.YtdofcnodhgaedaaGreatDoor.fnPlainForms
open Go.ChangeShapes Go.WideShapes Go.ChangeAt Go.RowKit Go.Joins
theorem contract (H:Type) (enc:TypeId×Value→H) (W:World) (base:Nat) (args:Array Value) (ds gs:List (DataW H)) (before:List MemPlace)
 (hval:∀(j:Nat) t v,Tryz.f3.params[j]? =some t→args[j]? =some v→Value.okWide Tryz.prog W .any base t v)
 (hW:DataW.Whole enc Tryz.prog Tryz.f3.params.toList Rows.plainFormsSpec.vars false W args.toList ds gs before) (hlaid:laidMetH Tryz.prog Rows.plainFormsRow.laid W) :
 Calls Tryz.prog 3 args W fun e W'=>∃v,e= .returned v∧Rows.plainFormsSpec.post enc Tryz.prog Tryz.f3 false true false false W args v W':=by
 have hW':=hW;obtain ⟨p,q,hA0,hV,rfl,hfz,hnd⟩:=hW;have hA:DataW.TrodAll enc Tryz.prog W 0 (fun _=>true) true Tryz.f3.params.toList args.toList ds p:=hA0;rw[Tryz.params3] at hA hval;obtain ⟨v0,P7,d0,ds0,p0,q0,hargs,rfl,rfl,h0,r0⟩:=trodAll_cons hA;obtain ⟨rfl,rfl,rfl⟩:=trodAll_nil r0;obtain rfl:args= #[v0]:=by cases args;simp_all
 obtain ⟨rfl,rfl⟩:=trodVars_none hV;obtain ⟨x0,z0,rfl,hx0,hl0,hb0⟩:=JJ (hval 0 28 _ rfl rfl) h0;obtain ⟨_,_,_,_,_,_,_,_,_,TM⟩:=Uf hlaid;refine (JI W x0 z0.a z0.b z0.c z0.d hx0 (Nat.le_trans hl0 (by decide)) hb0 (Uh hlaid) TM (Ug hlaid)).mono fun e W' ⟨he,hb⟩=>?_;subst he;exact ⟨_,rfl,Pn hW' hb rfl rfl (by rw[Tryz.params3];decide) rfl⟩
theorem reads (os:Os) {H:Type} (enc:TypeId×Value→H):∃places,DataW.whole enc Tryz.prog (Wit.dN os #[.agg #[.int .i64 0,.bool false,.bool false,.slice none 0 0,.int .u64 0,.string ⟨#[]⟩,.slice none 0 0]]) Tryz.f3.params.toList Rows.plainFormsSpec.vars false (#[.agg #[.int .i64 0,.bool false,.bool false,.slice none 0 0,.int .u64 0,.string ⟨#[]⟩,.slice none 0 0]]:Array Value).toList 8=some ([.agg [.lit (.int .i64 0),.lit (.bool false),.agg [.lit (.bool false),.nil],.lit (.int .u64 0),.lit (.string []),.nil]],[],places):=
 ⟨[],by kernel_rfl⟩
theorem lifted (os : Os) (started : os.Started) (H : Type) (enc : TypeId × Value → H) (F : Stop.Interp) :
 ReturnsInHanded {} Tryz.checked os 3 .any ((OpenSpec.ofChange Rows.plainFormsSpec).preRow enc Tryz.prog Tryz.f3 Rows.plainFormsRow.domain false Rows.plainFormsRow.laid) (((OpenSpec.ofChange Rows.plainFormsSpec).at F).post enc Tryz.prog Tryz.f3 false true false false) := by
 obtain ⟨places, hx⟩ := reads os enc;refine returnsInHanded_of_row (C := Tryz.checked) (s := OpenSpec.ofChange Rows.plainFormsSpec) own started (by kernel_rfl) Tryz.func3
  (       Wit.JN (enc := enc) false os #[.agg #[.int .i64 0, .bool false, .bool false, .slice none 0 0, .int .u64 0, .string ⟨#[]⟩, .slice none 0 0]] (by kernel_rfl)
   (OpenSpec.preRow_of_cond 8 hx (by kernel_rfl) (fun k hk => by cases hk) (by kernel_rfl) (      Wit.Pt os _))) ?_
 intro W base args ds gs before hval hW _ _ _ hlaid _ _;exact contract H enc W base args ds gs before hval hW hlaid
end Go.Proofs.YtdofcnodhgaedaaGreatDoor.fnPlainForms

/- Texts of this claim. -/
import Derived.Test.YtdofcnodhgaedaaGreatDoorG19
import Derived.Test.YtdofcnodhgaedaaGreatDoorCards
import Derived.Test.YtdofcnodhgaedaaGreatDoorTie
import Derived.ProofKit
import Derived.OpenShut
import Derived.Deep.DeepHandedRow
import Derived.Lib.LaidTab
import Derived.Lib.SmallJoins
import Derived.ReadAgain
import Derived.ChangeStays
import Derived.ChangeSame
set_option maxRecDepth 100000
namespace Go.Proofs.YtdofcnodhgaedaaGreatDoor
open Proofs.Tryz
open Go.ChangeShapes Go.WideShapes Go.ChangeAt Go.RowKit Go.Joins
theorem own:ownKnob prog.godebug=none:=kr
theorem kids:Kids prog (· <prog.types.size):=kids_rows kr kr
theorem Ea:∀t e,t<prog.types.size→prog.underlying t=some (.slice e)→0<prog.cellsOf e:=slices_full_of prog kr
def Pm:DataW Unit→Array Value
 | .agg l=>(l.map fun | .lit (.int k n)=>Value.int k n | _=>.nilIface).toArray
 | _=>#[]
noncomputable def ab2 (os:Os):World:=
 let put (w:World) (b:Nat) (d:DataW Unit):World:={ w with heap:=w.heap.modify b fun | .cells _ t frozen=>.cells (Pm d) t frozen | o=>o }
 put (put (put (World.holding prog os ⟨#[],#[],[]⟩) 8 Rows.laid_math_bits_deBruijn32tab) 9 Rows.laid_math_bits_deBruijn64tab) 3 Rows.laid_internal_strconv_uint64pow10
section
variable {H:Type} {enc:TypeId×Value→H}
theorem mE {W W':World} (hb:Below W.heap.size W W') {sp:Nat→Bool}:∀ {ts:List TypeId} {vs:List Value} {ds:List (DataW H)} {ps:List MemPlace},(∀t∈ts,t<prog.types.size)→
 DataW.TrodAll enc prog W 0 (fun _=>true) true ts vs ds ps→(∀p∈ps,sp p.block=true)→DataW.TrodAll enc prog W' 0 sp true ts vs ds ps
 | [],[],[],_,_,h,_=>h
 | _::_,_::_,_::_,_,hT,⟨p,q,⟨n,h1⟩,h2,e⟩,hs=>
  ⟨p,q,⟨n,DataW.trod_stays kids (fun ht hu=>Ea _ _ ht hu) (fun h=>by cases h) (hT _ (List.mem_cons.2 (Or.inl rfl))) h1
   (fun x hx=>hb.same (DataW.trod_lt n _ _ _ h1 x hx)) (fun x hx=>hs x (by rw[e];exact List.mem_append_left _ hx))⟩,
   mE hb (fun t ht=>hT t (List.mem_cons.2 (Or.inr ht))) h2 (fun x hx=>hs x (by rw[e];exact List.mem_append_right _ hx)),e⟩
theorem Pn {f:Func} {s:ChangeSpec} {apart fresh handsOn again:Bool} {W W':World} {args:Array Value} {ds gs:List (DataW H)} {before:List MemPlace}
 (hW:DataW.Whole enc prog f.params.toList s.vars apart W args.toList ds gs before) (hb:Below W.heap.size W W') (hvars:s.vars= [])
 (hfn:s.fn H (ds++gs)= { results:=[.lit (.bool true)],args:=ds }) (hT:∀t∈f.params.toList,t<prog.types.size) (hr:f.resultTypes= #[4]) :
 s.post enc prog f apart fresh handsOn again W args (.bool true) W':=by
 have hW0:=hW;obtain ⟨p,q,hA,hV,rfl,hz,hn⟩:=hW;rw[hvars] at hV;obtain ⟨rfl,rfl⟩:=trodVars_none hV;have hlt:∀x∈p++ [],x.block<W.heap.size:=fun x hx=>hW0.lt x hx;have hold:∀x∈p++ [],(fun b=>decide (b<W.heap.size)) x.block=true:=fun x hx=>by simpa using hlt x hx
 have hargs:∀sp:Nat→Bool,(∀x∈p++ [],sp x.block=true)→DataW.TrodAll enc prog W' 0 sp true f.params.toList args.toList ds p:=
  fun sp hs=>mE hb hT hA (fun x hx=>hs x (by simpa using hx))
 have hres:∀(b:Nat) (sp:Nat→Bool) (hd:Bool),DataW.TrodAll enc prog W' b sp hd f.resultTypes.toList ((Value.bool true).resultList f.resultTypes.size) [.lit (.bool true)] []:=by
  intro b sp hd;rw[hr];exact trodAll_cons_mk (shut_bool underlying4 _) trodAll_mk0
 have Po:∀sp:Nat→Bool,DataW.TrodVars enc prog W' sp s.vars (s.fn H (ds++ [])).vars []:=by
  intro sp;rw[hvars,hfn];rfl
 refine ⟨ds,[],p++ [],[],p,[],hW0,by rw[hfn];exact hres _ _ _,by rw[hfn];exact hargs _ hold,Po _,World.keptBut_mono (fun x hx=>⟨hx,?_⟩) (hb.frame (· ∈p++ [])),fun _=>?_⟩
 · simpa using hx
 · refine ⟨ok_one hr rfl (okWide_bool_mk underlying4 _),_,_,([]++p)++ [],⟨[]++p,[],trodAll_append (hargs _ (fun _ _=>rfl)) (hres _ _ _),Po _,rfl,?_,?_⟩,?_⟩
   · intro b off hp;have hin:MemPlace.cell b off∈p++ []:=by simpa using hp
     rw[hb.frozen (hlt _ hin)];exact hz b off hin
   · intro ha;have:=hn ha;simpa using this
   · intro x hx _;simpa using hx
theorem TN {w:World} {b o:Nat} {v:Value} (h:w.cell? ⟨b,o,none⟩=some v):b<w.heap.size:=by
 rcases Nat.lt_or_ge b w.heap.size with h1 | h1
 · exact h1
 · unfold World.cell? at h;simp only[Array.getElem?_eq_none h1] at h
   cases h
theorem yqv {n:Int} (h:(Lit.int .u64 n).wf=true):0≤n∧n<18446744073709551616:=by
 simp only[Lit.wf,IntKind.min,IntKind.max,IntKind.signed,IntKind.bits,Bool.and_eq_true] at h
 simp at h
 omega
theorem open_row {W:World} {fuel:Nat} {cs:List Value} {x:DataW H×List MemPlace} (h:DataW.trod enc prog W 0 (fun _=>true) true fuel 22 cs=some x) :
 ∃A c xs,cs= [.slice A xs.length c]∧ay W A xs∧xs.length≤maxLen:=by
 rcases open_ints u22 u25 kr h with ⟨rfl,_⟩ | ⟨a,len,cap,zs,rfl,_,hle,hmax,hz,_,hcell,hwf⟩
 · exact ⟨none,0,[],rfl,⟨fun k=>by rw[yaq];decide,fun h=>absurd h de⟩,Nat.zero_le _⟩
 · simp only[if_true] at hz
   have hl:((zs.take len).map Int.toNat).length=len:=by simp;omega
   have hb:∀y∈(zs.take len).map Int.toNat,y<18446744073709551616:=by
    intro y hy;rw[List.mem_map] at hy;obtain ⟨n,hn,rfl⟩:=hy;have:=yqv (hwf n (List.mem_of_mem_take hn));omega
   refine ⟨some a,cap,(zs.take len).map Int.toNat,by rw[hl],⟨xj hb,fun h0=>?_⟩,by rw[hl];omega⟩;rw[hl] at h0;obtain ⟨b,off,rfl,hc⟩:=ints_at hcell om;have hlt:b<W.heap.size:=TN (hc 0 om);refine ⟨b,off,rfl,hlt,fun k hk=>?_⟩;rw[hl] at hk;rw[hc k om];have h1:=yqv (hwf (zs.getD k 0) (by simp[List.getD,List.getElem?_eq_getElem (show k<zs.length from om)]));have e:nth ((zs.take len).map Int.toNat) k=zs.getD k 0:=by
    unfold nth;have hkz:k<zs.length:=om;simp[hk,List.getElem?_eq_getElem hkz] at h1 ⊢
    omega
   rw[e]
end
section
variable {H:Type} {enc:TypeId×Value→H} {W:World} {fuel:Nat}
theorem AP {f:Field} {n c:Nat} {t:TypeId} {cs ds:List Value} {z:Option (DataW H×List MemPlace)} {sp:Nat→Bool} (h:DataW.trod enc prog W 0 sp true n f.type ((cs.drop f.offset).take (prog.cellsOf f.type))=z) (ht:f.type=t) (hc:prog.cellsOf t=c) (hd:(cs.drop f.offset).take c=ds):DataW.trod enc prog W 0 sp true n t ds=z:=by
 subst ht;rw[hc,hd] at h;exact h
theorem Eb {c:List Value} {z:DataW H×List MemPlace} (hc1:c.length=7) (hz:DataW.trod enc prog W 0 (fun _=>true) true fuel 28 c=some z):∃v p,c=PV.cells v p∧ay W p.a v.xs∧v.xs.length≤maxLen∧v.bits<18446744073709551616:=by
 match c,hc1 with
 | [c0,c1,c2,c3,c4,c5,c6],_=>
  obtain ⟨zs,m2,_,hzx,_,hzn,hf⟩:=DataW.trod_struct u28 hz;match zs,hzn with
  | [z0,z1,z2,z3,z4,z5],_=>
   have k0:prog.cellsOf 3=1:=kr;have k1:prog.cellsOf 4=1:=kr;have k2:prog.cellsOf 24=2:=kr;have k3:prog.cellsOf 25=1:=kr;have k4:prog.cellsOf 9=1:=kr;have k5:prog.cellsOf 26=1:=kr;have k6:prog.cellsOf 22=1:=kr;have f0:DataW.trod enc prog W 0 (fun _=>true) true m2 3 [c0]=some z0:=AP (hf 0 _ rfl) rfl k0 rfl;have f1:DataW.trod enc prog W 0 (fun _=>true) true m2 4 [c1]=some z1:=AP (hf 1 _ rfl) rfl k1 rfl;have f2:DataW.trod enc prog W 0 (fun _=>true) true m2 24 [c2,c3]=some z2:=AP (hf 2 _ rfl) rfl k2 rfl;have f3:DataW.trod enc prog W 0 (fun _=>true) true m2 25 [c4]=some z3:=AP (hf 3 _ rfl) rfl k3 rfl;have f4:DataW.trod enc prog W 0 (fun _=>true) true m2 9 [c5]=some z4:=AP (hf 4 _ rfl) rfl k4 rfl;have f5:DataW.trod enc prog W 0 (fun _=>true) true m2 26 [c6]=some z5:=AP (hf 5 _ rfl) rfl k5 rfl;obtain ⟨zs2,m3,_,aA5,_,Zg,hf2⟩:=DataW.trod_struct u24 f2;match zs2,Zg with
   | [y0,y1],_=>
    have g0:DataW.trod enc prog W 0 (fun _=>true) true m3 4 [c2]=some y0:=AP (hf2 0 _ rfl) rfl k1 rfl;have g1:DataW.trod enc prog W 0 (fun _=>true) true m3 22 [c3]=some y1:=AP (hf2 1 _ rfl) rfl k6 rfl;obtain ⟨m0,e0,_,w0⟩:=DataW.trod_int underlying3 f0;obtain ⟨b1,e1,_⟩:=DataW.trod_bool underlying4 f1;obtain ⟨b2,e2,_⟩:=DataW.trod_bool underlying4 g0;obtain ⟨A3,p3,x3,e3,h3,h4⟩:=open_row g1;obtain ⟨m4,e4,_,w4⟩:=DataW.trod_int u25 f3;obtain ⟨s5,e5,_,w5⟩:=DataW.trod_string u9 f4;obtain ⟨A6,n6,p6,e6⟩:∃A n p,[c6]= [.slice A n p]:=by
     rcases DataW.trod_slice underlying26 f5 with ⟨h1,_⟩ | ⟨a,len,cap,_,_,_,_,hcs,_⟩
     · exact ⟨_,_,_,h1⟩
     · exact ⟨_,_,_,hcs⟩
    have hu:=yqv w4;obtain ⟨q4,hq4⟩:∃q:Nat,m4=((q:Nat):Int):=⟨m4.toNat,om⟩;subst hq4;cases e0;cases e1;cases e2;cases e3;cases e4;cases e5;cases e6
    exact ⟨⟨m0,b1,b2,x3,q4,s5,n6⟩,⟨A3,p3,A6,p6⟩,rfl,h3,h4,(show q4<18446744073709551616 from om)⟩
theorem JJ {r:Reach} {b0:Nat} {v:Value} {d:DataW H} {p:List MemPlace} (hv:Value.okWide prog W r b0 28 v) (h:DataW.Trod enc prog W 0 (fun _=>true) true 28 v d p):∃x q,v=PV.val x q∧ay W q.a x.xs∧x.xs.length≤maxLen∧x.bits<18446744073709551616:=by
 obtain ⟨cs,rfl,hsz⟩:=okWide_struct u28 hv;have hsz:cs.size=7:=hsz.trans kr;obtain ⟨fuel,h⟩:=h;have h:DataW.trod enc prog W 0 (fun _=>true) true fuel 28 cs.toList=some (d,p):=h;obtain ⟨x,q,e,hA⟩:=Eb (by simpa using hsz) h;refine ⟨x,q,?_,hA⟩;have e2:cs=(PV.cells x q).toArray:=by rw[←e]
 rw[e2];rfl
end
end Go.Proofs.YtdofcnodhgaedaaGreatDoor

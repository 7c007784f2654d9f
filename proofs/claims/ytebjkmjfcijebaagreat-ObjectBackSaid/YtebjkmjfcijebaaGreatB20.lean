/- Texts of this claim. -/
import Derived.Test.YtebjkmjfcijebaaGreatB19
import Derived.Test.YtebjkmjfcijebaaGreatRows
import Derived.ProofKit
import Derived.OpenShut
import Derived.Deep.DeepHandedRow
import Derived.Lib.LaidTab
import Derived.Lib.SmallJoins
import Derived.ReadAgain
import Derived.ChangeStays
import Derived.ChangeSame
set_option maxRecDepth 100000
namespace Go.Proofs.YtebjkmjfcijebaaGreat
open Go.ChangeShapes Go.WideShapes Go.ChangeAt Go.RowKit Go.Joins
theorem own:ownKnob Tryz.prog.godebug=none:=by kernel_rfl
theorem kids:Kids Tryz.prog (· <Tryz.prog.types.size):=kids_rows (by kernel_rfl) (by kernel_rfl)
theorem fullSlices:∀t e,t<Tryz.prog.types.size→Tryz.prog.underlying t=some (.slice e)→0<Tryz.prog.cellsOf e:=slices_full_of Tryz.prog (by kernel_rfl)
def tabCells:DataW Unit→Array Value
 | .agg l=>(l.map fun | .lit (.int k n)=>Value.int k n | _=>.nilIface).toArray
 | _=>#[]
theorem i64_of_wf {n:Int} (h:(Lit.int .i64 n).wf=true):-9223372036854775808≤n∧n≤9223372036854775807:=by
 simp only[Lit.wf,IntKind.min,IntKind.max,IntKind.signed,IntKind.bits,Bool.and_eq_true] at h
 simp at h
 omega
section
variable {H:Type} {enc:TypeId×Value→H}
theorem args_again {W W':World} (hb:Below W.heap.size W W') {sp:Nat→Bool}:∀ {ts:List TypeId} {vs:List Value} {ds:List (DataW H)} {ps:List MemPlace},(∀t∈ts,t<Tryz.prog.types.size)→
 DataW.TrodAll enc Tryz.prog W 0 (fun _=>true) true ts vs ds ps→(∀p∈ps,sp p.block=true)→DataW.TrodAll enc Tryz.prog W' 0 sp true ts vs ds ps
 | [],[],[],_,_,h,_=>h
 | _::_,_::_,_::_,_,hT,⟨p,q,⟨n,h1⟩,h2,e⟩,hs=>
  ⟨p,q,⟨n,DataW.trod_stays kids (fun ht hu=>fullSlices _ _ ht hu) (fun h=>by cases h) (hT _ (List.mem_cons.2 (Or.inl rfl))) h1
   (fun x hx=>hb.same (DataW.trod_lt n _ _ _ h1 x hx)) (fun x hx=>hs x (by rw[e];exact List.mem_append_left _ hx))⟩,
   args_again hb (fun t ht=>hT t (List.mem_cons.2 (Or.inr ht))) h2 (fun x hx=>hs x (by rw[e];exact List.mem_append_right _ hx)),e⟩
theorem law_post {f:Func} {s:ChangeSpec} {apart fresh handsOn again:Bool} {W W':World} {args:Array Value} {ds gs:List (DataW H)} {before:List MemPlace}
 (hW:DataW.Whole enc Tryz.prog f.params.toList s.vars apart W args.toList ds gs before) (hb:Below W.heap.size W W') (hvars:s.vars= [])
 (hfn:s.fn H (ds++gs)= { results:=[.lit (.bool true)],args:=ds }) (hT:∀t∈f.params.toList,t<Tryz.prog.types.size) (hr:f.resultTypes= #[4]) :
 s.post enc Tryz.prog f apart fresh handsOn again W args (.bool true) W':=by
 have hW0:=hW;obtain ⟨p,q,hA,hV,rfl,hz,hn⟩:=hW;rw[hvars] at hV;obtain ⟨rfl,rfl⟩:=trodVars_none hV;have hlt:∀x∈p++ [],x.block<W.heap.size:=fun x hx=>hW0.lt x hx;have hold:∀x∈p++ [],(fun b=>decide (b<W.heap.size)) x.block=true:=fun x hx=>by simpa using hlt x hx
 have hargs:∀sp:Nat→Bool,(∀x∈p++ [],sp x.block=true)→DataW.TrodAll enc Tryz.prog W' 0 sp true f.params.toList args.toList ds p:=
  fun sp hs=>args_again hb hT hA (fun x hx=>hs x (by simpa using hx))
 have hres:∀(b:Nat) (sp:Nat→Bool) (hd:Bool),DataW.TrodAll enc Tryz.prog W' b sp hd f.resultTypes.toList ((Value.bool true).resultList f.resultTypes.size) [.lit (.bool true)] []:=by
  intro b sp hd;rw[hr];exact trodAll_cons_mk (shut_bool u4 _) trodAll_mk0
 have hvars2:∀sp:Nat→Bool,DataW.TrodVars enc Tryz.prog W' sp s.vars (s.fn H (ds++ [])).vars []:=by
  intro sp;rw[hvars,hfn];rfl
 refine ⟨ds,[],p++ [],[],p,[],hW0,by rw[hfn];exact hres _ _ _,by rw[hfn];exact hargs _ hold,hvars2 _,World.keptBut_mono (fun x hx=>⟨hx,?_⟩) (hb.frame (· ∈p++ [])),fun _=>?_⟩
 · simpa using hx
 · refine ⟨ok_one hr rfl (okWide_bool_mk u4 _),_,_,([]++p)++ [],⟨[]++p,[],trodAll_append (hargs _ (fun _ _=>rfl)) (hres _ _ _),hvars2 _,rfl,?_,?_⟩,?_⟩
   · intro b off hp;have hin:MemPlace.cell b off∈p++ []:=by simpa using hp
     rw[hb.frozen (hlt _ hin)];exact hz b off hin
   · intro ha;have:=hn ha;simpa using this
   · intro x hx _;simpa using hx
theorem cell_lt {w:World} {b o:Nat} {v:Value} (h:w.cell? ⟨b,o,none⟩=some v):b<w.heap.size:=by
 rcases Nat.lt_or_ge b w.heap.size with h1 | h1
 · exact h1
 · unfold World.cell? at h;simp only[Array.getElem?_eq_none h1] at h
   cases h
theorem u64_of_wf {n:Int} (h:(Lit.int .u64 n).wf=true):0≤n∧n<18446744073709551616:=by
 simp only[Lit.wf,IntKind.min,IntKind.max,IntKind.signed,IntKind.bits,Bool.and_eq_true] at h
 simp at h
 omega
end
end Go.Proofs.YtebjkmjfcijebaaGreat

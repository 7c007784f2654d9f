/- Texts of this claim. -/
import Derived.Test.YtebjkmjfcijebaaGreatB21
import Derived.Deep.CondSized
set_option maxRecDepth 100000
namespace Go.Proofs.YtebjkmjfcijebaaGreat.fnObjectBack
open Go.ChangeShapes Go.WideShapes Go.ChangeAt Go.RowKit Go.Joins
theorem contract (H:Type) (enc:TypeId×Value→H) (W:World) (base:Nat) (args:Array Value) (ds gs:List (DataW H)) (before:List MemPlace)
 (hval:∀(j:Nat) t v,Tryz.f3.params[j]? =some t→args[j]? =some v→Value.okWide Tryz.prog W .any base t v)
 (hW:DataW.Whole enc Tryz.prog Tryz.f3.params.toList Rows.objectBackSpec.vars false W args.toList ds gs before)
 (hz:(DataW.weightsEach Tryz.prog (Tryz.f3.params.toList++(OpenSpec.ofChange Rows.objectBackSpec).bare.plain.varTypes Tryz.prog) (ds++gs)).all (· ≤reachBytes)=true) :
 Calls Tryz.prog 3 args W fun e W'=>∃v,e= .returned v∧Rows.objectBackSpec.post enc Tryz.prog Tryz.f3 false true false false W args v W':=by
 have hW':=hW;obtain ⟨p,q,hA0,hV,rfl,hfz,hnd⟩:=hW;have hA:DataW.TrodAll enc Tryz.prog W 0 (fun _=>true) true Tryz.f3.params.toList args.toList ds p:=hA0;rw[Tryz.params3] at hA hval hz;obtain ⟨v0,vs0,d0,ds0,p0,q0,hargs,rfl,rfl,h0,r0⟩:=trodAll_cons hA;obtain ⟨v1,vs1,d1,ds1,p1,q1,rfl,rfl,rfl,h1,r1⟩:=trodAll_cons r0;obtain ⟨rfl,rfl,rfl⟩:=trodAll_nil r1;obtain rfl:args= #[v0,v1]:=by cases args;simp_all
 obtain ⟨rfl,rfl⟩:=trodVars_none hV;have hz8:=fun (j:Nat) (t:TypeId) (d:DataW H) ht hd n hn=>List.all_eq_true.1 hz _ (DataW.weights_mem_each (j:=j) (t:=t) (d:=d) ht hd n hn);obtain ⟨A0,c0,xs0,i0,rfl,hx0,hi0⟩:=mem_sized (hval 0 24 _ rfl rfl) h0 (fun n hn=>of_decide_eq_true (hz8 0 _ _ rfl rfl n hn));obtain ⟨v1,p1,rfl,hv1⟩:=open_val (hval 1 30 _ rfl rfl) h1 (fun n hn=>of_decide_eq_true (hz8 1 _ _ rfl rfl n hn));refine (back_law W A0 xs0 c0 W.heap.size i0 v1 p1 hx0 hv1 hi0 (Nat.le_refl _)).mono fun e W' ⟨he,hb⟩=>?_;subst he;exact ⟨_,rfl,law_post hW' hb rfl rfl (by rw[Tryz.params3];decide) rfl⟩
noncomputable def bareWorld (os:Os):World:=World.holding Tryz.prog os ⟨#[],#[],[]⟩
theorem reads (os:Os) {H:Type} (enc:TypeId×Value→H):∃places,DataW.whole enc Tryz.prog ((bareWorld os).forCall (fun _ _=>0) ⟨#[],#[.agg #[.slice none 0 0,.int .i64 0],.agg #[.int .i64 0,.bool false,.bool false,.slice none 0 0,.int .u64 0,.string ⟨#[]⟩,.slice none 0 0]],[]⟩).memory Tryz.f3.params.toList Rows.objectBackSpec.vars false (#[.agg #[.slice none 0 0,.int .i64 0],.agg #[.int .i64 0,.bool false,.bool false,.slice none 0 0,.int .u64 0,.string ⟨#[]⟩,.slice none 0 0]]:Array Value).toList 8=some ([.agg [.nil,.lit (.int .i64 0)],.agg [.lit (.int .i64 0),.lit (.bool false),.agg [.lit (.bool false),.nil],.lit (.int .u64 0),.lit (.string []),.nil]],[],places):=
 ⟨[],by kernel_rfl⟩
theorem laid_met (os:Os):laidMet Tryz.prog Rows.objectBackRow.laid ((bareWorld os).forCall (fun _ _=>0) ⟨#[],#[.agg #[.slice none 0 0,.int .i64 0],.agg #[.int .i64 0,.bool false,.bool false,.slice none 0 0,.int .u64 0,.string ⟨#[]⟩,.slice none 0 0]],[]⟩).memory:=
 laidMet_of_run' 8 (by kernel_rfl) (by kernel_rfl)
theorem lifted (os : Os) (started : os.Started) (H : Type) (enc : TypeId × Value → H) (F : Stop.Interp) :
 ReturnsInHanded {} Tryz.checked os 3 .any ((OpenSpec.ofChange Rows.objectBackSpec).preRow enc Tryz.prog Tryz.f3 Rows.objectBackRow.domain false Rows.objectBackRow.laid) (((OpenSpec.ofChange Rows.objectBackSpec).at F).post enc Tryz.prog Tryz.f3 false true false false) := by
 obtain ⟨places, hx⟩ := reads os enc;refine returnsInHanded_of_row (C := Tryz.checked) (s := OpenSpec.ofChange Rows.objectBackSpec) own started (by kernel_rfl) Tryz.func3
  (witness_row_at (enc := enc) (C := Tryz.checked) false (bareWorld os) #[.agg #[.slice none 0 0, .int .i64 0], .agg #[.int .i64 0, .bool false, .bool false, .slice none 0 0, .int .u64 0, .string ⟨#[]⟩, .slice none 0 0]] rfl (by kernel_rfl) (by kernel_rfl) (by kernel_rfl)
   (OpenSpec.preRow_of_cond 8 hx (by kernel_rfl) (fun k hk => by cases hk) (by kernel_rfl) (laid_met os))) ?_
 intro W base args ds gs before hval hW _ _ hz _ _ _;exact contract H enc W base args ds gs before hval hW hz
theorem said:Rows.ObjectBackSaid:=
 OpenClaim.holds_of_cond 3 Tryz.f3 rfl rfl rfl rfl rfl rfl rfl ⟨rfl,rfl,rfl,rfl,rfl⟩ rfl rfl rfl rfl rfl (by kernel_rfl) Tryz.func3 (by kernel_rfl)
  (of_decide_eq_true (by kernel_rfl)) (by unfold Func.isWrapper;first | (rw[if_pos (by decide +kernel)];kernel_rfl) | (rw[if_neg (by decide +kernel)];exact ⟨rfl,rfl⟩))
  (fun os started H enc _ F=>by rw[OpenClaim.pre_eq_preRow];exact lifted os started H enc F)
end Go.Proofs.YtebjkmjfcijebaaGreat.fnObjectBack

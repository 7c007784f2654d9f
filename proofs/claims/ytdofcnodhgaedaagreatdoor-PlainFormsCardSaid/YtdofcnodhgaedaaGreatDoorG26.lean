/- Texts of this claim. -/
import Derived.Test.YtdofcnodhgaedaaGreatDoorG25
set_option maxRecDepth 100000
namespace Go.Proofs.YtdofcnodhgaedaaGreatDoor.fnPlainForms
open Go.ChangeShapes Go.WideShapes Go.ChangeAt Go.RowKit Go.Joins
set_option maxHeartbeats 4000000 in
theorem closed:joinedFacts Tryz.prog 3 Tryz.f3 (OpenSpec.ofChange Rows.plainFormsSpec).bare Rows.plainFormsRow=true:=by
 unfold joinedFacts;simp only[Bool.and_eq_true]
 repeat' apply And.intro
 all_goals (as_aux_lemma=>kernel_rfl)
theorem said:Rows.PlainFormsSaid:=
 OpenClaim.holds_of_cond 3 Tryz.f3 rfl rfl rfl rfl rfl rfl rfl ⟨rfl,rfl,rfl,rfl,rfl⟩ rfl rfl rfl rfl rfl (by kernel_rfl) Tryz.func3 closed
  (of_decide_eq_true (by kernel_rfl)) (by unfold Func.isWrapper;first | (rw[if_pos (by decide +kernel)];kernel_rfl) | (rw[if_neg (by decide +kernel)];exact ⟨rfl,rfl⟩))
  (fun os started H enc _ F=>by rw[OpenClaim.pre_eq_preRow];exact lifted os started H enc F)
theorem stand_v:Tryz.prog.wantsStandIn 28=false:=by kernel_rfl
theorem plain (f:FuncId) (fn:Func) (hf:Tryz.pinned.checked.prog.funcNamed "scree/screelaw15.PlainForms" =some f) (hfn:Tryz.pinned.checked.prog.funcs[f]? =some fn) :
 true=Tryz.pinned.checked.prog.looks []∧ ∀(j:Nat) t,fn.params[j]? =some t→Tryz.pinned.checked.prog.wantsStandIn t=false:=by
 obtain rfl:f=3:=Option.some.inj ((show Tryz.prog.funcNamed "scree/screelaw15.PlainForms" =some 3 by kernel_rfl).symm.trans hf) |>.symm;obtain rfl:fn=Tryz.f3:=(Option.some.inj (Tryz.func3.symm.trans hfn)).symm;refine ⟨by kernel_rfl,fun j t ht=>?_⟩;rw[Tryz.params3] at ht;have h:=Array.mem_of_getElem? ht;have h:t=28:=by simpa using h
 rw[h];exact stand_v
theorem card:Rows.PlainFormsCardSaid:=
 Claim7.holds_tied_plain_at .later [] _ _ _ _ said (fun _ h=>by cases h) (by kernel_rfl) (fun _ h=>by cases h) plainForms_row_tie rfl ⟨rfl,rfl⟩ (by kernel_rfl) rfl plain (by kernel_rfl)
end Go.Proofs.YtdofcnodhgaedaaGreatDoor.fnPlainForms

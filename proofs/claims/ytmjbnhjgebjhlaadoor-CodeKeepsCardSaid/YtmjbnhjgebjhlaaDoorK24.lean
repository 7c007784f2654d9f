/- Texts of this claim. -/
import Derived.Test.YtmjbnhjgebjhlaaDoorK23
namespace Go.Proofs.YtmjbnhjgebjhlaaDoor.fnCodeKeeps
open Go.ChangeShapes Go.WideShapes Go.ChangeAt Go.RowKit Go.Joins
set_option maxRecDepth 100000
set_option maxHeartbeats 4000000 in
theorem closed : joinedFacts Tryd.prog 4 Tryd.f4 (OpenSpec.ofChange Rows.codeKeepsSpec).bare Rows.codeKeepsRow = true := by
 unfold joinedFacts;simp only [Bool.and_eq_true]
 repeat' apply And.intro
 all_goals (as_aux_lemma => kernel_rfl)
theorem said : Rows.CodeKeepsSaid :=
 OpenClaim.holds_of_cond 4 Tryd.f4 rfl rfl rfl rfl rfl rfl rfl ⟨rfl, rfl, rfl, rfl, rfl⟩ rfl rfl rfl rfl rfl (by kernel_rfl) Tryd.func4 closed
  (of_decide_eq_true (by kernel_rfl)) (by unfold Func.isWrapper; first | (rw [if_pos (by decide +kernel)]; kernel_rfl) | (rw [if_neg (by decide +kernel)]; exact ⟨rfl, rfl⟩))
  (fun os started H enc _ F => by rw [OpenClaim.pre_eq_preRow]; exact lifted os started H enc F)
theorem stand_x : Tryd.prog.wantsStandIn 40 = false := by kernel_rfl
theorem stand_i : Tryd.prog.wantsStandIn 3 = false := by kernel_rfl
theorem plain (f : FuncId) (fn : Func) (hf : Tryd.pinned.checked.prog.funcNamed "scree/screelaw08.CodeKeeps" = some f) (hfn : Tryd.pinned.checked.prog.funcs[f]? = some fn) :
 true = Tryd.pinned.checked.prog.looks [] ∧ ∀ (j : Nat) t, fn.params[j]? = some t → Tryd.pinned.checked.prog.wantsStandIn t = false := by
 obtain rfl : f = 4 := Option.some.inj ((show Tryd.prog.funcNamed "scree/screelaw08.CodeKeeps" = some 4 by kernel_rfl).symm.trans hf) |>.symm;obtain rfl : fn = Tryd.f4 := (Option.some.inj (Tryd.func4.symm.trans hfn)).symm;refine ⟨by kernel_rfl, fun j t ht => ?_⟩;rw [Tryd.params4] at ht;have h := Array.mem_of_getElem? ht;have h : t = 40 ∨ t = 3 := by simpa using h
 rcases h with h | h
 · rw [h]; exact stand_x
 · rw [h]; exact stand_i
theorem card : Rows.CodeKeepsCardSaid :=
 Claim7.holds_tied_plain_at .later [] _ _ _ _ said (fun _ h => by cases h) (by kernel_rfl) (fun _ h => by cases h) codeKeeps_row_tie rfl ⟨rfl, rfl⟩ (by kernel_rfl) rfl plain (by kernel_rfl)
end Go.Proofs.YtmjbnhjgebjhlaaDoor.fnCodeKeeps

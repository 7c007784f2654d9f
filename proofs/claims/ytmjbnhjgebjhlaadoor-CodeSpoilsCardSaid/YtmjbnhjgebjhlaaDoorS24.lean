/- Texts of this claim. -/
import Derived.Test.YtmjbnhjgebjhlaaDoorS23
namespace Go.Proofs.YtmjbnhjgebjhlaaDoor.fnCodeSpoils
open Go.ChangeShapes Go.WideShapes Go.ChangeAt Go.RowKit Go.Joins
set_option maxRecDepth 100000
set_option maxHeartbeats 4000000 in
theorem closed : joinedFacts Tryd.prog 3 Tryd.f3 (OpenSpec.ofChange Rows.codeSpoilsSpec).bare Rows.codeSpoilsRow = true := by
 unfold joinedFacts;simp only [Bool.and_eq_true]
 repeat' apply And.intro
 all_goals (as_aux_lemma => kernel_rfl)
theorem said : Rows.CodeSpoilsSaid :=
 OpenClaim.holds_of_cond 3 Tryd.f3 rfl rfl rfl rfl rfl rfl rfl ⟨rfl, rfl, rfl, rfl, rfl⟩ rfl rfl rfl rfl rfl (by kernel_rfl) Tryd.func3 closed
  (of_decide_eq_true (by kernel_rfl)) (by unfold Func.isWrapper; first | (rw [if_pos (by decide +kernel)]; kernel_rfl) | (rw [if_neg (by decide +kernel)]; exact ⟨rfl, rfl⟩))
  (fun os started H enc _ F => by rw [OpenClaim.pre_eq_preRow]; exact lifted os started H enc F)
theorem stand_c : Tryd.prog.wantsStandIn 24 = false := by kernel_rfl
theorem stand_i : Tryd.prog.wantsStandIn 3 = false := by kernel_rfl
theorem plain (f : FuncId) (fn : Func) (hf : Tryd.pinned.checked.prog.funcNamed "scree/screelaw08.CodeSpoils" = some f) (hfn : Tryd.pinned.checked.prog.funcs[f]? = some fn) :
 true = Tryd.pinned.checked.prog.looks [] ∧ ∀ (j : Nat) t, fn.params[j]? = some t → Tryd.pinned.checked.prog.wantsStandIn t = false := by
 obtain rfl : f = 3 := Option.some.inj ((show Tryd.prog.funcNamed "scree/screelaw08.CodeSpoils" = some 3 by kernel_rfl).symm.trans hf) |>.symm;obtain rfl : fn = Tryd.f3 := (Option.some.inj (Tryd.func3.symm.trans hfn)).symm;refine ⟨by kernel_rfl, fun j t ht => ?_⟩;rw [Tryd.params3] at ht;have h := Array.mem_of_getElem? ht;have h : t = 24 ∨ t = 3 ∨ t = 3 := by simpa using h
 rcases h with h | h | h
 · rw [h]; exact stand_c
 · rw [h]; exact stand_i
 · rw [h]; exact stand_i
theorem card : Rows.CodeSpoilsCardSaid :=
 Claim7.holds_tied_plain_at .later [] _ _ _ _ said (fun _ h => by cases h) (by kernel_rfl) (fun _ h => by cases h) codeSpoils_row_tie rfl ⟨rfl, rfl⟩ (by kernel_rfl) rfl plain (by kernel_rfl)
end Go.Proofs.YtmjbnhjgebjhlaaDoor.fnCodeSpoils

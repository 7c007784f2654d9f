/- Texts of this claim. -/
import Derived.Test.YtjdcjdohghkcgaaGreatDoorX22
namespace Go.Proofs.YtjdcjdohghkcgaaGreatDoor.fnRealAgree
open Go.ChangeShapes Go.WideShapes Go.ChangeAt Go.RowKit Go.Joins
set_option maxRecDepth 100000
set_option maxHeartbeats 4000000 in
theorem closed : joinedFacts Tryz.prog 8 Tryz.f8 (OpenSpec.ofChange Rows.realAgreeSpec).bare Rows.realAgreeRow = true := by
 unfold joinedFacts;simp only [Bool.and_eq_true]
 repeat' apply And.intro
 all_goals (as_aux_lemma => kernel_rfl)
theorem said : Rows.RealAgreeSaid :=
 OpenClaim.holds_of_cond 8 Tryz.f8 rfl rfl rfl rfl rfl rfl rfl ⟨rfl, rfl, rfl, rfl, rfl⟩ rfl rfl rfl rfl rfl (by kernel_rfl) Tryz.func8 closed
  (of_decide_eq_true (by kernel_rfl)) (by unfold Func.isWrapper; first | (rw [if_pos (by decide +kernel)]; kernel_rfl) | (rw [if_neg (by decide +kernel)]; exact ⟨rfl, rfl⟩))
  (fun os started H enc _ F => by rw [OpenClaim.pre_eq_preRow]; exact lifted os started H enc F)
theorem plain (f : FuncId) (fn : Func) (hf : Tryz.pinned.checked.prog.funcNamed "scree/screelaw03.RealAgree" = some f) (hfn : Tryz.pinned.checked.prog.funcs[f]? = some fn) :
 true = Tryz.pinned.checked.prog.looks [] ∧ ∀ (j : Nat) t, fn.params[j]? = some t → Tryz.pinned.checked.prog.wantsStandIn t = false := by
 obtain rfl : f = 8 := Option.some.inj ((show Tryz.prog.funcNamed "scree/screelaw03.RealAgree" = some 8 by kernel_rfl).symm.trans hf) |>.symm;obtain rfl : fn = Tryz.f8 := (Option.some.inj (Tryz.func8.symm.trans hfn)).symm;refine ⟨by kernel_rfl, fun j t ht => ?_⟩;rw [Tryz.params8] at ht;have h := Array.mem_of_getElem? ht;simp at h
 rcases h with h | h <;> exact standIns_r t (by simp [h])
theorem card : Rows.RealAgreeCardSaid :=
 Claim7.holds_tied_plain_at .later [] _ _ _ _ said (fun _ h => by cases h) (by kernel_rfl) (fun _ h => by cases h) realAgree_row_tie rfl ⟨rfl, rfl⟩ (by kernel_rfl) rfl plain (by kernel_rfl)
end Go.Proofs.YtjdcjdohghkcgaaGreatDoor.fnRealAgree

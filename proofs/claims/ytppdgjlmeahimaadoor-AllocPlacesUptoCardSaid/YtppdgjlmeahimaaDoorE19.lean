/- Texts of this claim. -/
import Derived.Test.YtppdgjlmeahimaaDoorE18
namespace Go.Proofs.YtppdgjlmeahimaaDoor.fnAllocPlaces
open Go.ChangeShapes Go.WideShapes Go.ChangeAt Go.RowKit Go.Joins
set_option maxRecDepth 100000
set_option maxHeartbeats 4000000 in
theorem closed : joinedFacts Tryd.prog 6 Tryd.f6 (Rows.OpenSpec.upto Rows.allocPlacesSpec).bare Rows.allocPlacesUptoRow = true := by
 unfold joinedFacts;simp only [Bool.and_eq_true]
 repeat' apply And.intro
 all_goals (as_aux_lemma => kernel_rfl)
theorem said : Rows.AllocPlacesUptoSaid :=
 OpenClaim.holds_of_cond 6 Tryd.f6 rfl rfl rfl rfl rfl rfl rfl ⟨rfl, rfl, rfl, rfl, rfl⟩ rfl rfl rfl rfl rfl (by kernel_rfl) Tryd.func6 closed
  (of_decide_eq_true (by kernel_rfl)) (by unfold Func.isWrapper; first | (rw [if_pos (by decide +kernel)]; kernel_rfl) | (rw [if_neg (by decide +kernel)]; exact ⟨rfl, rfl⟩))
  (fun os started H enc _ F => by rw [OpenClaim.pre_eq_preRow]; exact lifted os started H enc F)
theorem plain (f : FuncId) (fn : Func) (hf : Tryd.pinned.checked.prog.funcNamed "scree/screelaw11.AllocPlaces" = some f) (hfn : Tryd.pinned.checked.prog.funcs[f]? = some fn) :
 false = Tryd.pinned.checked.prog.looks [] ∧ ∀ (j : Nat) t, fn.params[j]? = some t → Tryd.pinned.checked.prog.wantsStandIn t = false := by
 obtain rfl : f = 6 := Option.some.inj ((show Tryd.prog.funcNamed "scree/screelaw11.AllocPlaces" = some 6 by kernel_rfl).symm.trans hf) |>.symm;obtain rfl : fn = Tryd.f6 := (Option.some.inj (Tryd.func6.symm.trans hfn)).symm;refine ⟨by kernel_rfl, fun j t ht => ?_⟩;rw [Tryd.params6] at ht;have h := Array.mem_of_getElem? ht;simp at h
 rcases h with h | h | h <;> exact standIns_a t (by simp [h])
theorem card : Rows.AllocPlacesUptoCardSaid :=
 Claim7.holds_tied_plain_at .later [] _ _ _ _ said (fun _ h => by cases h) (by kernel_rfl) (fun _ h => by cases h) allocPlacesUpto_row_tie rfl ⟨rfl, rfl⟩ (by kernel_rfl) rfl plain (by kernel_rfl)
end Go.Proofs.YtppdgjlmeahimaaDoor.fnAllocPlaces

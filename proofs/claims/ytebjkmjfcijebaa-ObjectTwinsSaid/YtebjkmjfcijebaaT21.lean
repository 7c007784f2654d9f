/- Texts of this claim. -/
import Derived.Test.YtebjkmjfcijebaaT20
import Derived.Deep.CondSized
namespace Go.Proofs.Ytebjkmjfcijebaa.fnObjectTwins
open Go.ChangeShapes Go.WideShapes Go.ChangeAt Go.RowKit Go.Joins
set_option maxRecDepth 100000
theorem contract (H : Type) (enc : TypeId × Value → H) (W : World) (base : Nat) (args : Array Value) (ds gs : List (DataW H)) (before : List MemPlace)
 (hval : ∀ (j : Nat) t v, Try.f3.params[j]? = some t → args[j]? = some v → Value.okWide Try.prog W .any base t v)
 (hW : DataW.Whole enc Try.prog Try.f3.params.toList Rows.objectTwinsSpec.vars false W args.toList ds gs before)
 (hz : (DataW.weightsEach Try.prog (Try.f3.params.toList ++ (OpenSpec.ofChange Rows.objectTwinsSpec).bare.plain.varTypes Try.prog) (ds ++ gs)).all (· ≤ reachBytes) = true) :
 Calls Try.prog 3 args W fun e W' => ∃ v, e = .returned v ∧ Rows.objectTwinsSpec.post enc Try.prog Try.f3 false true false false W args v W' := by
 have hW' := hW;obtain ⟨p, q, hA0, hV, rfl, hfz, hnd⟩ := hW;have hA : DataW.TrodAll enc Try.prog W 0 (fun _ => true) true Try.f3.params.toList args.toList ds p := hA0;rw [Try.params3] at hA hval hz;obtain ⟨v0, vs0, d0, ds0, p0, q0, hargs, rfl, rfl, h0, r0⟩ := trodAll_cons hA;obtain ⟨v1, vs1, d1, ds1, p1, q1, rfl, rfl, rfl, h1, r1⟩ := trodAll_cons r0
 obtain ⟨v2, vs2, d2, ds2, p2, q2, rfl, rfl, rfl, h2, r2⟩ := trodAll_cons r1;obtain ⟨rfl, rfl, rfl⟩ := trodAll_nil r2;obtain rfl : args = #[v0, v1, v2] := by cases args; simp_all
 obtain ⟨rfl, rfl⟩ := trodVars_none hV;have hz8 := fun (j : Nat) (t : TypeId) (d : DataW H) ht hd n hn => List.all_eq_true.1 hz _ (DataW.weights_mem_each (j := j) (t := t) (d := d) ht hd n hn);obtain ⟨A0, c0, xs0, i0, rfl, hx0, hi0⟩ := mem_sized (hval 0 24 _ rfl rfl) h0 (fun n hn => of_decide_eq_true (hz8 0 _ _ rfl rfl n hn))
 obtain ⟨i1, rfl, rfl, rfl, wf1⟩ := open_int Try.underlying25 (hval 1 25 _ rfl rfl) h1;obtain ⟨m1, rfl⟩ := Int.eq_ofNat_of_zero_le (u64_of_wf wf1).1;obtain ⟨i2, rfl, rfl, rfl, wf2⟩ := open_int Try.underlying25 (hval 2 25 _ rfl rfl) h2;obtain ⟨m2, rfl⟩ := Int.eq_ofNat_of_zero_le (u64_of_wf wf2).1
 refine (twins_law W A0 xs0 c0 W.heap.size i0 m1 m2 hx0 hi0 (Nat.le_refl _) (show m1 < 18446744073709551616 by have := (u64_of_wf wf1).2; omega) (show m2 < 18446744073709551616 by have := (u64_of_wf wf2).2; omega)).mono fun e W' ⟨he, hb⟩ => ?_;subst he;exact ⟨_, rfl, law_post hW' hb rfl rfl (by rw [Try.params3]; decide) rfl⟩
noncomputable def bareWorld (os : Os) : World := World.holding Try.prog os ⟨#[], #[], []⟩
theorem reads (os : Os) {H : Type} (enc : TypeId × Value → H) : ∃ places, DataW.whole enc Try.prog ((bareWorld os).forCall (fun _ _ => 0) ⟨#[], #[.agg #[.slice none 0 0, .int .i64 0], .int .u64 0, .int .u64 0], []⟩).memory Try.f3.params.toList Rows.objectTwinsSpec.vars false (#[.agg #[.slice none 0 0, .int .i64 0], .int .u64 0, .int .u64 0] : Array Value).toList 8 = some ([.agg [.nil, .lit (.int .i64 0)], .lit (.int .u64 0), .lit (.int .u64 0)], [], places) :=
 ⟨[], by kernel_rfl⟩
theorem laid_met (os : Os) : laidMet Try.prog Rows.objectTwinsRow.laid ((bareWorld os).forCall (fun _ _ => 0) ⟨#[], #[.agg #[.slice none 0 0, .int .i64 0], .int .u64 0, .int .u64 0], []⟩).memory :=
 laidMet_of_run' 8 (by kernel_rfl) (by kernel_rfl)
theorem lifted (os : Os) (started : os.Started) (H : Type) (enc : TypeId × Value → H) (F : Stop.Interp) :
 ReturnsInHanded {} Try.checked os 3 .any ((OpenSpec.ofChange Rows.objectTwinsSpec).preRow enc Try.prog Try.f3 Rows.objectTwinsRow.domain false Rows.objectTwinsRow.laid) (((OpenSpec.ofChange Rows.objectTwinsSpec).at F).post enc Try.prog Try.f3 false true false false) := by
 obtain ⟨places, hx⟩ := reads os enc;refine returnsInHanded_of_row (C := Try.checked) (s := OpenSpec.ofChange Rows.objectTwinsSpec) own started (by kernel_rfl) Try.func3
  (witness_row_at (enc := enc) (C := Try.checked) false (bareWorld os) #[.agg #[.slice none 0 0, .int .i64 0], .int .u64 0, .int .u64 0] rfl (by kernel_rfl) (by kernel_rfl) (by kernel_rfl)
   (OpenSpec.preRow_of_cond 8 hx (by kernel_rfl) (fun k hk => by cases hk) (by kernel_rfl) (laid_met os))) ?_
 intro W base args ds gs before hval hW _ _ hz _ _ _;exact contract H enc W base args ds gs before hval hW hz
theorem said : Rows.ObjectTwinsSaid :=
 OpenClaim.holds_of_cond 3 Try.f3 rfl rfl rfl rfl rfl rfl rfl ⟨rfl, rfl, rfl, rfl, rfl⟩ rfl rfl rfl rfl rfl (by kernel_rfl) Try.func3 (by kernel_rfl)
  (of_decide_eq_true (by kernel_rfl)) (by unfold Func.isWrapper; first | (rw [if_pos (by decide +kernel)]; kernel_rfl) | (rw [if_neg (by decide +kernel)]; exact ⟨rfl, rfl⟩))
  (fun os started H enc _ F => by rw [OpenClaim.pre_eq_preRow]; exact lifted os started H enc F)
end Go.Proofs.Ytebjkmjfcijebaa.fnObjectTwins

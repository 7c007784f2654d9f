/- Texts of this claim. -/
import Derived.Test.YtppdgjlmeahimaaDoorE17
import Derived.MakeChecks
import Derived.SizedLaws
namespace Go.Proofs.YtppdgjlmeahimaaDoor
open Go.ChangeShapes Go.WideShapes Go.ChangeAt Go.RowKit Go.Joins
set_option maxRecDepth 100000
noncomputable def dbWorld (os : Os) : World :=
 let put (w : World) (b : Nat) (d : DataW Unit) : World := { w with heap := w.heap.modify b fun | .cells _ t frozen => .cells (tabCells d) t frozen | o => o }
 put (World.holding Tryd.prog os ⟨#[], #[], []⟩) 0 Rows.laid_math_bits_deBruijn64tab
def dbZ : List Int := dbL.map fun (y : Nat) => (y : Int)
theorem laid_plain {W : World} (h : laidMetH Tryd.prog Rows.allocRightRow.laid W) : laidMet Tryd.prog Rows.allocRightRow.laid W := by
 rw [MakeChecks.laidMetH_plain _ _ _ (by kernel_rfl)] at h;exact h
theorem dbt_of {W : World} (h : laidMetH Tryd.prog Rows.allocRightRow.laid W) : DbT W := fun j y hy => by
 have h0 : laidMet Tryd.prog (("math/bits.deBruijn64tab", Lib.tabData .u8 dbZ) :: []) W := laid_plain h;have ht := Lib.tabIs_of_head (k := .u8) (zs := dbZ) (g := 0) (t := 88) (e := 5) (n := 64) (by kernel_rfl) (by kernel_rfl) Tryd.underlying88 Tryd.underlying5 (by kernel_rfl) (by kernel_rfl) h0
 have hl : j < dbZ.length := by unfold dbZ; rw [List.length_map]; exact (List.getElem?_eq_some_iff.1 hy).1
 have hc := ht.cell (g := 0) (by kernel_rfl) j hl;have e : dbZ.getD j 0 = ((y : Nat) : Int) := by
  unfold dbZ;rw [List.getD_eq_getElem?_getD, List.getElem?_map, hy]; rfl
 rw [e] at hc;exact hc
theorem standIns_a (t : TypeId) (h : t = 27 ∨ t = 3 ∨ t = 28) : Tryd.prog.wantsStandIn t = false := by
 rcases h with rfl | rfl | rfl
 · kernel_rfl
 · kernel_rfl
 · kernel_rfl
end Go.Proofs.YtppdgjlmeahimaaDoor
namespace Go.Proofs.YtppdgjlmeahimaaDoor.fnAllocPlaces
open Go.ChangeShapes Go.WideShapes Go.ChangeAt Go.RowKit Go.Joins
set_option maxRecDepth 100000
theorem contract (H : Type) (enc : TypeId × Value → H) (W : World) (base : Nat) (args : Array Value) (ds gs : List (DataW H)) (before : List MemPlace)
 (hval : ∀ (j : Nat) t v, Tryd.f6.params[j]? = some t → args[j]? = some v → Value.okWide Tryd.prog W .any base t v)
 (hW : DataW.Whole enc Tryd.prog Tryd.f6.params.toList Rows.allocPlacesSpec.vars false W args.toList ds gs before) (hlaid : laidMetH Tryd.prog Rows.allocPlacesUptoRow.laid W)
 (hz : (DataW.weightsEach Tryd.prog (Tryd.f6.params.toList ++ (Rows.OpenSpec.upto Rows.allocPlacesSpec).bare.plain.varTypes Tryd.prog) (ds ++ gs)).all (· ≤ reachBytes) = true) (hc : Rows.uptoSmall H (ds ++ gs) = true) :
 Calls Tryd.prog 6 args W fun e W' => ∃ v, e = .returned v ∧ Rows.allocPlacesSpec.post enc Tryd.prog Tryd.f6 false true false false W args v W' := by
 have hW' := hW;obtain ⟨p, q, hA0, hV, rfl, hfz, hnd⟩ := hW;have hA : DataW.TrodAll enc Tryd.prog W 0 (fun _ => true) true Tryd.f6.params.toList args.toList ds p := hA0;rw [Tryd.params6] at hA hval hz;obtain ⟨v0, vs0, d0, ds0, p0, q0, hargs, rfl, rfl, h0, r0⟩ := trodAll_cons hA;obtain ⟨v1, vs1, d1, ds1, p1, q1, rfl, rfl, rfl, h1, r1⟩ := trodAll_cons r0
 obtain ⟨v2, vs2, d2, ds2, p2, q2, rfl, rfl, rfl, h2, r2⟩ := trodAll_cons r1;obtain ⟨rfl, rfl, rfl⟩ := trodAll_nil r2;obtain rfl : args = #[v0, v1, v2] := by cases args; simp_all
 obtain ⟨rfl, rfl⟩ := trodVars_none hV;have hz8 := fun (j : Nat) (t : TypeId) (d : DataW H) ht hd n hn => List.all_eq_true.1 hz _ (DataW.weights_mem_each (j := j) (t := t) (d := d) ht hd n hn);have hu := of_decide_eq_true hc;simp only [List.append_nil, List.cons_append, List.nil_append, Rows.uptoBulkAll] at hu
 obtain ⟨p0', f0, rfl, hF0, hB0⟩ := open_func (hval 0 27 _ rfl rfl) h0 (fun n hn => of_decide_eq_true (hz8 0 _ _ rfl rfl n hn));obtain ⟨A1, c1, xs1, rfl, hI1⟩ := open_ints_a (hval 1 28 _ rfl rfl) h1 (fun n hn => of_decide_eq_true (hz8 1 _ _ rfl rfl n hn));obtain ⟨i2, rfl, rfl, rfl, wf2⟩ := open_int Tryd.underlying3 (hval 2 3 _ rfl rfl) h2
 refine (places_law W p0' f0 W.heap.size hF0 (by omega) (dbt_of hlaid) A1 c1 W.heap.size xs1 hI1 i2 (i64_of_wf wf2) (Nat.le_refl _)).mono fun e W' ⟨he, hb⟩ => ?_;subst he;exact ⟨_, rfl, law_post hW' hb rfl rfl (by rw [Tryd.params6]; decide) rfl⟩
theorem reads (os : Os) {H : Type} (enc : TypeId × Value → H) : ∃ places, DataW.whole enc Tryd.prog ((dbWorld os).forCall (fun _ _ => 0) ⟨#[], #[.agg #[.string ⟨#[]⟩, .int .i64 0, .int .i64 0, .int .i64 0, .bool false, .int .i64 0, .slice none 0 0, .slice none 0 0, .slice none 0 0, .slice none 0 0], .slice none 0 0, .int .i64 0], []⟩).memory Tryd.f6.params.toList Rows.allocPlacesSpec.vars false (#[.agg #[.string ⟨#[]⟩, .int .i64 0, .int .i64 0, .int .i64 0, .bool false, .int .i64 0, .slice none 0 0, .slice none 0 0, .slice none 0 0, .slice none 0 0], .slice none 0 0, .int .i64 0] : Array Value).toList 8 = some ([.agg [.lit (.string []), .lit (.int .i64 0), .lit (.int .i64 0), .lit (.int .i64 0), .lit (.bool false), .lit (.int .i64 0), .nil, .nil, .nil, .nil], .nil, .lit (.int .i64 0)], [], places) :=
 ⟨[], by kernel_rfl⟩
theorem laid_met (os : Os) : laidMet Tryd.prog Rows.allocPlacesUptoRow.laid ((dbWorld os).forCall (fun _ _ => 0) ⟨#[], #[.agg #[.string ⟨#[]⟩, .int .i64 0, .int .i64 0, .int .i64 0, .bool false, .int .i64 0, .slice none 0 0, .slice none 0 0, .slice none 0 0, .slice none 0 0], .slice none 0 0, .int .i64 0], []⟩).memory :=
 laidMet_of_run' 8 (by kernel_rfl) (by kernel_rfl)
theorem lifted (os : Os) (started : os.Started) (H : Type) (enc : TypeId × Value → H) (F : Stop.Interp) :
 ReturnsInHanded {} Tryd.checked os 6 .any ((Rows.OpenSpec.upto Rows.allocPlacesSpec).preRow enc Tryd.prog Tryd.f6 Rows.allocPlacesUptoRow.domain false Rows.allocPlacesUptoRow.laid) (((Rows.OpenSpec.upto Rows.allocPlacesSpec).at F).post enc Tryd.prog Tryd.f6 false true false false) := by
 obtain ⟨places, hx⟩ := reads os enc;refine returnsInHanded_of_row (C := Tryd.checked) (s := Rows.OpenSpec.upto Rows.allocPlacesSpec) own started (by kernel_rfl) Tryd.func6
  (witness_row_at (enc := enc) (C := Tryd.checked) false (dbWorld os) #[.agg #[.string ⟨#[]⟩, .int .i64 0, .int .i64 0, .int .i64 0, .bool false, .int .i64 0, .slice none 0 0, .slice none 0 0, .slice none 0 0, .slice none 0 0], .slice none 0 0, .int .i64 0] rfl (by kernel_rfl) (by kernel_rfl) (by kernel_rfl)
   (OpenSpec.preRow_of_cond 8 hx (by kernel_rfl) (fun k hk => by cases hk; kernel_rfl) (by kernel_rfl) (laid_met os))) ?_
 intro W base args ds gs before hval hW _ hc hz hlaid _ _;exact contract H enc W base args ds gs before hval hW hlaid hz (hc _ rfl)
end Go.Proofs.YtppdgjlmeahimaaDoor.fnAllocPlaces

/- Texts of this claim. -/
import Derived.Test.YtmjbnhjgebjhlaaDoorK19
import Derived.Test.YtmjbnhjgebjhlaaDoorCards
import Derived.Test.YtmjbnhjgebjhlaaDoorTie
import Derived.ProofKit
import Derived.OpenShut
import Derived.Deep.DeepHandedRow
import Derived.Lib.LaidTab
import Derived.Lib.SmallJoins
import Derived.ReadAgain
import Derived.ChangeStays
import Derived.ChangeSame
namespace Go.Proofs.YtmjbnhjgebjhlaaDoor
open Go.ChangeShapes Go.WideShapes Go.ChangeAt Go.RowKit Go.Joins
set_option maxRecDepth 100000
theorem own : ownKnob Tryd.prog.godebug = none := by kernel_rfl
theorem kids : Kids Tryd.prog (· < Tryd.prog.types.size) := kids_rows (by kernel_rfl) (by kernel_rfl)
theorem fullSlices : ∀ t e, t < Tryd.prog.types.size → Tryd.prog.underlying t = some (.slice e) → 0 < Tryd.prog.cellsOf e := slices_full_of Tryd.prog (by kernel_rfl)
def tabCells : DataW Unit → Array Value
 | .agg l => (l.map fun | .lit (.int k n) => Value.int k n | _ => .nilIface).toArray
 | _ => #[]
noncomputable def laidWorld (os : Os) : World :=
 let put (w : World) (b : Nat) (d : DataW Unit) : World := { w with heap := w.heap.modify b fun | .cells _ t frozen => .cells (tabCells d) t frozen | o => o }
 put (put (put (World.holding Tryd.prog os ⟨#[], #[], []⟩) 12 Rows.laid_math_bits_deBruijn32tab) 13 Rows.laid_math_bits_deBruijn64tab) 10 Rows.laid_internal_strconv_uint64pow10
theorem i64_of_wf {n : Int} (h : (Lit.int .i64 n).wf = true) : -9223372036854775808 ≤ n ∧ n ≤ 9223372036854775807 := by
 simp only [Lit.wf, IntKind.min, IntKind.max, IntKind.signed, IntKind.bits, Bool.and_eq_true] at h
 simp at h
 omega
section
variable {H : Type} {enc : TypeId × Value → H}
theorem args_again {W W' : World} (hb : Below W.heap.size W W') {sp : Nat → Bool} : ∀ {ts : List TypeId} {vs : List Value} {ds : List (DataW H)} {ps : List MemPlace}, (∀ t ∈ ts, t < Tryd.prog.types.size) →
 DataW.TrodAll enc Tryd.prog W 0 (fun _ => true) true ts vs ds ps → (∀ p ∈ ps, sp p.block = true) → DataW.TrodAll enc Tryd.prog W' 0 sp true ts vs ds ps
 | [], [], [], _, _, h, _ => h
 | _ :: _, _ :: _, _ :: _, _, hT, ⟨p, q, ⟨n, h1⟩, h2, e⟩, hs =>
  ⟨p, q, ⟨n, DataW.trod_stays kids (fun ht hu => fullSlices _ _ ht hu) (fun h => by cases h) (hT _ (List.mem_cons.2 (Or.inl rfl))) h1
   (fun x hx => hb.same (DataW.trod_lt n _ _ _ h1 x hx)) (fun x hx => hs x (by rw [e]; exact List.mem_append_left _ hx))⟩,
   args_again hb (fun t ht => hT t (List.mem_cons.2 (Or.inr ht))) h2 (fun x hx => hs x (by rw [e]; exact List.mem_append_right _ hx)), e⟩
theorem law_post {f : Func} {s : ChangeSpec} {apart fresh handsOn again : Bool} {W W' : World} {args : Array Value} {ds gs : List (DataW H)} {before : List MemPlace}
 (hW : DataW.Whole enc Tryd.prog f.params.toList s.vars apart W args.toList ds gs before) (hb : Below W.heap.size W W') (hvars : s.vars = [])
 (hfn : s.fn H (ds ++ gs) = { results := [.lit (.bool true)], args := ds }) (hT : ∀ t ∈ f.params.toList, t < Tryd.prog.types.size) (hr : f.resultTypes = #[4]) :
 s.post enc Tryd.prog f apart fresh handsOn again W args (.bool true) W' := by
 have hW0 := hW;obtain ⟨p, q, hA, hV, rfl, hz, hn⟩ := hW;rw [hvars] at hV;obtain ⟨rfl, rfl⟩ := trodVars_none hV;have hlt : ∀ x ∈ p ++ [], x.block < W.heap.size := fun x hx => hW0.lt x hx;have hold : ∀ x ∈ p ++ [], (fun b => decide (b < W.heap.size)) x.block = true := fun x hx => by simpa using hlt x hx
 have hargs : ∀ sp : Nat → Bool, (∀ x ∈ p ++ [], sp x.block = true) → DataW.TrodAll enc Tryd.prog W' 0 sp true f.params.toList args.toList ds p :=
  fun sp hs => args_again hb hT hA (fun x hx => hs x (by simpa using hx))
 have hres : ∀ (b : Nat) (sp : Nat → Bool) (hd : Bool), DataW.TrodAll enc Tryd.prog W' b sp hd f.resultTypes.toList ((Value.bool true).resultList f.resultTypes.size) [.lit (.bool true)] [] := by
  intro b sp hd;rw [hr];exact trodAll_cons_mk (shut_bool Tryd.underlying4 _) trodAll_mk0
 have hvars2 : ∀ sp : Nat → Bool, DataW.TrodVars enc Tryd.prog W' sp s.vars (s.fn H (ds ++ [])).vars [] := by
  intro sp;rw [hvars, hfn];rfl
 refine ⟨ds, [], p ++ [], [], p, [], hW0, by rw [hfn]; exact hres _ _ _, by rw [hfn]; exact hargs _ hold, hvars2 _, World.keptBut_mono (fun x hx => ⟨hx, ?_⟩) (hb.frame (· ∈ p ++ [])), fun _ => ?_⟩
 · simpa using hx
 · refine ⟨ok_one hr rfl (okWide_bool_mk Tryd.underlying4 _), _, _, ([] ++ p) ++ [], ⟨[] ++ p, [], trodAll_append (hargs _ (fun _ _ => rfl)) (hres _ _ _), hvars2 _, rfl, ?_, ?_⟩, ?_⟩
   · intro b off hp;have hin : MemPlace.cell b off ∈ p ++ [] := by simpa using hp
     rw [hb.frozen (hlt _ hin)];exact hz b off hin
   · intro ha;have := hn ha;simpa using this
   · intro x hx _;simpa using hx
end
end Go.Proofs.YtmjbnhjgebjhlaaDoor

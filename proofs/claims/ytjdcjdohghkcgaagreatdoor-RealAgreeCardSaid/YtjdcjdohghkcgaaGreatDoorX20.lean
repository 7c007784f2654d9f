/- Texts of this claim. -/
import Derived.Test.YtjdcjdohghkcgaaGreatDoorX19
import Derived.Test.YtjdcjdohghkcgaaGreatDoorCards
import Derived.Test.YtjdcjdohghkcgaaGreatDoorTie
import Derived.ProofKit
import Derived.OpenShut
import Derived.Deep.DeepHandedRow
import Derived.Lib.LaidTab
import Derived.Lib.SmallJoins
import Derived.ReadAgain
import Derived.ChangeStays
import Derived.ChangeSame
namespace Go.Proofs.YtjdcjdohghkcgaaGreatDoor
open Go.ChangeShapes Go.WideShapes Go.ChangeAt Go.RowKit Go.Joins
set_option maxRecDepth 100000
theorem own : ownKnob Tryz.prog.godebug = none := by kernel_rfl
theorem kids : Kids Tryz.prog (· < Tryz.prog.types.size) := kids_rows (by kernel_rfl) (by kernel_rfl)
theorem fullSlices : ∀ t e, t < Tryz.prog.types.size → Tryz.prog.underlying t = some (.slice e) → 0 < Tryz.prog.cellsOf e := slices_full_of Tryz.prog (by kernel_rfl)
def tabCells : DataW Unit → Array Value
 | .agg l => (l.map fun | .lit (.int k n) => Value.int k n | _ => .nilIface).toArray
 | _ => #[]
noncomputable def laidWorld (os : Os) : World :=
 let put (w : World) (b : Nat) (d : DataW Unit) : World := { w with heap := w.heap.modify b fun | .cells _ t frozen => .cells (tabCells d) t frozen | o => o }
 put (put (put (World.holding Tryz.prog os ⟨#[], #[], []⟩) 15 Rows.laid_math_bits_deBruijn32tab) 16 Rows.laid_math_bits_deBruijn64tab) 9 Rows.laid_internal_strconv_uint64pow10
section
variable {H : Type} {enc : TypeId × Value → H}
theorem args_again {W W' : World} (hb : Below W.heap.size W W') {sp : Nat → Bool} : ∀ {ts : List TypeId} {vs : List Value} {ds : List (DataW H)} {ps : List MemPlace}, (∀ t ∈ ts, t < Tryz.prog.types.size) →
 DataW.TrodAll enc Tryz.prog W 0 (fun _ => true) true ts vs ds ps → (∀ p ∈ ps, sp p.block = true) → DataW.TrodAll enc Tryz.prog W' 0 sp true ts vs ds ps
 | [], [], [], _, _, h, _ => h
 | _ :: _, _ :: _, _ :: _, _, hT, ⟨p, q, ⟨n, h1⟩, h2, e⟩, hs =>
  ⟨p, q, ⟨n, DataW.trod_stays kids (fun ht hu => fullSlices _ _ ht hu) (fun h => by cases h) (hT _ (List.mem_cons.2 (Or.inl rfl))) h1
   (fun x hx => hb.same (DataW.trod_lt n _ _ _ h1 x hx)) (fun x hx => hs x (by rw [e]; exact List.mem_append_left _ hx))⟩,
   args_again hb (fun t ht => hT t (List.mem_cons.2 (Or.inr ht))) h2 (fun x hx => hs x (by rw [e]; exact List.mem_append_right _ hx)), e⟩
theorem law_post {f : Func} {s : ChangeSpec} {apart fresh handsOn again : Bool} {W W' : World} {args : Array Value} {ds gs : List (DataW H)} {before : List MemPlace}
 (hW : DataW.Whole enc Tryz.prog f.params.toList s.vars apart W args.toList ds gs before) (hb : Below W.heap.size W W') (hvars : s.vars = [])
 (hfn : s.fn H (ds ++ gs) = { results := [.lit (.bool true)], args := ds }) (hT : ∀ t ∈ f.params.toList, t < Tryz.prog.types.size) (hr : f.resultTypes = #[4]) :
 s.post enc Tryz.prog f apart fresh handsOn again W args (.bool true) W' := by
 have hW0 := hW;obtain ⟨p, q, hA, hV, rfl, hz, hn⟩ := hW;rw [hvars] at hV;obtain ⟨rfl, rfl⟩ := trodVars_none hV;have hlt : ∀ x ∈ p ++ [], x.block < W.heap.size := fun x hx => hW0.lt x hx;have hold : ∀ x ∈ p ++ [], (fun b => decide (b < W.heap.size)) x.block = true := fun x hx => by simpa using hlt x hx
 have hargs : ∀ sp : Nat → Bool, (∀ x ∈ p ++ [], sp x.block = true) → DataW.TrodAll enc Tryz.prog W' 0 sp true f.params.toList args.toList ds p :=
  fun sp hs => args_again hb hT hA (fun x hx => hs x (by simpa using hx))
 have hres : ∀ (b : Nat) (sp : Nat → Bool) (hd : Bool), DataW.TrodAll enc Tryz.prog W' b sp hd f.resultTypes.toList ((Value.bool true).resultList f.resultTypes.size) [.lit (.bool true)] [] := by
  intro b sp hd;rw [hr];exact trodAll_cons_mk (shut_bool Tryz.underlying4 _) trodAll_mk0
 have hvars2 : ∀ sp : Nat → Bool, DataW.TrodVars enc Tryz.prog W' sp s.vars (s.fn H (ds ++ [])).vars [] := by
  intro sp;rw [hvars, hfn];rfl
 refine ⟨ds, [], p ++ [], [], p, [], hW0, by rw [hfn]; exact hres _ _ _, by rw [hfn]; exact hargs _ hold, hvars2 _, World.keptBut_mono (fun x hx => ⟨hx, ?_⟩) (hb.frame (· ∈ p ++ [])), fun _ => ?_⟩
 · simpa using hx
 · refine ⟨ok_one hr rfl (okWide_bool_mk Tryz.underlying4 _), _, _, ([] ++ p) ++ [], ⟨[] ++ p, [], trodAll_append (hargs _ (fun _ _ => rfl)) (hres _ _ _), hvars2 _, rfl, ?_, ?_⟩, ?_⟩
   · intro b off hp;have hin : MemPlace.cell b off ∈ p ++ [] := by simpa using hp
     rw [hb.frozen (hlt _ hin)];exact hz b off hin
   · intro ha;have := hn ha;simpa using this
   · intro x hx _;simpa using hx
theorem cell_lt {w : World} {b o : Nat} {v : Value} (h : w.cell? ⟨b, o, none⟩ = some v) : b < w.heap.size := by
 rcases Nat.lt_or_ge b w.heap.size with h1 | h1
 · exact h1
 · unfold World.cell? at h;simp only [Array.getElem?_eq_none h1] at h
   cases h
theorem zcv {n : Int} (h : (Lit.int .u64 n).wf = true) : 0 ≤ n ∧ n < 18446744073709551616 := by
 simp only [Lit.wf, IntKind.min, IntKind.max, IntKind.signed, IntKind.bits, Bool.and_eq_true] at h
 simp at h
 omega
theorem open_row {W : World} {fuel : Nat} {cs : List Value} {x : DataW H × List MemPlace} (h : DataW.trod enc Tryz.prog W 0 (fun _ => true) true fuel 40 cs = some x) :
 ∃ A c xs, cs = [.slice A xs.length c] ∧ Nums W A xs ∧ xs.length ≤ maxLen := by
 rcases open_ints Tryz.underlying40 Tryz.underlying32 (by kernel_rfl) h with ⟨rfl, _⟩ | ⟨a, len, cap, zs, rfl, _, hle, hmax, hz, _, hcell, hwf⟩
 · exact ⟨none, 0, [], rfl, ⟨fun k => by rw [yxx]; decide, fun h => absurd h (by decide)⟩, Nat.zero_le _⟩
 · simp only [if_true] at hz
   have hl : ((zs.take len).map Int.toNat).length = len := by simp; omega
   have hb : ∀ y ∈ (zs.take len).map Int.toNat, y < 18446744073709551616 := by
    intro y hy;rw [List.mem_map] at hy;obtain ⟨n, hn, rfl⟩ := hy;have := zcv (hwf n (List.mem_of_mem_take hn));omega
   refine ⟨some a, cap, (zs.take len).map Int.toNat, by rw [hl], ⟨xn hb, fun h0 => ?_⟩, by rw [hl]; omega⟩;rw [hl] at h0;obtain ⟨b, off, rfl, hc⟩ := ints_at hcell (by omega);have hlt : b < W.heap.size := cell_lt (hc 0 (by omega));refine ⟨b, off, rfl, hlt, fun k hk => ?_⟩;rw [hl] at hk;rw [hc k (by omega)]
   have h1 := zcv (hwf (zs.getD k 0) (by simp [List.getD, List.getElem?_eq_getElem (show k < zs.length by omega)]));have e : nth ((zs.take len).map Int.toNat) k = zs.getD k 0 := by
    unfold nth;have hkz : k < zs.length := by omega
    simp [hk, List.getElem?_eq_getElem hkz] at h1 ⊢
    omega
   rw [e]
theorem open_big {W : World} {r : Reach} {b0 : Nat} {v : Value} {d : DataW H} {p : List MemPlace} (hv : Value.okWide Tryz.prog W r b0 42 v) (h : DataW.Trod enc Tryz.prog W 0 (fun _ => true) true 42 v d p) :
 ∃ n1 A c xs, v = .agg #[.bool n1, .slice A xs.length c] ∧ Nums W A xs ∧ xs.length ≤ maxLen := by
 obtain ⟨c0, c1, y0, y1, m, rfl, rfl, rfl, hy0, hy1⟩ := open_agg2 Tryz.underlying42 (by kernel_rfl) (by kernel_rfl) hv h;obtain ⟨n1, e0, rfl⟩ := DataW.trod_bool Tryz.underlying4 hy0;simp at e0
 subst e0;obtain ⟨A, c, xs, e1, h1, h2⟩ := open_row hy1;simp at e1
 subst e1;exact ⟨n1, A, c, xs, rfl, h1, h2⟩
end
end Go.Proofs.YtjdcjdohghkcgaaGreatDoor

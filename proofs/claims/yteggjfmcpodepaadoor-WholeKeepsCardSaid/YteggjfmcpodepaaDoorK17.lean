/- The card of the law WholeKeeps: for every input that can be read it answers true and leaves its arguments as they were; the row lists three tables of the library (the card ties them to the program's text). -/
import Derived.Test.YteggjfmcpodepaaDoorK16
import Derived.SizedLaws
import Derived.Deep.CondSized
namespace Go.Proofs.YteggjfmcpodepaaDoor.fnWholeKeeps
open Go.ChangeShapes Go.WideShapes Go.ChangeAt Go.RowKit Go.Joins
set_option maxRecDepth 100000

section
variable {H : Type} {enc : TypeId × Value → H}
/-- A list of words that came in, and its weight. -/
theorem row_sized {W : World} {fuel : Nat} {cs : List Value} {x : DataW H × List MemPlace} (h : DataW.trod enc Tryd.prog W 0 (fun _ => true) true fuel 22 cs = some x) :
    ∃ A c xs, cs = [.slice A xs.length c] ∧ Nums W A xs ∧ (xs.length = 0 ∨ ∃ m, xs.length ≤ m ∧ m * Tryd.prog.bytesOf 63 ∈ x.1.weights Tryd.prog 22) := by
  rcases open_ints Tryd.underlying22 Tryd.underlying63 (by kernel_rfl) h with ⟨rfl, _⟩ | ⟨a, len, cap, zs, rfl, _, hle, hmax, hz, hx, hcell, hwf⟩
  · exact ⟨none, 0, [], rfl, ⟨fun k => by rw [nth_nil]; decide, fun h => absurd h (by decide)⟩, Or.inl rfl⟩
  · simp only [if_true] at hz
    have hl : ((zs.take len).map Int.toNat).length = len := by simp; omega
    have hb : ∀ y ∈ (zs.take len).map Int.toNat, y < 18446744073709551616 := by
      intro y hy
      rw [List.mem_map] at hy
      obtain ⟨n, hn, rfl⟩ := hy
      have := u64_of_wf (hwf n (List.mem_of_mem_take hn))
      omega
    refine ⟨some a, cap, (zs.take len).map Int.toNat, by rw [hl], ⟨nth_bound hb, fun h0 => ?_⟩, Or.inr ⟨(lits (H := H) .u64 (zs.take len)).length + (lits (H := H) .u64 (zs.drop len)).length, ?_, ?_⟩⟩
    · rw [hl] at h0
      obtain ⟨b, off, rfl, hc⟩ := ints_at hcell (by omega)
      have hlt : b < W.heap.size := cell_lt (hc 0 (by omega))
      refine ⟨b, off, rfl, hlt, fun k hk => ?_⟩
      rw [hl] at hk
      rw [hc k (by omega)]
      have h1 := u64_of_wf (hwf (zs.getD k 0) (by simp [List.getD, List.getElem?_eq_getElem (show k < zs.length by omega)]))
      have e : nth ((zs.take len).map Int.toNat) k = zs.getD k 0 := by
        unfold nth
        have hkz : k < zs.length := by omega
        simp [hk, List.getElem?_eq_getElem hkz] at h1 ⊢
        omega
      rw [e]
    · rw [hl]; unfold lits; simp; omega
    · rw [hx]
      simp only [DataW.weights, Tryd.underlying22]
      exact List.mem_cons_self
/-- A number in limbs that came in: how long it can be. -/
theorem big_sized {W : World} {r : Reach} {b0 : Nat} {v : Value} {d : DataW H} {p : List MemPlace} (hv : Value.okWide Tryd.prog W r b0 24 v) (h : DataW.Trod enc Tryd.prog W 0 (fun _ => true) true 24 v d p)
    (hw : ∀ n ∈ d.weights Tryd.prog 24, n ≤ reachBytes) :
    ∃ n1 A c xs, v = .agg #[.bool n1, .slice A xs.length c] ∧ Nums W A xs ∧ xs.length * 8 ≤ 140737488351232 := by
  obtain ⟨c0, c1, y0, y1, m, rfl, rfl, rfl, hy0, hy1⟩ := open_agg2 Tryd.underlying24 (by kernel_rfl) (by kernel_rfl) hv h
  obtain ⟨n1, e0, rfl⟩ := DataW.trod_bool Tryd.underlying4 hy0
  simp at e0
  subst e0
  obtain ⟨A, c, xs, e1, h1, h2⟩ := row_sized hy1
  simp at e1
  subst e1
  refine ⟨n1, A, c, xs, rfl, h1, ?_⟩
  rcases h2 with h2 | ⟨m, h2, h3⟩
  · omega
  · have h4 := hw (m * Tryd.prog.bytesOf 63) (by
      simp only [DataW.weights, Tryd.underlying24]
      exact DataW.weights_mem_each (j := 1) rfl rfl _ h3)
    have h5 : Tryd.prog.bytesOf 63 = 8 := by kernel_rfl
    rw [h5] at h4
    have h6 : reachBytes = 140737488351232 := by decide
    omega
end
/-- What the walk gives, for every argument. -/
theorem contract (H : Type) (enc : TypeId × Value → H) (W : World) (base : Nat) (args : Array Value) (ds gs : List (DataW H)) (before : List MemPlace)
    (hval : ∀ (j : Nat) t v, Tryd.f11.params[j]? = some t → args[j]? = some v → Value.okWide Tryd.prog W .any base t v)
    (hW : DataW.Whole enc Tryd.prog Tryd.f11.params.toList Rows.wholeKeepsSpec.vars false W args.toList ds gs before)
    (hz : (DataW.weightsEach Tryd.prog (Tryd.f11.params.toList ++ (OpenSpec.ofChange Rows.wholeKeepsSpec).bare.plain.varTypes Tryd.prog) (ds ++ gs)).all (· ≤ reachBytes) = true) :
    Calls Tryd.prog 11 args W fun e W' => ∃ v, e = .returned v ∧ Rows.wholeKeepsSpec.post enc Tryd.prog Tryd.f11 false true false false W args v W' := by
  have hW' := hW
  obtain ⟨p, q, hA0, hV, rfl, hfz, hnd⟩ := hW
  have hA : DataW.TrodAll enc Tryd.prog W 0 (fun _ => true) true Tryd.f11.params.toList args.toList ds p := hA0
  rw [Tryd.params11] at hA hval hz
  obtain ⟨v0, vs0, d0, ds0, p0, q0, hargs, rfl, rfl, h0, r0⟩ := trodAll_cons hA
  obtain ⟨v1, vs1, d1, ds1, p1, q1, rfl, rfl, rfl, h1, r1⟩ := trodAll_cons r0
  obtain ⟨rfl, rfl, rfl⟩ := trodAll_nil r1
  obtain rfl : args = #[v0, v1] := by cases args; simp_all
  obtain ⟨rfl, rfl⟩ := trodVars_none hV
  have hz8 := fun (j : Nat) (t : TypeId) (d : DataW H) ht hd n hn => List.all_eq_true.1 hz _ (DataW.weights_mem_each (j := j) (t := t) (d := d) ht hd n hn)
  obtain ⟨n0, A0, c0, xs0, rfl, hx0, hl0⟩ := big_sized (hval 0 24 _ rfl rfl) h0 (fun n hn => of_decide_eq_true (hz8 0 _ _ rfl rfl n hn))
  obtain ⟨n1, A1, c1, xs1, rfl, hx1, hl1⟩ := big_sized (hval 1 24 _ rfl rfl) h1 (fun n hn => of_decide_eq_true (hz8 1 _ _ rfl rfl n hn))
  refine (keeps_law n0 n1 A0 A1 c0 c1 xs0 xs1 W hx0 hx1 hl0 hl1).mono fun e W' ⟨he, hb⟩ => ?_
  subst he
  exact ⟨_, rfl, law_post hW' hb rfl rfl (by rw [Tryd.params11]; decide) rfl⟩

theorem reads (os : Os) {H : Type} (enc : TypeId × Value → H) : ∃ places, DataW.whole enc Tryd.prog ((laidWorld os).forCall (fun _ _ => 0) ⟨#[], #[.agg #[.bool false, .slice none 0 0], .agg #[.bool false, .slice none 0 0]], []⟩).memory Tryd.f11.params.toList Rows.wholeKeepsSpec.vars false (#[.agg #[.bool false, .slice none 0 0], .agg #[.bool false, .slice none 0 0]] : Array Value).toList 8 = some ([.agg [.lit (.bool false), .nil], .agg [.lit (.bool false), .nil]], [], places) :=
  ⟨[], by kernel_rfl⟩
theorem laid_met (os : Os) : laidMet Tryd.prog Rows.wholeKeepsRow.laid ((laidWorld os).forCall (fun _ _ => 0) ⟨#[], #[.agg #[.bool false, .slice none 0 0], .agg #[.bool false, .slice none 0 0]], []⟩).memory :=
  laidMet_of_run' 8 (by kernel_rfl) (by kernel_rfl)

theorem lifted (os : Os) (started : os.Started) (H : Type) (enc : TypeId × Value → H) (F : Stop.Interp) :
    ReturnsInHanded {} Tryd.checked os 11 .any ((OpenSpec.ofChange Rows.wholeKeepsSpec).preRow enc Tryd.prog Tryd.f11 Rows.wholeKeepsRow.domain false Rows.wholeKeepsRow.laid) (((OpenSpec.ofChange Rows.wholeKeepsSpec).at F).post enc Tryd.prog Tryd.f11 false true false false) := by
  obtain ⟨places, hx⟩ := reads os enc
  refine returnsInHanded_of_row (C := Tryd.checked) (s := OpenSpec.ofChange Rows.wholeKeepsSpec) own started (by kernel_rfl) Tryd.func11
    (witness_row_at (enc := enc) (C := Tryd.checked) false (laidWorld os) #[.agg #[.bool false, .slice none 0 0], .agg #[.bool false, .slice none 0 0]] rfl (by kernel_rfl) (by kernel_rfl) (by kernel_rfl)
      (OpenSpec.preRow_of_cond 8 hx (by kernel_rfl) (fun k hk => by cases hk) (by kernel_rfl) (laid_met os))) ?_
  intro W base args ds gs before hval hW _ _ hz _ _ _
  exact contract H enc W base args ds gs before hval hW hz

theorem said : Rows.WholeKeepsSaid :=
  OpenClaim.holds_of_cond 11 Tryd.f11 rfl rfl rfl rfl rfl rfl rfl ⟨rfl, rfl, rfl, rfl, rfl⟩ rfl rfl rfl rfl rfl (by kernel_rfl) Tryd.func11 (by kernel_rfl)
    (of_decide_eq_true (by kernel_rfl)) (by unfold Func.isWrapper; first | (rw [if_pos (by decide +kernel)]; kernel_rfl) | (rw [if_neg (by decide +kernel)]; exact ⟨rfl, rfl⟩))
    (fun os started H enc _ F => by rw [OpenClaim.pre_eq_preRow]; exact lifted os started H enc F)

theorem plain (f : FuncId) (fn : Func) (hf : Tryd.pinned.checked.prog.funcNamed "scree/screelaw02.WholeKeeps" = some f) (hfn : Tryd.pinned.checked.prog.funcs[f]? = some fn) :
    true = Tryd.pinned.checked.prog.looks [] ∧ ∀ (j : Nat) t, fn.params[j]? = some t → Tryd.pinned.checked.prog.wantsStandIn t = false := by
  obtain rfl : f = 11 := Option.some.inj ((show Tryd.prog.funcNamed "scree/screelaw02.WholeKeeps" = some 11 by kernel_rfl).symm.trans hf) |>.symm
  obtain rfl : fn = Tryd.f11 := (Option.some.inj (Tryd.func11.symm.trans hfn)).symm
  refine ⟨by kernel_rfl, fun j t ht => ?_⟩
  rw [Tryd.params11] at ht
  have h := Array.mem_of_getElem? ht
  simp at h
  exact standIns_none t (by simp [h])
/-- The card. -/
theorem card : Rows.WholeKeepsCardSaid :=
  Claim7.holds_tied_plain_at .later [] _ _ _ _ said (fun _ h => by cases h) (by kernel_rfl) (fun _ h => by cases h) wholeKeeps_row_tie rfl ⟨rfl, rfl⟩ (by kernel_rfl) rfl plain (by kernel_rfl)
end Go.Proofs.YteggjfmcpodepaaDoor.fnWholeKeeps

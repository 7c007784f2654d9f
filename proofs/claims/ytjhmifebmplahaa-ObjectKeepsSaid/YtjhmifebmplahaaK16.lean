/- Texts of this claim. -/
import Derived.Test.YtjhmifebmplahaaK15
import Derived.SizedLaws
import Derived.Deep.CondSized
namespace Go.Proofs.Ytjhmifebmplahaa.fnObjectKeeps
open Go.ChangeShapes Go.WideShapes Go.ChangeAt Go.RowKit Go.Joins
set_option maxRecDepth 100000
section
variable {H : Type} {enc : TypeId × Value → H}
theorem row_sized {W : World} {fuel : Nat} {cs : List Value} {x : DataW H × List MemPlace} (h : DataW.trod enc Try.prog W 0 (fun _ => true) true fuel 22 cs = some x) :
 ∃ A c xs, cs = [.slice A xs.length c] ∧ (∀ y ∈ xs, U64 y) ∧ RowS W.heap.size W 1 (fun w g o (x : Nat) => w.cell? ⟨g, o, none⟩ = some (.int .u64 ((x : Nat) : Int))) A xs ∧ (xs.length = 0 ∨ ∃ m, xs.length ≤ m ∧ m * Try.prog.bytesOf 27 ∈ x.1.weights Try.prog 22) := by
 rcases open_ints Try.underlying22 Try.underlying27 (by kernel_rfl) h with ⟨rfl, _⟩ | ⟨a, len, cap, zs, rfl, _, hle, hmax, hz, hx, hcell, hwf⟩
 · exact ⟨none, 0, [], rfl, fun y h => (by cases h), fun h => absurd rfl h, Or.inl rfl⟩
 · simp only [if_true] at hz
   have hl : ((zs.take len).map Int.toNat).length = len := by simp; omega
   have hu : ∀ n ∈ zs, 0 ≤ n ∧ n < 18446744073709551616 := fun n hn => u64_of_wf (hwf n hn);refine ⟨some a, cap, (zs.take len).map Int.toNat, by rw [hl], fun y hy => ?_, fun h0 => ?_, Or.inr ⟨(lits (H := H) .u64 (zs.take len)).length + (lits (H := H) .u64 (zs.drop len)).length, ?_, ?_⟩⟩
   · rw [List.mem_map] at hy;obtain ⟨n, hn, rfl⟩ := hy;have := hu n (List.mem_of_mem_take hn);unfold U64;omega
   · have h0' : 0 < len := by rw [← hl]; exact List.length_pos_iff.2 h0
     obtain ⟨b, off, rfl, hc⟩ := ints_at hcell (by omega);refine ⟨b, off, rfl, cell_lt (hc 0 (by omega)), fun k x hk => ?_⟩;have hkl := (List.getElem?_eq_some_iff.1 hk).1;rw [hl] at hkl;have hkz : k < zs.length := by omega
     have e1 : zs.getD k 0 = zs[k] := by simp [List.getD, List.getElem?_eq_getElem hkz]
     rw [List.getElem?_map, List.getElem?_take_of_lt hkl, List.getElem?_eq_getElem hkz] at hk;have e2 : zs[k].toNat = x := Option.some.inj hk;have h1 := hu _ (List.getElem_mem hkz);show W.cell? ⟨b, off + k * 1, none⟩ = _
     rw [Nat.mul_one, hc k hkz, e1];congr 2
     omega
   · rw [hl]; unfold lits; simp; omega
   · rw [hx];simp only [DataW.weights, Try.underlying22]
     exact List.mem_cons_self
theorem words_sized {W : World} {fuel : Nat} {cs : List Value} {x : DataW H × List MemPlace} (h : DataW.trod enc Try.prog W 0 (fun _ => true) true fuel 22 cs = some x) (hw : ∀ n ∈ x.1.weights Try.prog 22, n ≤ reachBytes) :
 ∃ A c xs, cs = [.slice A xs.length c] ∧ WordsA W.heap.size W A xs ∧ xs.length * 8 ≤ 140737488351232 := by
 obtain ⟨A, c, xs, e, h1, h2, h3⟩ := row_sized h;have h4 : xs.length * 8 ≤ 140737488351232 := by
  rcases h3 with h3 | ⟨m, h3, h5⟩
  · omega
  · have h4 := hw _ h5;have h5 : Try.prog.bytesOf 27 = 8 := by kernel_rfl
    rw [h5] at h4;have h6 : reachBytes = 140737488351232 := by decide
    omega
 exact ⟨A, c, xs, e, ⟨by omega, h1, h2⟩, h4⟩
theorem mem_sized {W : World} {r : Reach} {b0 : Nat} {v : Value} {d : DataW H} {p : List MemPlace} (hv : Value.okWide Try.prog W r b0 24 v) (h : DataW.Trod enc Try.prog W 0 (fun _ => true) true 24 v d p)
 (hw : ∀ n ∈ d.weights Try.prog 24, n ≤ reachBytes) :
 ∃ A c xs i, v = .agg #[.slice A xs.length c, .int .i64 i] ∧ WordsA W.heap.size W A xs ∧ I64 i := by
 obtain ⟨c0, c1, y0, y1, m, rfl, rfl, rfl, hy0, hy1⟩ := open_agg2 Try.underlying24 (by kernel_rfl) (by kernel_rfl) hv h;obtain ⟨i, e1, rfl, wf⟩ := DataW.trod_int Try.underlying3 hy1;simp at e1
 subst e1;obtain ⟨A, c, xs, e0, h1, h2⟩ := words_sized hy0 (fun n hn => hw n (by
  simp only [DataW.weights, Try.underlying24]
  exact DataW.weights_mem_each (j := 0) rfl rfl _ hn))
 simp at e0
 subst e0;exact ⟨A, c, xs, i, rfl, h1, i64_of_wf wf⟩
end
theorem contract (H : Type) (enc : TypeId × Value → H) (W : World) (base : Nat) (args : Array Value) (ds gs : List (DataW H)) (before : List MemPlace)
 (hval : ∀ (j : Nat) t v, Try.f4.params[j]? = some t → args[j]? = some v → Value.okWide Try.prog W .any base t v)
 (hW : DataW.Whole enc Try.prog Try.f4.params.toList Rows.objectKeepsSpec.vars false W args.toList ds gs before)
 (hz : (DataW.weightsEach Try.prog (Try.f4.params.toList ++ (OpenSpec.ofChange Rows.objectKeepsSpec).bare.plain.varTypes Try.prog) (ds ++ gs)).all (· ≤ reachBytes) = true) :
 Calls Try.prog 4 args W fun e W' => ∃ v, e = .returned v ∧ Rows.objectKeepsSpec.post enc Try.prog Try.f4 false true false false W args v W' := by
 have hW' := hW;obtain ⟨p, q, hA0, hV, rfl, hfz, hnd⟩ := hW;have hA : DataW.TrodAll enc Try.prog W 0 (fun _ => true) true Try.f4.params.toList args.toList ds p := hA0;rw [Try.params4] at hA hval hz;obtain ⟨v0, vs0, d0, ds0, p0, q0, hargs, rfl, rfl, h0, r0⟩ := trodAll_cons hA;obtain ⟨v1, vs1, d1, ds1, p1, q1, rfl, rfl, rfl, h1, r1⟩ := trodAll_cons r0;obtain ⟨rfl, rfl, rfl⟩ := trodAll_nil r1
 obtain rfl : args = #[v0, v1] := by cases args; simp_all
 obtain ⟨rfl, rfl⟩ := trodVars_none hV;have hz8 := fun (j : Nat) (t : TypeId) (d : DataW H) ht hd n hn => List.all_eq_true.1 hz _ (DataW.weights_mem_each (j := j) (t := t) (d := d) ht hd n hn);obtain ⟨A0, c0, xs0, i0, rfl, hx0, hi0⟩ := mem_sized (hval 0 24 _ rfl rfl) h0 (fun n hn => of_decide_eq_true (hz8 0 _ _ rfl rfl n hn));obtain ⟨fuel1, t1⟩ := h1
 obtain ⟨A1, c1, xs1, e1, hx1, hl1⟩ := words_sized t1 (fun n hn => of_decide_eq_true (hz8 1 _ _ rfl rfl n hn));obtain ⟨a9, n9, c9, rfl⟩ := okWide_slice Try.underlying22 (hval 1 22 _ rfl rfl);have e9 : (Value.slice a9 n9 c9).cells = #[.slice a9 n9 c9] := rfl;rw [e9] at e1;have e8 : Value.slice a9 n9 c9 = .slice A1 xs1.length c1 := (List.cons.inj e1).1;injection e8 with q1 q2 q3
 subst q1 q2 q3;refine (keeps_law W A0 a9 xs0 xs1 c0 c9 W.heap.size i0 hx0 hx1 hi0 (Nat.le_refl _) hl1).mono fun e W' ⟨he, hb⟩ => ?_;subst he;exact ⟨_, rfl, law_post hW' hb rfl rfl (by rw [Try.params4]; decide) rfl⟩
noncomputable def bareWorld (os : Os) : World := World.holding Try.prog os ⟨#[], #[], []⟩
theorem reads (os : Os) {H : Type} (enc : TypeId × Value → H) : ∃ places, DataW.whole enc Try.prog ((bareWorld os).forCall (fun _ _ => 0) ⟨#[], #[.agg #[.slice none 0 0, .int .i64 0], .slice none 0 0], []⟩).memory Try.f4.params.toList Rows.objectKeepsSpec.vars false (#[.agg #[.slice none 0 0, .int .i64 0], .slice none 0 0] : Array Value).toList 8 = some ([.agg [.nil, .lit (.int .i64 0)], .nil], [], places) :=
 ⟨[], by kernel_rfl⟩
theorem laid_met (os : Os) : laidMet Try.prog Rows.objectKeepsRow.laid ((bareWorld os).forCall (fun _ _ => 0) ⟨#[], #[.agg #[.slice none 0 0, .int .i64 0], .slice none 0 0], []⟩).memory :=
 laidMet_of_run' 8 (by kernel_rfl) (by kernel_rfl)
theorem lifted (os : Os) (started : os.Started) (H : Type) (enc : TypeId × Value → H) (F : Stop.Interp) :
 ReturnsInHanded {} Try.checked os 4 .any ((OpenSpec.ofChange Rows.objectKeepsSpec).preRow enc Try.prog Try.f4 Rows.objectKeepsRow.domain false Rows.objectKeepsRow.laid) (((OpenSpec.ofChange Rows.objectKeepsSpec).at F).post enc Try.prog Try.f4 false true false false) := by
 obtain ⟨places, hx⟩ := reads os enc;refine returnsInHanded_of_row (C := Try.checked) (s := OpenSpec.ofChange Rows.objectKeepsSpec) own started (by kernel_rfl) Try.func4
  (witness_row_at (enc := enc) (C := Try.checked) false (bareWorld os) #[.agg #[.slice none 0 0, .int .i64 0], .slice none 0 0] rfl (by kernel_rfl) (by kernel_rfl) (by kernel_rfl)
   (OpenSpec.preRow_of_cond 8 hx (by kernel_rfl) (fun k hk => by cases hk) (by kernel_rfl) (laid_met os))) ?_
 intro W base args ds gs before hval hW _ _ hz _ _ _;exact contract H enc W base args ds gs before hval hW hz
theorem said : Rows.ObjectKeepsSaid :=
 OpenClaim.holds_of_cond 4 Try.f4 rfl rfl rfl rfl rfl rfl rfl ⟨rfl, rfl, rfl, rfl, rfl⟩ rfl rfl rfl rfl rfl (by kernel_rfl) Try.func4 (by kernel_rfl)
  (of_decide_eq_true (by kernel_rfl)) (by unfold Func.isWrapper; first | (rw [if_pos (by decide +kernel)]; kernel_rfl) | (rw [if_neg (by decide +kernel)]; exact ⟨rfl, rfl⟩))
  (fun os started H enc _ F => by rw [OpenClaim.pre_eq_preRow]; exact lifted os started H enc F)
end Go.Proofs.Ytjhmifebmplahaa.fnObjectKeeps

/- Texts of this claim. -/
import Derived.Test.YtebjkmjfcijebaaT19
import Derived.SizedLaws
namespace Go.Proofs.Ytebjkmjfcijebaa
open Go.ChangeShapes Go.WideShapes Go.ChangeAt Go.RowKit Go.Joins
set_option maxRecDepth 100000
section
variable {H : Type} {enc : TypeId × Value → H}
theorem row_sized {W : World} {fuel : Nat} {cs : List Value} {x : DataW H × List MemPlace} (h : DataW.trod enc Try.prog W 0 (fun _ => true) true fuel 22 cs = some x) :
 ∃ A c xs, cs = [.slice A xs.length c] ∧ (∀ y ∈ xs, U64 y) ∧ RowS W.heap.size W 1 (fun w g o (x : Nat) => w.cell? ⟨g, o, none⟩ = some (.int .u64 ((x : Nat) : Int))) A xs ∧ (xs.length = 0 ∨ ∃ m, xs.length ≤ m ∧ m * Try.prog.bytesOf 25 ∈ x.1.weights Try.prog 22) := by
 rcases open_ints Try.underlying22 Try.underlying25 (by kernel_rfl) h with ⟨rfl, _⟩ | ⟨a, len, cap, zs, rfl, _, hle, hmax, hz, hx, hcell, hwf⟩
 · exact ⟨none, 0, [], rfl, fun y h => (by cases h), fun h => absurd rfl h, Or.inl rfl⟩
 · simp only [if_true] at hz
   have hl : ((zs.take len).map Int.toNat).length = len := by simp; omega
   have hu : ∀ n ∈ zs, 0 ≤ n ∧ n < 18446744073709551616 := fun n hn => u64_of_wf (hwf n hn);refine ⟨some a, cap, (zs.take len).map Int.toNat, by rw [hl], fun y hy => ?_, fun h0 => ?_, Or.inr ⟨(lits (H := H) .u64 (zs.take len)).length + (lits (H := H) .u64 (zs.drop len)).length, ?_, ?_⟩⟩
   · rw [List.mem_map] at hy;obtain ⟨n, hn, rfl⟩ := hy;have := hu n (List.mem_of_mem_take hn);unfold U64;omega
   · have h0' : 0 < len := by rw [← hl]; exact List.length_pos_iff.2 h0
     obtain ⟨b, off, rfl, hc⟩ := ints_at hcell (by omega);refine ⟨b, off, rfl, cell_lt (hc 0 (by omega)), fun k x hk => ?_⟩;have hkl := (List.getElem?_eq_some_iff.1 hk).1;rw [hl] at hkl;have hkz : k < zs.length := by omega
     have e1 : zs.getD k 0 = zs[k] := by simp [List.getD, List.getElem?_eq_getElem hkz]
     rw [List.getElem?_map, List.getElem?_take_of_lt hkl, List.getElem?_eq_getElem hkz] at hk;have e2 : zs[k].toNat = x := Option.some.inj hk;have h1 := hu _ (List.getElem_mem hkz);show W.cell? ⟨b, off + k * 1, none⟩ = _
     rw [Nat.mul_one, hc k hkz, e1];congr 2
     omega
   · rw [hl]; unfold lits; simp; omega
   · rw [hx];simp only [DataW.weights, Try.underlying22]
     exact List.mem_cons_self
theorem words_sized {W : World} {fuel : Nat} {cs : List Value} {x : DataW H × List MemPlace} (h : DataW.trod enc Try.prog W 0 (fun _ => true) true fuel 22 cs = some x) (hw : ∀ n ∈ x.1.weights Try.prog 22, n ≤ reachBytes) :
 ∃ A c xs, cs = [.slice A xs.length c] ∧ WordsA W.heap.size W A xs ∧ xs.length * 8 ≤ 140737488351232 := by
 obtain ⟨A, c, xs, e, h1, h2, h3⟩ := row_sized h;have h4 : xs.length * 8 ≤ 140737488351232 := by
  rcases h3 with h3 | ⟨m, h3, h5⟩
  · omega
  · have h4 := hw _ h5;have h5 : Try.prog.bytesOf 25 = 8 := by kernel_rfl
    rw [h5] at h4;have h6 : reachBytes = 140737488351232 := by decide
    omega
 exact ⟨A, c, xs, e, ⟨by omega, h1, h2⟩, h4⟩
theorem mem_sized {W : World} {r : Reach} {b0 : Nat} {v : Value} {d : DataW H} {p : List MemPlace} (hv : Value.okWide Try.prog W r b0 24 v) (h : DataW.Trod enc Try.prog W 0 (fun _ => true) true 24 v d p)
 (hw : ∀ n ∈ d.weights Try.prog 24, n ≤ reachBytes) :
 ∃ A c xs i, v = .agg #[.slice A xs.length c, .int .i64 i] ∧ WordsA W.heap.size W A xs ∧ I64 i := by
 obtain ⟨c0, c1, y0, y1, m, rfl, rfl, rfl, hy0, hy1⟩ := open_agg2 Try.underlying24 (by kernel_rfl) (by kernel_rfl) hv h;obtain ⟨i, e1, rfl, wf⟩ := DataW.trod_int Try.underlying3 hy1;simp at e1
 subst e1;obtain ⟨A, c, xs, e0, h1, h2⟩ := words_sized hy0 (fun n hn => hw n (by
  simp only [DataW.weights, Try.underlying24]
  exact DataW.weights_mem_each (j := 0) rfl rfl _ hn))
 simp at e0
 subst e0;exact ⟨A, c, xs, i, rfl, h1, i64_of_wf wf⟩
end
section
variable {H : Type} {enc : TypeId × Value → H} {P : Program} {W : World} {fuel : Nat} {t : TypeId}
def Light (P : Program) (t : TypeId) (d : DataW H) : Prop := ∀ n ∈ d.weights P t, n ≤ reachBytes
theorem Light.agg {fs : Array Field} {parts : List (DataW H)} (hu : P.underlying t = some (.struct fs)) (h : Light P t (.agg parts)) {j : Nat} {f : Field} {d : DataW H} (hf : fs[j]? = some f) (hd : parts[j]? = some d) : Light P f.type d := by
 unfold Light at h;simp only [DataW.weights, hu] at h
 exact fun n hn => h n (DataW.weights_mem_each (by rw [List.getElem?_map, Array.getElem?_toList, hf]; rfl) hd n hn)
end
end Go.Proofs.Ytebjkmjfcijebaa

/- Texts of this claim. -/
import Derived.Test.YtmjbnhjgebjhlaaDoorK20
import Derived.SizedLaws
namespace Go.Proofs.YtmjbnhjgebjhlaaDoor
open Go.ChangeShapes Go.WideShapes Go.ChangeAt Go.RowKit Go.Joins
set_option maxRecDepth 100000
section
variable {H : Type} {enc : TypeId × Value → H} {P : Program} {W : World} {spare : Nat → Bool} {held : Bool} {fuel : Nat} {t e : TypeId}
theorem cells_get {a : Addr} {s : Nat} {cs : List Value} (h : W.cells? 0 a s = some cs) : cs.length = s ∧ ∀ j v, cs[j]? = some v → W.cell? (a.add j) = some v := by
 unfold World.cells? at h;rw [if_pos (Nat.zero_le _)] at h;have hl := mapM_some_length h;rw [List.length_range] at hl;refine ⟨hl, fun j v hj => ?_⟩;have hlt := (List.getElem?_eq_some_iff.1 hj).1;have := mapM_some_get h j j (by rw [List.getElem?_range (by omega)]);rw [this, hj]
theorem spot_no {a : Addr} {v : Value} (h : W.cell? a = some v) : ∃ b o, a = ⟨b, o, none⟩ := by
 obtain ⟨b, o, s⟩ := a;cases s with
 | none => exact ⟨b, o, rfl⟩
 | some k =>
  unfold World.cell? at h;split at h
  · simp at h
  · cases h
theorem add_no (b o n : Nat) : (⟨b, o, none⟩ : Addr).add n = ⟨b, o + n, none⟩ := by
 unfold Addr.add;split
 · rename_i h; subst h; rfl
 · rfl
def Light (P : Program) (t : TypeId) (d : DataW H) : Prop := ∀ n ∈ d.weights P t, n ≤ reachBytes
theorem zhv : ∀ {ds : List (DataW H)} {d : DataW H}, d ∈ ds → ∀ n ∈ d.weights P e, n ∈ DataW.weightsAll P e ds
 | [], d, hd, n, hn => by cases hd
 | d0 :: ds, d, hd, n, hn => by
  simp only [DataW.weightsAll, List.mem_append]
  rcases List.mem_cons.1 hd with rfl | hd
  · exact Or.inl hn
  · exact Or.inr (zhv hd n hn)
theorem Light.slice {elems rest : List (DataW H)} (hu : P.underlying t = some (.slice e)) (h : Light P t (.slice elems rest)) : elems.length * P.bytesOf e ≤ reachBytes ∧ ∀ d ∈ elems, Light P e d := by
 unfold Light at h;simp only [DataW.weights, hu, List.mem_cons, List.mem_append] at h
 refine ⟨?_, fun d hd n hn => h n (Or.inr (Or.inl (zhv hd n hn)))⟩;have h1 := h _ (Or.inl rfl);refine Nat.le_trans (Nat.mul_le_mul_right _ ?_) h1;omega
theorem Light.agg {fs : Array Field} {parts : List (DataW H)} (hu : P.underlying t = some (.struct fs)) (h : Light P t (.agg parts)) {j : Nat} {f : Field} {d : DataW H} (hf : fs[j]? = some f) (hd : parts[j]? = some d) : Light P f.type d := by
 unfold Light at h;simp only [DataW.weights, hu] at h
 exact fun n hn => h n (DataW.weights_mem_each (by rw [List.getElem?_map, Array.getElem?_toList, hf]; rfl) hd n hn)
theorem bulk_sum : ∀ (ds : List (DataW H)) (l : List Nat), l.length = ds.length → (∀ i (h1 : i < l.length) (h2 : i < ds.length), l[i] ≤ Rows.uptoBulk ds[i]) → l.sum ≤ Rows.uptoBulkAll ds
 | [], [], _, _ => Nat.zero_le _
 | d :: ds, n :: l, hl, h => by
  have h0 : n ≤ Rows.uptoBulk d := h 0 (by simp) (by simp);have h1 := bulk_sum ds l (by simpa using hl) (fun i h1 h2 => h (i + 1) (by simp; omega) (by simp; omega));simp only [List.sum_cons, Rows.uptoBulkAll]
  omega
 | [], _ :: _, hl, _ => by simp at hl
 | _ :: _, [], hl, _ => by simp at hl
theorem open_rowS {α : Type} {s : Nat} {cs : List Value} {y : DataW H × List MemPlace} (R : World → Nat → Nat → α → Prop) (μ : α → Nat) (hu : P.underlying t = some (.slice e)) (hce : P.cellsOf e = s)
 (hs : 0 < s) (hel : ∀ g o (c : List Value) n z, c.length = s → (∀ j v, c[j]? = some v → W.cell? ⟨g, o + j, none⟩ = some v) → DataW.trod enc P W 0 spare held n e c = some z → Light P e z.1 → ∃ x, R W g o x ∧ μ x ≤ Rows.uptoBulk z.1)
 (h : DataW.trod enc P W 0 spare held fuel t cs = some y) (hl : Light P t y.1) : ∃ A c xs, cs = [.slice A xs.length c] ∧ RowS W.heap.size W s R A xs ∧ xs.length * P.bytesOf e ≤ reachBytes ∧ (xs.map μ).sum ≤ Rows.uptoBulk y.1 := by
 rcases DataW.trod_slice hu h with ⟨h1, h2⟩ | ⟨a, len, cap, elems, rest, n, _, hcs, hx, _, _, _, hlen, hi, _⟩
 · exact ⟨none, 0, [], h1, fun h => absurd rfl h, by rw [List.length_nil, Nat.zero_mul]; exact Nat.zero_le _, Nat.zero_le _⟩
 · rw [hx] at hl;obtain ⟨hb, hel2⟩ := hl.slice hu;rw [List.length_map] at hb;have key0 : ∀ i (hil : i < len), ∃ c, W.cells? 0 (a.add (i * s)) s = some c ∧ DataW.trod enc P W 0 spare held n e c = some (elems[i]'(by omega)) := fun i hil => by
    have h1 := hi i hil;have hie : elems[i]? = some (elems[i]'(by omega)) := List.getElem?_eq_getElem (by omega);rw [hce, hie, Option.bind_eq_some_iff] at h1;exact h1
   have hsp : 0 < len → ∃ g o, a = ⟨g, o, none⟩ ∧ g < W.heap.size := fun h0 => by
    obtain ⟨c, hc1, _⟩ := key0 0 h0;obtain ⟨hcl, hcc⟩ := cells_get hc1;have hv0 := hcc 0 _ (List.getElem?_eq_getElem (by omega));have e0 : (a.add (0 * s)).add 0 = a := by rw [Nat.zero_mul]; rfl
    rw [e0] at hv0;obtain ⟨g, o, rfl⟩ := spot_no hv0;exact ⟨g, o, rfl, World.block_lt_of_cell? W _ hv0⟩
   have key : ∀ i (hil : i < len), ∃ x, (∀ g o, a = ⟨g, o, none⟩ → R W g (o + i * s) x) ∧ μ x ≤ Rows.uptoBulk (elems[i]'(by omega)).1 := fun i hil => by
    obtain ⟨c, hc1, hc2⟩ := key0 i hil;obtain ⟨hcl, hcc⟩ := cells_get hc1;obtain ⟨g, o, rfl, _⟩ := hsp (by omega);obtain ⟨x, hx2, hx3⟩ := hel g (o + i * s) c n _ hcl (fun j v hj => by have := hcc j v hj; rw [add_no, add_no] at this; exact this) hc2 (hel2 _ (List.mem_map_of_mem (List.getElem_mem _)));refine ⟨x, fun g' o' he => ?_, hx3⟩;cases he
    exact hx2
   by_cases h0 : len = 0
   · subst h0;exact ⟨some a, cap, [], hcs, fun h => absurd rfl h, by rw [List.length_nil, Nat.zero_mul]; exact Nat.zero_le _, Nat.zero_le _⟩
   · obtain ⟨f, hf, hf2⟩ : ∃ f : Nat → α, (∀ i, i < len → ∀ g o, a = ⟨g, o, none⟩ → R W g (o + i * s) (f i)) ∧ ∀ i (h : i < elems.length), μ (f i) ≤ Rows.uptoBulk (elems[i]).1 := by
      obtain ⟨x0, _⟩ := key 0 (by omega);refine ⟨fun i => if h : i < len then (key i h).choose else x0, fun i hil => ?_, fun i hie => ?_⟩
      · simp only [dif_pos hil]
        exact (key i hil).choose_spec.1
      · have hil : i < len := by omega
        simp only [dif_pos hil]
        exact (key i hil).choose_spec.2
     obtain ⟨g, o, ha, hg⟩ := hsp (by omega);refine ⟨some a, cap, (List.range len).map f, by rw [List.length_map, List.length_range]; exact hcs, fun _ => ⟨g, o, by rw [ha], hg, fun j x hj => ?_⟩, by rw [List.length_map, List.length_range, ← hlen]; exact hb, ?_⟩;rotate_left
     · rw [hx];have := bulk_sum (elems.map (·.1)) (((List.range len).map f).map μ) (by simp [hlen]) (fun i h1 h2 => by simp at h1 h2 ⊢; exact hf2 i (by omega));simp only [Rows.uptoBulk]
       omega
     rw [List.getElem?_map] at hj;cases hr : (List.range len)[j]? with
     | none => rw [hr] at hj; cases hj
     | some q =>
      rw [hr] at hj;obtain ⟨h1, h2⟩ := List.getElem?_eq_some_iff.1 hr;simp at h1 h2
      subst h2;obtain rfl := Option.some.inj hj;exact hf j h1 g o ha
end
section
variable {H : Type} {enc : TypeId × Value → H} {W : World} {spare : Nat → Bool} {held : Bool} {fuel : Nat}
theorem seg {f : Field} {n : Nat} {t : TypeId} {cs : List Value} {c : Value} {z : Option (DataW H × List MemPlace)} (h : DataW.trod enc Tryd.prog W 0 spare held n f.type ((cs.drop f.offset).take (Tryd.prog.cellsOf f.type)) = z) (ht : f.type = t) (hc : Tryd.prog.cellsOf t = 1) (hd : (cs.drop f.offset).take 1 = [c]) : DataW.trod enc Tryd.prog W 0 spare held n t [c] = z := by
 subst ht; rw [hc, hd] at h; exact h
theorem zsv {n : Int} (h : (Lit.int .i64 n).wf = true) : I64 n := i64_of_wf h
theorem in_row {α : Type} {s n : Nat} {R : World → Nat → Nat → α → Prop} {p : α → Prop} {A : Option Addr} {xs : List α} (h : RowS n W s (fun w g o x => R w g o x ∧ p x) A xs) : RowS n W s R A xs ∧ ∀ x ∈ xs, p x := by
 refine ⟨fun h0 => ?_, fun x hx => ?_⟩
 · obtain ⟨g, o, ha, hg, hc⟩ := h h0;exact ⟨g, o, ha, hg, fun j x hj => (hc j x hj).1⟩
 · obtain ⟨j, hj⟩ := List.mem_iff_getElem?.1 hx;obtain ⟨g, o, ha, hg, hc⟩ := h (fun e => by rw [e] at hx; cases hx);exact (hc j x hj).2
theorem sum_one {α : Type} : ∀ (l : List α), (l.map fun _ => 1).sum = l.length
 | [] => rfl
 | _ :: l => by rw [List.map_cons, List.sum_cons, sum_one l, List.length_cons]; omega
theorem open_intsA {cs : List Value} {y : DataW H × List MemPlace} (h : DataW.trod enc Tryd.prog W 0 spare held fuel 38 cs = some y) (hl : Light Tryd.prog 38 y.1) : ∃ A c xs, cs = [.slice A xs.length c] ∧ IntsA W.heap.size W A xs ∧ 8 * xs.length ≤ 140737488351232 ∧ xs.length ≤ Rows.uptoBulk y.1 := by
 obtain ⟨A, c, xs, hcs, hr, hb, hB⟩ := open_rowS (e := 3) (s := 1) (fun w g o (x : Int) => w.cell? ⟨g, o, none⟩ = some (.int .i64 x) ∧ I64 x) (fun _ => 1) Tryd.underlying38 (by kernel_rfl) (by decide) (fun g o c n z hc1 hc hz _ => by
  obtain ⟨m, e, ez, hw⟩ := DataW.trod_int Tryd.underlying3 hz;subst e;exact ⟨m, ⟨hc 0 _ rfl, zsv hw⟩, by rw [ez]; exact Nat.le_refl _⟩) h hl
 have he : Tryd.prog.bytesOf 3 = 8 := by kernel_rfl
 rw [he] at hb;unfold reachBytes at hb;obtain ⟨h1, h2⟩ := in_row hr;exact ⟨A, c, xs, hcs, ⟨by omega, h2, h1⟩, by omega, by rw [sum_one] at hB; exact hB⟩
theorem open_insC {c : List Value} {z : DataW H × List MemPlace} (hc1 : c.length = 7) (hz : DataW.trod enc Tryd.prog W 0 spare held fuel 40 c = some z) (hl : Light Tryd.prog 40 z.1) : ∃ x B cp, c = insV x B cp ∧ InsI x ∧ 8 * x.l.length ≤ 140737488351232 ∧ IntsA W.heap.size W B x.l ∧ x.l.length + 1 ≤ Rows.uptoBulk z.1 := by
 match c, hc1 with
 | [c0, c1, c2, c3, c4, c5, c6], _ =>
  obtain ⟨zs, m2, _, hzx, _, hzn, hf⟩ := DataW.trod_struct Tryd.underlying40 hz;match zs, hzn with
  | [z0, z1, z2, z3, z4, z5, z6], _ =>
   have k1 : Tryd.prog.cellsOf 3 = 1 := by kernel_rfl
   have k2 : Tryd.prog.cellsOf 38 = 1 := by kernel_rfl
   have f0 : DataW.trod enc Tryd.prog W 0 spare held m2 3 [c0] = some z0 := seg (hf 0 _ rfl) rfl k1 rfl;have f1 : DataW.trod enc Tryd.prog W 0 spare held m2 3 [c1] = some z1 := seg (hf 1 _ rfl) rfl k1 rfl;have f2 : DataW.trod enc Tryd.prog W 0 spare held m2 3 [c2] = some z2 := seg (hf 2 _ rfl) rfl k1 rfl
   have f3 : DataW.trod enc Tryd.prog W 0 spare held m2 3 [c3] = some z3 := seg (hf 3 _ rfl) rfl k1 rfl;have f4 : DataW.trod enc Tryd.prog W 0 spare held m2 3 [c4] = some z4 := seg (hf 4 _ rfl) rfl k1 rfl;have f5 : DataW.trod enc Tryd.prog W 0 spare held m2 3 [c5] = some z5 := seg (hf 5 _ rfl) rfl k1 rfl
   have f6 : DataW.trod enc Tryd.prog W 0 spare held m2 38 [c6] = some z6 := seg (hf 6 _ rfl) rfl k2 rfl;rw [hzx] at hl;have l6 : Light Tryd.prog 38 z6.1 := hl.agg (j := 6) Tryd.underlying40 rfl rfl;obtain ⟨m0, e0, _, w0⟩ := DataW.trod_int Tryd.underlying3 f0;obtain ⟨m1, e1, _, w1⟩ := DataW.trod_int Tryd.underlying3 f1;obtain ⟨m2', e2, _, w2⟩ := DataW.trod_int Tryd.underlying3 f2
   obtain ⟨m3, e3, _, w3⟩ := DataW.trod_int Tryd.underlying3 f3;obtain ⟨m4, e4, _, w4⟩ := DataW.trod_int Tryd.underlying3 f4;obtain ⟨m5, e5, _, w5⟩ := DataW.trod_int Tryd.underlying3 f5;obtain ⟨B, cp, l, e6, hI, hb, hB⟩ := open_intsA f6 l6;cases e0; cases e1; cases e2; cases e3; cases e4; cases e5; cases e6
   exact ⟨⟨m0, m1, m2', m3, m4, m5, l⟩, B, cp, rfl, ⟨zsv w0, zsv w1, zsv w2, zsv w3, zsv w4, zsv w5⟩, hb, hI, by rw [hzx]; simp only [List.map_cons, List.map_nil, Rows.uptoBulk, Rows.uptoBulkAll]; show l.length + 1 ≤ _; omega⟩
end
section
variable {H : Type} {enc : TypeId × Value → H} {W : World} {spare : Nat → Bool} {held : Bool} {b0 : Nat} {r : Reach}
end
section
variable {H : Type} {enc : TypeId × Value → H} {W : World} {spare : Nat → Bool} {held : Bool}
variable {b0 : Nat} {r : Reach}
theorem open_ins {v : Value} {d : DataW H} {p : List MemPlace} (hv : Value.okWide Tryd.prog W r b0 40 v) (h : DataW.Trod enc Tryd.prog W 0 spare held 40 v d p) (hl : Light Tryd.prog 40 d) : ∃ x B c, v = .agg #[.int .i64 x.op, .int .i64 x.d, .int .i64 x.a, .int .i64 x.b, .int .i64 x.t, .int .i64 x.k, .slice B x.l.length c] ∧ IntsA W.heap.size W B x.l ∧ InsI x ∧ 8 * x.l.length ≤ 140737488351232 := by
 obtain ⟨cs, rfl, hsz⟩ := okWide_struct Tryd.underlying40 hv;have hsz : cs.size = 7 := hsz.trans (by kernel_rfl);obtain ⟨fuel, h⟩ := h;have h : DataW.trod enc Tryd.prog W 0 spare held fuel 40 cs.toList = some (d, p) := h;obtain ⟨x, B, c, e, hI, hl8, hA, _⟩ := open_insC (by rw [Array.length_toList]; exact hsz) h hl;refine ⟨x, B, c, ?_, hA, hI, hl8⟩;have : cs = (insV x B c).toArray := by rw [← e]
 rw [this];rfl
end
end Go.Proofs.YtmjbnhjgebjhlaaDoor

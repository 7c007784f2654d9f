/- Texts of this claim. -/
import Derived.Test.YtmjbnhjgebjhlaaDoorS20
import Derived.SizedLaws
namespace Go.Proofs.YtmjbnhjgebjhlaaDoor
open Go.ChangeShapes Go.WideShapes Go.ChangeAt Go.RowKit Go.Joins
set_option maxRecDepth 100000
section
variable {H : Type} {enc : TypeId × Value → H} {P : Program} {W : World} {spare : Nat → Bool} {held : Bool} {fuel : Nat} {t e : TypeId}
theorem cells_get {a : Addr} {s : Nat} {cs : List Value} (h : W.cells? 0 a s = some cs) : cs.length = s ∧ ∀ j v, cs[j]? = some v → W.cell? (a.add j) = some v := by
 unfold World.cells? at h;rw [if_pos (Nat.zero_le _)] at h;have hl := mapM_some_length h;rw [List.length_range] at hl;refine ⟨hl, fun j v hj => ?_⟩;have hlt := (List.getElem?_eq_some_iff.1 hj).1;have := mapM_some_get h j j (by rw [List.getElem?_range (by omega)]);rw [this, hj]
theorem spot_no {a : Addr} {v : Value} (h : W.cell? a = some v) : ∃ b o, a = ⟨b, o, none⟩ := by
 obtain ⟨b, o, s⟩ := a;cases s with
 | none => exact ⟨b, o, rfl⟩
 | some k =>
  unfold World.cell? at h;split at h
  · simp at h
  · cases h
theorem add_no (b o n : Nat) : (⟨b, o, none⟩ : Addr).add n = ⟨b, o + n, none⟩ := by
 unfold Addr.add;split
 · rename_i h; subst h; rfl
 · rfl
def Light (P : Program) (t : TypeId) (d : DataW H) : Prop := ∀ n ∈ d.weights P t, n ≤ reachBytes
theorem zkq : ∀ {ds : List (DataW H)} {d : DataW H}, d ∈ ds → ∀ n ∈ d.weights P e, n ∈ DataW.weightsAll P e ds
 | [], d, hd, n, hn => by cases hd
 | d0 :: ds, d, hd, n, hn => by
  simp only [DataW.weightsAll, List.mem_append]
  rcases List.mem_cons.1 hd with rfl | hd
  · exact Or.inl hn
  · exact Or.inr (zkq hd n hn)
theorem Light.slice {elems rest : List (DataW H)} (hu : P.underlying t = some (.slice e)) (h : Light P t (.slice elems rest)) : elems.length * P.bytesOf e ≤ reachBytes ∧ ∀ d ∈ elems, Light P e d := by
 unfold Light at h;simp only [DataW.weights, hu, List.mem_cons, List.mem_append] at h
 refine ⟨?_, fun d hd n hn => h n (Or.inr (Or.inl (zkq hd n hn)))⟩;have h1 := h _ (Or.inl rfl);refine Nat.le_trans (Nat.mul_le_mul_right _ ?_) h1;omega
theorem Light.agg {fs : Array Field} {parts : List (DataW H)} (hu : P.underlying t = some (.struct fs)) (h : Light P t (.agg parts)) {j : Nat} {f : Field} {d : DataW H} (hf : fs[j]? = some f) (hd : parts[j]? = some d) : Light P f.type d := by
 unfold Light at h;simp only [DataW.weights, hu] at h
 exact fun n hn => h n (DataW.weights_mem_each (by rw [List.getElem?_map, Array.getElem?_toList, hf]; rfl) hd n hn)
theorem bulk_sum : ∀ (ds : List (DataW H)) (l : List Nat), l.length = ds.length → (∀ i (h1 : i < l.length) (h2 : i < ds.length), l[i] ≤ Rows.uptoBulk ds[i]) → l.sum ≤ Rows.uptoBulkAll ds
 | [], [], _, _ => Nat.zero_le _
 | d :: ds, n :: l, hl, h => by
  have h0 : n ≤ Rows.uptoBulk d := h 0 (by simp) (by simp);have h1 := bulk_sum ds l (by simpa using hl) (fun i h1 h2 => h (i + 1) (by simp; omega) (by simp; omega));simp only [List.sum_cons, Rows.uptoBulkAll]
  omega
 | [], _ :: _, hl, _ => by simp at hl
 | _ :: _, [], hl, _ => by simp at hl
theorem oq {α : Type} {s : Nat} {cs : List Value} {y : DataW H × List MemPlace} (R : World → Nat → Nat → α → Prop) (μ : α → Nat) (hu : P.underlying t = some (.slice e)) (hce : P.cellsOf e = s)
 (hs : 0 < s) (hel : ∀ g o (c : List Value) n z, c.length = s → (∀ j v, c[j]? = some v → W.cell? ⟨g, o + j, none⟩ = some v) → DataW.trod enc P W 0 spare held n e c = some z → Light P e z.1 → ∃ x, R W g o x ∧ μ x ≤ Rows.uptoBulk z.1)
 (h : DataW.trod enc P W 0 spare held fuel t cs = some y) (hl : Light P t y.1) : ∃ A c xs, cs = [.slice A xs.length c] ∧ RowS W.heap.size W s R A xs ∧ xs.length * P.bytesOf e ≤ reachBytes ∧ (xs.map μ).sum ≤ Rows.uptoBulk y.1 := by
 rcases DataW.trod_slice hu h with ⟨h1, h2⟩ | ⟨a, len, cap, elems, rest, n, _, hcs, hx, _, _, _, hlen, hi, _⟩
 · exact ⟨none, 0, [], h1, fun h => absurd rfl h, by rw [List.length_nil, Nat.zero_mul]; exact Nat.zero_le _, Nat.zero_le _⟩
 · rw [hx] at hl;obtain ⟨hb, hel2⟩ := hl.slice hu;rw [List.length_map] at hb;have key0 : ∀ i (hil : i < len), ∃ c, W.cells? 0 (a.add (i * s)) s = some c ∧ DataW.trod enc P W 0 spare held n e c = some (elems[i]'(by omega)) := fun i hil => by
    have h1 := hi i hil;have hie : elems[i]? = some (elems[i]'(by omega)) := List.getElem?_eq_getElem (by omega);rw [hce, hie, Option.bind_eq_some_iff] at h1;exact h1
   have hsp : 0 < len → ∃ g o, a = ⟨g, o, none⟩ ∧ g < W.heap.size := fun h0 => by
    obtain ⟨c, hc1, _⟩ := key0 0 h0;obtain ⟨hcl, hcc⟩ := cells_get hc1;have hv0 := hcc 0 _ (List.getElem?_eq_getElem (by omega));have e0 : (a.add (0 * s)).add 0 = a := by rw [Nat.zero_mul]; rfl
    rw [e0] at hv0;obtain ⟨g, o, rfl⟩ := spot_no hv0;exact ⟨g, o, rfl, World.block_lt_of_cell? W _ hv0⟩
   have key : ∀ i (hil : i < len), ∃ x, (∀ g o, a = ⟨g, o, none⟩ → R W g (o + i * s) x) ∧ μ x ≤ Rows.uptoBulk (elems[i]'(by omega)).1 := fun i hil => by
    obtain ⟨c, hc1, hc2⟩ := key0 i hil;obtain ⟨hcl, hcc⟩ := cells_get hc1;obtain ⟨g, o, rfl, _⟩ := hsp (by omega);obtain ⟨x, hx2, hx3⟩ := hel g (o + i * s) c n _ hcl (fun j v hj => by have := hcc j v hj; rw [add_no, add_no] at this; exact this) hc2 (hel2 _ (List.mem_map_of_mem (List.getElem_mem _)));refine ⟨x, fun g' o' he => ?_, hx3⟩;cases he
    exact hx2
   by_cases h0 : len = 0
   · subst h0;exact ⟨some a, cap, [], hcs, fun h => absurd rfl h, by rw [List.length_nil, Nat.zero_mul]; exact Nat.zero_le _, Nat.zero_le _⟩
   · obtain ⟨f, hf, hf2⟩ : ∃ f : Nat → α, (∀ i, i < len → ∀ g o, a = ⟨g, o, none⟩ → R W g (o + i * s) (f i)) ∧ ∀ i (h : i < elems.length), μ (f i) ≤ Rows.uptoBulk (elems[i]).1 := by
      obtain ⟨x0, _⟩ := key 0 (by omega);refine ⟨fun i => if h : i < len then (key i h).choose else x0, fun i hil => ?_, fun i hie => ?_⟩
      · simp only [dif_pos hil]
        exact (key i hil).choose_spec.1
      · have hil : i < len := by omega
        simp only [dif_pos hil]
        exact (key i hil).choose_spec.2
     obtain ⟨g, o, ha, hg⟩ := hsp (by omega);refine ⟨some a, cap, (List.range len).map f, by rw [List.length_map, List.length_range]; exact hcs, fun _ => ⟨g, o, by rw [ha], hg, fun j x hj => ?_⟩, by rw [List.length_map, List.length_range, ← hlen]; exact hb, ?_⟩;rotate_left
     · rw [hx];have := bulk_sum (elems.map (·.1)) (((List.range len).map f).map μ) (by simp [hlen]) (fun i h1 h2 => by simp at h1 h2 ⊢; exact hf2 i (by omega));simp only [Rows.uptoBulk]
       omega
     rw [List.getElem?_map] at hj;cases hr : (List.range len)[j]? with
     | none => rw [hr] at hj; cases hj
     | some q =>
      rw [hr] at hj;obtain ⟨h1, h2⟩ := List.getElem?_eq_some_iff.1 hr;simp at h1 h2
      subst h2;obtain rfl := Option.some.inj hj;exact hf j h1 g o ha
end
section
variable {H : Type} {enc : TypeId × Value → H} {W : World} {spare : Nat → Bool} {held : Bool} {fuel : Nat}
theorem seg {f : Field} {n : Nat} {t : TypeId} {cs : List Value} {c : Value} {z : Option (DataW H × List MemPlace)} (h : DataW.trod enc Tryd.prog W 0 spare held n f.type ((cs.drop f.offset).take (Tryd.prog.cellsOf f.type)) = z) (ht : f.type = t) (hc : Tryd.prog.cellsOf t = 1) (hd : (cs.drop f.offset).take 1 = [c]) : DataW.trod enc Tryd.prog W 0 spare held n t [c] = z := by
 subst ht; rw [hc, hd] at h; exact h
theorem ko {n : Int} (h : (Lit.int .i64 n).wf = true) : I64 n := yfv h
theorem in_row {α : Type} {s n : Nat} {R : World → Nat → Nat → α → Prop} {p : α → Prop} {A : Option Addr} {xs : List α} (h : RowS n W s (fun w g o x => R w g o x ∧ p x) A xs) : RowS n W s R A xs ∧ ∀ x ∈ xs, p x := by
 refine ⟨fun h0 => ?_, fun x hx => ?_⟩
 · obtain ⟨g, o, ha, hg, hc⟩ := h h0;exact ⟨g, o, ha, hg, fun j x hj => (hc j x hj).1⟩
 · obtain ⟨j, hj⟩ := List.mem_iff_getElem?.1 hx;obtain ⟨g, o, ha, hg, hc⟩ := h (fun e => by rw [e] at hx; cases hx);exact (hc j x hj).2
theorem sum_one {α : Type} : ∀ (l : List α), (l.map fun _ => 1).sum = l.length
 | [] => rfl
 | _ :: l => by rw [List.map_cons, List.sum_cons, sum_one l, List.length_cons]; omega
theorem open_intsA {cs : List Value} {y : DataW H × List MemPlace} (h : DataW.trod enc Tryd.prog W 0 spare held fuel 38 cs = some y) (hl : Light Tryd.prog 38 y.1) : ∃ A c xs, cs = [.slice A xs.length c] ∧ IntsA W.heap.size W A xs ∧ 8 * xs.length ≤ 140737488351232 ∧ xs.length ≤ Rows.uptoBulk y.1 := by
 obtain ⟨A, c, xs, hcs, hr, hb, hB⟩ := oq (e := 3) (s := 1) (fun w g o (x : Int) => w.cell? ⟨g, o, none⟩ = some (.int .i64 x) ∧ I64 x) (fun _ => 1) Tryd.underlying38 (by kernel_rfl) (by decide) (fun g o c n z hc1 hc hz _ => by
  obtain ⟨m, e, ez, hw⟩ := DataW.trod_int Tryd.underlying3 hz;subst e;exact ⟨m, ⟨hc 0 _ rfl, ko hw⟩, by rw [ez]; exact Nat.le_refl _⟩) h hl
 have he : Tryd.prog.bytesOf 3 = 8 := by kernel_rfl
 rw [he] at hb;unfold reachBytes at hb;obtain ⟨h1, h2⟩ := in_row hr;exact ⟨A, c, xs, hcs, ⟨by omega, h2, h1⟩, by omega, by rw [sum_one] at hB; exact hB⟩
theorem open_strsA {cs : List Value} {y : DataW H × List MemPlace} (h : DataW.trod enc Tryd.prog W 0 spare held fuel 32 cs = some y) (hl : Light Tryd.prog 32 y.1) : ∃ A c xs, cs = [.slice A xs.length c] ∧ StrsA W.heap.size W A xs := by
 obtain ⟨A, c, xs, hcs, hr, hb, hB⟩ := oq (e := 9) (s := 1) (fun w g o (x : ByteArray) => w.cell? ⟨g, o, none⟩ = some (.string x) ∧ x.size ≤ maxLen) (fun _ => 0) Tryd.underlying32 (by kernel_rfl) (by decide) (fun g o c n z hc1 hc hz _ => by
  obtain ⟨m, e, _, hw⟩ := DataW.trod_string Tryd.underlying9 hz;subst e;exact ⟨m, ⟨hc 0 _ rfl, hw⟩, Nat.zero_le _⟩) h hl
 have he : Tryd.prog.bytesOf 9 = 16 := by kernel_rfl
 rw [he] at hb;unfold reachBytes at hb;obtain ⟨h1, h2⟩ := in_row hr;exact ⟨A, c, xs, hcs, ⟨by omega, h2, h1⟩⟩
theorem light_str {P : Program} {t : TypeId} {d : DataW H × List MemPlace} {b : ByteArray} {p : List MemPlace} (h : Light P t d.1) (e : d = (.lit (.string b.data.toList), p)) : b.size ≤ 140737488355328 := by
 have h1 := h b.data.toList.length (by rw [e]; unfold DataW.weights; exact List.mem_singleton.2 rfl);rw [show b.data.toList.length = b.size from Array.length_toList] at h1;unfold reachBytes at h1;omega
theorem open_consA {cs : List Value} {y : DataW H × List MemPlace} (h : DataW.trod enc Tryd.prog W 0 spare held fuel 33 cs = some y) (hl : Light Tryd.prog 33 y.1) : ∃ A c xs, cs = [.slice A xs.length c] ∧ ConsA W.heap.size W A xs ∧ ∀ x ∈ xs, x.2.size ≤ 140737488355328 := by
 obtain ⟨A, c, xs, hcs, hr, hb, hB⟩ := oq (e := 55) (s := 2) (fun w g o (x : Int × ByteArray) => xp w g o [.int .i64 x.1, .string x.2] ∧ ((I64 x.1 ∧ x.2.size ≤ maxLen) ∧ x.2.size ≤ 140737488355328)) (fun _ => 0) Tryd.underlying33 (by kernel_rfl) (by decide) (fun g o c n z hc1 hc hz hlz => by
  match c, hc1 with
  | [c0, c1], _ =>
   obtain ⟨zs, m2, _, hzx, _, hzn, hf⟩ := DataW.trod_struct Tryd.underlying55 hz;match zs, hzn with
   | [z0, z1], _ =>
    have f0 := hf 0 _ rfl;have f1 := hf 1 _ rfl;have k1 : Tryd.prog.cellsOf 3 = 1 := by kernel_rfl
    have k2 : Tryd.prog.cellsOf 9 = 1 := by kernel_rfl
    have f0 : DataW.trod enc Tryd.prog W 0 spare held m2 3 [c0] = some z0 := seg f0 rfl k1 rfl;have f1 : DataW.trod enc Tryd.prog W 0 spare held m2 9 [c1] = some z1 := seg f1 rfl k2 rfl;obtain ⟨m, e0, _, hw⟩ := DataW.trod_int Tryd.underlying3 f0;obtain ⟨b, e1, ey1, hb⟩ := DataW.trod_string Tryd.underlying9 f1;rw [hzx] at hlz
    have hl1 : Light Tryd.prog 9 z1.1 := hlz.agg (j := 1) Tryd.underlying55 rfl rfl;have hb2 : b.size ≤ 140737488355328 := light_str hl1 ey1;cases e0; cases e1
    exact ⟨(m, b), ⟨hc, ⟨ko hw, hb⟩, hb2⟩, Nat.zero_le _⟩) h hl
 have he : Tryd.prog.bytesOf 55 = 24 := by kernel_rfl
 rw [he] at hb;unfold reachBytes at hb;obtain ⟨h1, h2⟩ := in_row hr;exact ⟨A, c, xs, hcs, ⟨by omega, fun x hx => (h2 x hx).1, h1⟩, fun x hx => (h2 x hx).2⟩
theorem open_regsA {cs : List Value} {y : DataW H × List MemPlace} (h : DataW.trod enc Tryd.prog W 0 spare held fuel 35 cs = some y) (hl : Light Tryd.prog 35 y.1) : ∃ A c xs, cs = [.slice A xs.length c] ∧ RegsA W.heap.size W A xs := by
 obtain ⟨A, c, xs, hcs, hr, hb, hB⟩ := oq (e := 50) (s := 4) (fun w g o (x : LReg) => xp w g o (regV x) ∧ RegI x) (fun _ => 0) Tryd.underlying35 (by kernel_rfl) (by decide) (fun g o c n z hc1 hc hz _ => by
  match c, hc1 with
  | [c0, c1, c2, c3], _ =>
   obtain ⟨zs, m2, _, _, _, hzn, hf⟩ := DataW.trod_struct Tryd.underlying50 hz;match zs, hzn with
   | [z0, z1, z2, z3], _ =>
    have k1 : Tryd.prog.cellsOf 3 = 1 := by kernel_rfl
    have f0 : DataW.trod enc Tryd.prog W 0 spare held m2 3 [c0] = some z0 := seg (hf 0 _ rfl) rfl k1 rfl;have f1 : DataW.trod enc Tryd.prog W 0 spare held m2 3 [c1] = some z1 := seg (hf 1 _ rfl) rfl k1 rfl;have f2 : DataW.trod enc Tryd.prog W 0 spare held m2 3 [c2] = some z2 := seg (hf 2 _ rfl) rfl k1 rfl
    have f3 : DataW.trod enc Tryd.prog W 0 spare held m2 3 [c3] = some z3 := seg (hf 3 _ rfl) rfl k1 rfl;obtain ⟨m0, e0, _, w0⟩ := DataW.trod_int Tryd.underlying3 f0;obtain ⟨m1, e1, _, w1⟩ := DataW.trod_int Tryd.underlying3 f1;obtain ⟨m2', e2, _, w2⟩ := DataW.trod_int Tryd.underlying3 f2;obtain ⟨m3, e3, _, w3⟩ := DataW.trod_int Tryd.underlying3 f3;cases e0; cases e1; cases e2; cases e3
    exact ⟨⟨m0, m1, m2', m3⟩, ⟨hc, ⟨ko w0, ko w1, ko w2, ko w3⟩⟩, Nat.zero_le _⟩) h hl
 have he : Tryd.prog.bytesOf 50 = 32 := by kernel_rfl
 rw [he] at hb;unfold reachBytes at hb;obtain ⟨h1, h2⟩ := in_row hr;exact ⟨A, c, xs, hcs, ⟨by omega, h2, h1⟩⟩
theorem open_insC {c : List Value} {z : DataW H × List MemPlace} (hc1 : c.length = 7) (hz : DataW.trod enc Tryd.prog W 0 spare held fuel 40 c = some z) (hl : Light Tryd.prog 40 z.1) : ∃ x B cp, c = zlz x B cp ∧ InsI x ∧ 8 * x.l.length ≤ 140737488351232 ∧ IntsA W.heap.size W B x.l ∧ x.l.length + 1 ≤ Rows.uptoBulk z.1 := by
 match c, hc1 with
 | [c0, c1, c2, c3, c4, c5, c6], _ =>
  obtain ⟨zs, m2, _, hzx, _, hzn, hf⟩ := DataW.trod_struct Tryd.underlying40 hz;match zs, hzn with
  | [z0, z1, z2, z3, z4, z5, z6], _ =>
   have k1 : Tryd.prog.cellsOf 3 = 1 := by kernel_rfl
   have k2 : Tryd.prog.cellsOf 38 = 1 := by kernel_rfl
   have f0 : DataW.trod enc Tryd.prog W 0 spare held m2 3 [c0] = some z0 := seg (hf 0 _ rfl) rfl k1 rfl;have f1 : DataW.trod enc Tryd.prog W 0 spare held m2 3 [c1] = some z1 := seg (hf 1 _ rfl) rfl k1 rfl;have f2 : DataW.trod enc Tryd.prog W 0 spare held m2 3 [c2] = some z2 := seg (hf 2 _ rfl) rfl k1 rfl
   have f3 : DataW.trod enc Tryd.prog W 0 spare held m2 3 [c3] = some z3 := seg (hf 3 _ rfl) rfl k1 rfl;have f4 : DataW.trod enc Tryd.prog W 0 spare held m2 3 [c4] = some z4 := seg (hf 4 _ rfl) rfl k1 rfl;have f5 : DataW.trod enc Tryd.prog W 0 spare held m2 3 [c5] = some z5 := seg (hf 5 _ rfl) rfl k1 rfl
   have f6 : DataW.trod enc Tryd.prog W 0 spare held m2 38 [c6] = some z6 := seg (hf 6 _ rfl) rfl k2 rfl;rw [hzx] at hl;have l6 : Light Tryd.prog 38 z6.1 := hl.agg (j := 6) Tryd.underlying40 rfl rfl;obtain ⟨m0, e0, _, w0⟩ := DataW.trod_int Tryd.underlying3 f0;obtain ⟨m1, e1, _, w1⟩ := DataW.trod_int Tryd.underlying3 f1;obtain ⟨m2', e2, _, w2⟩ := DataW.trod_int Tryd.underlying3 f2
   obtain ⟨m3, e3, _, w3⟩ := DataW.trod_int Tryd.underlying3 f3;obtain ⟨m4, e4, _, w4⟩ := DataW.trod_int Tryd.underlying3 f4;obtain ⟨m5, e5, _, w5⟩ := DataW.trod_int Tryd.underlying3 f5;obtain ⟨B, cp, l, e6, hI, hb, hB⟩ := open_intsA f6 l6;cases e0; cases e1; cases e2; cases e3; cases e4; cases e5; cases e6
   exact ⟨⟨m0, m1, m2', m3, m4, m5, l⟩, B, cp, rfl, ⟨ko w0, ko w1, ko w2, ko w3, ko w4, ko w5⟩, hb, hI, by rw [hzx]; simp only [List.map_cons, List.map_nil, Rows.uptoBulk, Rows.uptoBulkAll]; show l.length + 1 ≤ _; omega⟩
theorem open_insA {cs : List Value} {y : DataW H × List MemPlace} (h : DataW.trod enc Tryd.prog W 0 spare held fuel 34 cs = some y) (hl : Light Tryd.prog 34 y.1) : ∃ A c xs, cs = [.slice A xs.length c] ∧ InsA W.heap.size W A xs ∧ (xs.map fun x => x.l.length + 1).sum ≤ Rows.uptoBulk y.1 ∧ 72 * xs.length ≤ 140737488351232 := by
 obtain ⟨A, c, xs, hcs, hr, hb, hB⟩ := oq (e := 40) (s := 7) (InsAt W.heap.size) (fun x => x.l.length + 1) Tryd.underlying34 (by kernel_rfl) (by decide) (fun g o c n z hc1 hc hz hlz => by
  obtain ⟨x, B, cp, rfl, hi, hb, hI, hB⟩ := open_insC hc1 hz hlz;exact ⟨x, ⟨hi, B, cp, hb, hI, hc⟩, hB⟩) h hl
 have he : Tryd.prog.bytesOf 40 = 72 := by kernel_rfl
 rw [he] at hb;unfold reachBytes at hb;exact ⟨A, c, xs, hcs, ⟨by omega, hr⟩, hB, by omega⟩
end
section
variable {H : Type} {enc : TypeId × Value → H} {W : World} {spare : Nat → Bool} {held : Bool} {b0 : Nat} {r : Reach}
theorem open_funcC {fuel : Nat} {L : List Value} {y : DataW H × List MemPlace} (hl10 : L.length = 10) (h : DataW.trod enc Tryd.prog W 0 spare held fuel 37 L = some y) (hl : Light Tryd.prog 37 y.1) : ∃ q f, (fnV q f).cells.toList = L ∧ FnA W.heap.size W q f ∧ (f.ins.map fun x => x.l.length + 1).sum ≤ Rows.uptoBulk y.1 ∧ (∀ x ∈ f.consts, x.2.size ≤ 140737488355328) ∧ 72 * f.ins.length ≤ 140737488351232 := by
 match L, hl10 with
 | [c0, c1, c2, c3, c4, c5, c6, c7, c8, c9], _ =>
  obtain ⟨zs, m2, _, hzx, _, hzn, hf⟩ := DataW.trod_struct Tryd.underlying37 h;match zs, hzn with
  | [z0, z1, z2, z3, z4, z5, z6, z7, z8, z9], _ =>
   have ki : Tryd.prog.cellsOf 3 = 1 := by kernel_rfl
   have ks : Tryd.prog.cellsOf 9 = 1 := by kernel_rfl
   have kb : Tryd.prog.cellsOf 4 = 1 := by kernel_rfl
   have k6 : Tryd.prog.cellsOf 32 = 1 := by kernel_rfl
   have k7 : Tryd.prog.cellsOf 33 = 1 := by kernel_rfl
   have k8 : Tryd.prog.cellsOf 34 = 1 := by kernel_rfl
   have k9 : Tryd.prog.cellsOf 35 = 1 := by kernel_rfl
   have f0 : DataW.trod enc Tryd.prog W 0 spare held m2 9 [c0] = some z0 := seg (hf 0 _ rfl) rfl ks rfl;have f1 : DataW.trod enc Tryd.prog W 0 spare held m2 3 [c1] = some z1 := seg (hf 1 _ rfl) rfl ki rfl;have f2 : DataW.trod enc Tryd.prog W 0 spare held m2 3 [c2] = some z2 := seg (hf 2 _ rfl) rfl ki rfl
   have f3 : DataW.trod enc Tryd.prog W 0 spare held m2 3 [c3] = some z3 := seg (hf 3 _ rfl) rfl ki rfl;have f4 : DataW.trod enc Tryd.prog W 0 spare held m2 4 [c4] = some z4 := seg (hf 4 _ rfl) rfl kb rfl;have f5 : DataW.trod enc Tryd.prog W 0 spare held m2 3 [c5] = some z5 := seg (hf 5 _ rfl) rfl ki rfl
   have f6 : DataW.trod enc Tryd.prog W 0 spare held m2 32 [c6] = some z6 := seg (hf 6 _ rfl) rfl k6 rfl;have f7 : DataW.trod enc Tryd.prog W 0 spare held m2 33 [c7] = some z7 := seg (hf 7 _ rfl) rfl k7 rfl;have f8 : DataW.trod enc Tryd.prog W 0 spare held m2 34 [c8] = some z8 := seg (hf 8 _ rfl) rfl k8 rfl
   have f9 : DataW.trod enc Tryd.prog W 0 spare held m2 35 [c9] = some z9 := seg (hf 9 _ rfl) rfl k9 rfl;have hd := congrArg Prod.fst hzx;have hd : y.1 = .agg [z0.1, z1.1, z2.1, z3.1, z4.1, z5.1, z6.1, z7.1, z8.1, z9.1] := hd;rw [hd] at hl;obtain ⟨s0, e0, _, w0⟩ := DataW.trod_string Tryd.underlying9 f0;obtain ⟨m1, e1, _, w1⟩ := DataW.trod_int Tryd.underlying3 f1
   obtain ⟨m2', e2, _, w2⟩ := DataW.trod_int Tryd.underlying3 f2;obtain ⟨m3, e3, _, w3⟩ := DataW.trod_int Tryd.underlying3 f3;obtain ⟨b4, e4, _⟩ := DataW.trod_bool Tryd.underlying4 f4;obtain ⟨m5, e5, _, w5⟩ := DataW.trod_int Tryd.underlying3 f5;obtain ⟨A6, p6, x6, e6, h6⟩ := open_strsA f6 (hl.agg (j := 6) Tryd.underlying37 rfl rfl)
   obtain ⟨A7, p7, x7, e7, h7, h7s⟩ := open_consA f7 (hl.agg (j := 7) Tryd.underlying37 rfl rfl);obtain ⟨A8, p8, x8, e8, h8, hB, h8l⟩ := open_insA f8 (hl.agg (j := 8) Tryd.underlying37 rfl rfl);obtain ⟨A9, p9, x9, e9, h9⟩ := open_regsA f9 (hl.agg (j := 9) Tryd.underlying37 rfl rfl);cases e0; cases e1; cases e2; cases e3; cases e4; cases e5; cases e6; cases e7; cases e8; cases e9
   refine ⟨⟨A6, p6, A7, p7, A8, p8, A9, p9⟩, ⟨s0, m1, m2', m3, b4, m5, x6, x7, x8, x9⟩, rfl, ⟨ko w1, ko w2, ko w3, ko w5, w0, h6, h7, h8, h9, Nat.le_refl _⟩, ?_, h7s, h8l⟩;rw [hd];simp only [Rows.uptoBulk, Rows.uptoBulkAll]
   omega
end
section
variable {H : Type} {enc : TypeId × Value → H} {W : World} {spare : Nat → Bool} {held : Bool} {fuel : Nat}
theorem open_fsA {cs : List Value} {y : DataW H × List MemPlace} (h : DataW.trod enc Tryd.prog W 0 spare held fuel 22 cs = some y) (hl : Light Tryd.prog 22 y.1) : ∃ A c fs, cs = [.slice A fs.length c] ∧ FsA W.heap.size W A fs ∧ ∀ f ∈ fs, 72 * f.ins.length ≤ 140737488351232 := by
 obtain ⟨A, c, fs, hcs, hr, hb, _⟩ := oq (e := 37) (s := 10) (fun w g o (f : LFn) => (∃ p, FnA W.heap.size w p f ∧ xp w g o (fnC p f)) ∧ ((∀ x ∈ f.consts, x.2.size ≤ 140737488355328) ∧ 72 * f.ins.length ≤ 140737488351232)) (fun _ => 0) Tryd.underlying22 (by kernel_rfl) (by decide) (fun g o c n z hc1 hc hz hlz => by
  obtain ⟨q, f, e, hF, _, hs, hil⟩ := open_funcC hc1 hz hlz;refine ⟨f, ⟨⟨q, hF, fun j v hj => hc j v ?_⟩, hs, hil⟩, Nat.zero_le _⟩;rw [← e];exact hj) h hl
 have he : Tryd.prog.bytesOf 37 = 152 := by kernel_rfl
 rw [he] at hb;obtain ⟨h1, h2⟩ := in_row hr;exact ⟨A, c, fs, hcs, ⟨by unfold reachBytes at hb; omega, h1, fun f hf => (h2 f hf).1⟩, fun f hf => (h2 f hf).2⟩
variable {b0 : Nat} {r : Reach}
theorem open_code {v : Value} {d : DataW H} {p : List MemPlace} (hv : Value.okWide Tryd.prog W r b0 24 v) (h : DataW.Trod enc Tryd.prog W 0 spare held 24 v d p) (hl : Light Tryd.prog 24 d) : ∃ A c fs, v = .agg #[.slice A fs.length c] ∧ FsA W.heap.size W A fs ∧ ∀ f ∈ fs, 72 * f.ins.length ≤ 140737488351232 := by
 obtain ⟨cs, rfl, hsz⟩ := okWide_struct Tryd.underlying24 hv;have hsz : cs.size = 1 := hsz.trans (by kernel_rfl);obtain ⟨fuel, h⟩ := h;have h : DataW.trod enc Tryd.prog W 0 spare held fuel 24 cs.toList = some (d, p) := h;obtain ⟨L, hL⟩ : ∃ L, L = cs.toList := ⟨_, rfl⟩;have hcs : cs = L.toArray := by rw [hL]
 subst hcs;rw [← hL] at h;have hl1 : L.length = 1 := by simpa using hsz
 match L, hl1 with
 | [c0], _ =>
  obtain ⟨zs, m2, _, hzx, _, hzn, hf⟩ := DataW.trod_struct Tryd.underlying24 h;match zs, hzn with
  | [z0], _ =>
   have k0 : Tryd.prog.cellsOf 22 = 1 := by kernel_rfl
   have f0 : DataW.trod enc Tryd.prog W 0 spare held m2 22 [c0] = some z0 := seg (hf 0 _ rfl) rfl k0 rfl;have hd := congrArg Prod.fst hzx;have hd : d = .agg [z0.1] := hd;rw [hd] at hl;obtain ⟨A, c, fs, e, hF, hb⟩ := open_fsA f0 (hl.agg (j := 0) Tryd.underlying24 rfl rfl);cases e
   exact ⟨A, c, fs, rfl, hF, hb⟩
end
end Go.Proofs.YtmjbnhjgebjhlaaDoor

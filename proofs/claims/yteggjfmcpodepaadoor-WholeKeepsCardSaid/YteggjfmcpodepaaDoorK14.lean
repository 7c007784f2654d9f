/- The walks of screeref02.Room, Kept, Copy: a list in a longer row whose spare room bears marks. The walk of the law WholeEuclid: quotient times divisor and the rest make the number. What the calls of the law WholeKeeps come to, whatever the numbers; lists of answers and where they lie. The walk of the law WholeRing: sums and products in any order; a difference undoes a sum; a product spreads over a sum. -/
import Derived.Test.YteggjfmcpodepaaDoorK13
namespace Go.Proofs.YteggjfmcpodepaaDoor
open Go.RowKit
set_option maxRecDepth 100000
def marks (n : Nat) : List Nat := (List.range 6).map fun j => 7770000 + (n + j)
theorem marks_len (n : Nat) : (marks n).length = 6 := rfl
theorem marks_at (n : Nat) {j : Nat} (h : j < 6) : (marks n)[j]? = some (7770000 + (n + j)) := by
  unfold marks
  rw [List.getElem?_map, List.getElem?_range h]; rfl
theorem nth_get {xs : List Nat} {k v : Nat} (h : xs[k]? = some v) : nth xs k = (v : Int) := by
  unfold nth
  rw [List.getD_eq_getElem?_getD, h]; rfl
theorem nth_left {xs ys : List Nat} {k : Nat} (h : k < xs.length) : nth (xs ++ ys) k = nth xs k := by
  unfold nth
  rw [List.getD_eq_getElem?_getD, List.getElem?_append_left h, ← List.getD_eq_getElem?_getD]
theorem nth_mark {xs : List Nat} {k : Nat} (h : xs.length ≤ k) (h2 : k < xs.length + 6) : nth (xs ++ marks xs.length) k = 7770000 + (k : Int) := by
  have e : (xs ++ marks xs.length)[k]? = some (7770000 + k) := by
    rw [List.getElem?_append_right h, marks_at _ (by omega)]
    congr 1; omega
  rw [nth_get e]; omega
/-- The list behind its marks: a block of its own. -/
def Roomy (w : World) (g : Nat) (xs : List Nat) : Prop := Row w g (xs.length + 6) (xs ++ marks xs.length)
theorem row_of_blk {w : World} {g n : Nat} {v : Value} (hv : v = .int .u64 0) (h : Blk w g 63 (List.replicate n v).toArray) : Row w g n [] :=
  ⟨⟨_, h, by simp, fun i hi => by subst hv; unfold rowOf; rw [nth_nil]; simp [hi]⟩, Nat.zero_le _⟩
theorem Row.blk {w : World} {g n : Nat} {ys : List Nat} (h : Row w g n ys) : ∃ cs, Blk w g 63 cs ∧ cs.size = n ∧ ∀ i, i < n → cs[i]? = some (rowOf ys i) := h.1
theorem Row.extX {X : Nat → Prop} {w w' : World} {g n : Nat} {ys : List Nat} (h : Row w g n ys) (e : Ext X w w') (hx : ¬ X g) : Row w' g n ys := by
  obtain ⟨cs, h1, h2, h3⟩ := h.blk
  exact ⟨⟨cs, e.blk h1 hx, h2, h3⟩, h.2⟩
theorem row_put {w w' : World} {g n k : Nat} {ys : List Nat} {cs : Array Value} {v : Nat} (h : Row w g n ys) (hc : Blk w g 63 cs) (hw : Blk w' g 63 (putCells cs k [.int .u64 (v : Int)])) (hk : ys.length = k) (hn : k < n) : Row w' g n (ys ++ [v]) := by
  obtain ⟨cs', h1, h2, h3⟩ := h.blk
  have e : cs' = cs := by have := h1.symm.trans hc; simpa using this
  subst e
  refine ⟨⟨_, hw, by rw [putCells_size, h2], fun i hi => ?_⟩, by simp; omega⟩
  simp only [putCells, Array.getElem?_setIfInBounds]
  unfold rowOf
  rw [nth_snoc]
  by_cases e : k = i
  · subst e; rw [if_pos rfl, if_pos (by omega), if_pos hk.symm]
  · rw [if_neg e, if_neg (by omega), h3 i hi]; rfl
theorem row_set {w w' : World} {g n k : Nat} {ys : List Nat} {cs : Array Value} {v : Nat} (h : Row w g n ys) (hc : Blk w g 63 cs) (hw : Blk w' g 63 (putCells cs k [.int .u64 (v : Int)])) (hk : k < ys.length) : Row w' g n (ys.set k v) := by
  obtain ⟨cs', h1, h2, h3⟩ := h.blk
  have e : cs' = cs := by have := h1.symm.trans hc; simpa using this
  subst e
  refine ⟨⟨_, hw, by rw [putCells_size, h2], fun i hi => ?_⟩, by simp; exact h.2⟩
  have h5 := h.2
  simp only [putCells, Array.getElem?_setIfInBounds]
  unfold rowOf
  rw [nth_set _ _ _ hk]
  by_cases e : k = i
  · subst e; rw [if_pos rfl, if_pos (by omega), if_pos rfl]
  · rw [if_neg e, if_neg (by omega), h3 i hi]; rfl
theorem ow_copyN {N : Nat} {ops : Array Oper} {Q : Exit → Act → World → Prop} {σ : Env} {w : World} {dst : Option Nat} {pos : String} {af : Array Edge} {Post : Value → World → Prop} {x y : Operand} {A : Option Addr} {g n d c : Nat} {xs : List Nat}
    (hx : ev σ x = some (.slice (some ⟨g, 0, none⟩) n d)) (hrow : Row w g n []) (hy : ev σ y = some (.slice A xs.length c)) (hn : Nums w A xs)
    (k : ∀ w', Row w' g n (xs.take n) → Ext (Mut [some g]) w w' → Post (goInt (xs.take n).length) w') : OW Tryd.prog N ops Q ⟨dst, .call ⟨.builtin .copy, #[x, y], #[22, 22]⟩, 3, pos, af, none⟩ σ w Post := by
  obtain ⟨w', h1, h2, h3, _⟩ := copy_nums g n d c A xs hrow hn
  refine ow_val (v := goInt (xs.take n).length) (w' := w') (fun ρ ha => ?_) (k w' h2 (Ext.grown h3))
  simp only [execOp, resolve, invoke, builtin, Sem.run_bind, Sem.run_pure, Result.andThen_ok, List.map_toArray, List.map_cons, List.map_nil, ha hx, ha hy, h1]
theorem reads_nums {w : World} {A : Option Addr} {xs : List Nat} (h : Nums w A xs) : Reads w w.heap.size 1 A xs.length (xs.map fun x : Nat => Value.int .u64 (x : Int)) := by
  refine ⟨by simp, fun h0 => ?_⟩
  obtain ⟨b, o, rfl, hb, hc⟩ := h.2 h0
  refine ⟨_, rfl, hb, fun j u hj => ?_⟩
  rw [List.getElem?_map] at hj
  obtain ⟨v, hv, rfl⟩ := Option.map_eq_some_iff.1 hj
  rw [Lib.add_plain]
  have hk : j < xs.length := (List.getElem?_eq_some_iff.1 hv).1
  rw [hc j hk, nth_get hv]
theorem all_one (xs : List Nat) : ∀ u ∈ xs.map fun x : Nat => Value.int .u64 (x : Int), u.oneCell' = true := fun u hu => by
  obtain ⟨v, _, rfl⟩ := List.mem_map.1 hu; rfl
section
variable (A : Option Addr) (c : Nat) (xs : List Nat) (w : World)
theorem room_any (hx : Nums w A xs) (hb : xs.length * 8 ≤ 140737488351232) :
    Calls Tryd.prog 40 #[.slice A xs.length c] w fun e w' => ∃ g, e = .returned (.slice (some ⟨g, 0, none⟩) xs.length (xs.length + 6)) ∧ Roomy w' g xs ∧ w.heap.size ≤ g ∧ Below w.heap.size w w' := by
  refine calls_cw Tryd.func40 rfl Tryd.ntmps40 rfl ?_
  refine cw_seq ?_
  refine cw_region ?_
  refine rs_op rfl (ow_assign rfl ?_)
  refine rs_nil ?_
  refine ew_next ?_
  refine cw_seq ?_
  refine cw_region ?_
  refine rs_op rfl (ow_move rfl ?_)
  refine rs_op rfl (ow_len Tryd.underlying22 rfl ?_)
  refine rs_op rfl (ow_add rfl rfl (wrap_i64 (by omega)) ?_)
  refine rs_op rfl (ow_make (n := xs.length + 6) Tryd.underlying22 inf63 rfl rfl rfl (by omega) (by omega) (by omega) (by omega) ?_)
  rintro g w1 hb1 he1 hg1
  have r1 := row_of_blk rfl hb1
  refine rs_op rfl (ow_assign rfl ?_)
  refine rs_nil ?_
  refine ew_next ?_
  refine cw_seq ?_
  refine cw_region ?_
  refine rs_op rfl (ow_move rfl ?_)
  refine rs_op rfl (ow_move rfl ?_)
  refine rs_op rfl (ow_copyN (xs := xs) rfl r1 rfl (hx.below he1.toBelow (Nat.le_refl _)) ?_)
  rintro w2 r2 he2
  rw [List.take_of_length_le (by omega)] at r2
  have hE2 : Ext No w w2 := he1.step he2 (fun i hi => by
    rcases hi with hi | hi
    · cases hi; exact .inr hg1
    · exact hi.elim)
  refine rs_nil ?_
  refine ew_next ?_
  refine cw_seq ?_
  refine cw_seq ?_
  refine cw_region ?_
  refine rs_op rfl (ow_move rfl ?_)
  refine rs_op rfl (ow_len Tryd.underlying22 rfl ?_)
  refine rs_op rfl (ow_assign rfl ?_)
  refine rs_nil ?_
  refine ew_next ?_
  refine cw_block ?_
  refine cw_set 4 (.int .i64 (((xs.length + 0 : Nat)) : Int)) rfl ((by rfl : (.int .i64 (((xs.length : Nat)) : Int) : Value) = _)) ?_
  refine cw_loop (ι := Nat) (fun i => [(0, .slice A xs.length c), (3, .slice (some ⟨g, 0, none⟩) (xs.length + 6) (xs.length + 6)), (4, .int .i64 (((xs.length + i : Nat)) : Int))]) (fun i w' => i ≤ 6 ∧ Row w' g (xs.length + 6) (xs ++ (marks xs.length).take i) ∧ Ext No w w') (fun i => 6 - i) 0 ⟨rfl, rfl, rfl, trivial⟩ (⟨Nat.zero_le _, by rw [List.take_zero, List.append_nil]; exact r2, hE2⟩) ?_
  rintro i w2 ⟨hi, r3, hE3⟩
  refine cw_seq ?_
  refine cw_seq ?_
  refine cw_region ?_
  refine rs_op rfl (ow_move rfl ?_)
  refine rs_op rfl (ow_move rfl ?_)
  refine rs_op rfl (ow_len Tryd.underlying22 rfl ?_)
  refine rs_op rfl (ow_lss rfl rfl ?_)
  refine rs_nil ?_
  refine ew_next ?_
  refine cw_cond rfl (fun q => ?_) (fun q => ?_)
  · have _way := True.intro
    have q := of_decide_eq_true q
    have hi6 : i < 6 := by omega
    obtain ⟨cs, hcs, hcz, _⟩ := r3.blk
    refine cw_skip ?_
    refine ew_next ?_
    refine cw_seq ?_
    refine cw_block ?_
    refine cw_region ?_
    refine rs_op rfl (ow_move rfl ?_)
    refine rs_op rfl (ow_move rfl ?_)
    refine rs_op rfl (ow_move rfl ?_)
    refine rs_op rfl (ow_conv Tryd.underlying63 Tryd.underlying3 rfl (wrap_u64 (by omega)) ?_)
    refine rs_op rfl (ow_add rfl rfl (wrap_u64 (by omega)) ?_)
    refine rs_op rfl (ow_indexAddr1 (j := xs.length + i) Tryd.underlying22 sz63 rfl rfl rfl (by omega) ?_)
    refine rs_set 25 (.pointer (some ⟨g, xs.length + i, none⟩)) rfl ((by rw [Nat.zero_add] : (.pointer (some ⟨g, 0 + (xs.length + i), none⟩) : Value) = _)) ?_
    refine rs_set 24 (.int .u64 ((7770000 + (xs.length + i) : Nat) : Int)) rfl ((by rw [show ((7770000 + (xs.length + i) : Nat) : Int) = 7770000 + ((xs.length + i : Nat) : Int) by omega] : (.int .u64 (7770000 + (((xs.length + i : Nat)) : Int)) : Value) = _)) ?_
    refine rs_op0 (ow_storeM sz63 rfl rfl hcs rfl rfl (by omega) ?_)
    rintro w4 hb4 he4
    have r4 := row_put r3 hcs hb4 (by rw [List.length_append, List.length_take, marks_len]; omega) (by omega)
    rw [List.append_assoc, show (marks xs.length).take i ++ [7770000 + (xs.length + i)] = (marks xs.length).take (i + 1) by rw [List.take_add_one, marks_at _ hi6]; rfl] at r4
    have hE4 : Ext No w w4 := hE3.step he4 (fun i hi => by
      rcases hi with hi | hi
      · cases hi; exact .inr hg1
      · exact hi.elim)
    refine rs_nil ?_
    refine ew_block_normal ?_
    refine ew_next ?_
    refine cw_region ?_
    refine rs_op rfl (ow_move rfl ?_)
    refine rs_op rfl (ow_add rfl rfl (wrap_i64 (by omega)) ?_)
    refine rs_op rfl (ow_assign rfl ?_)
    refine rs_nil ?_
    refine ew_set 4 (.int .i64 (((xs.length + (i + 1) : Nat)) : Int)) rfl ((by rw [show ((xs.length + (i + 1) : Nat) : Int) = ((xs.length + i : Nat) : Int) + 1 by omega] : (.int .i64 ((((xs.length + i : Nat)) : Int) + 1) : Value) = _)) ?_
    exact ew_round (ι := Nat) (s := fun i => [(0, .slice A xs.length c), (3, .slice (some ⟨g, 0, none⟩) (xs.length + 6) (xs.length + 6)), (4, .int .i64 (((xs.length + i : Nat)) : Int))]) (R := fun i w' => i ≤ 6 ∧ Row w' g (xs.length + 6) (xs ++ (marks xs.length).take i) ∧ Ext No w w') (m := fun i => 6 - i) (i := i) (i + 1) (by show 6 - (i + 1) < 6 - i; omega) ⟨rfl, rfl, rfl, trivial⟩ (⟨by omega, r4, hE4⟩)
  · have _way := True.intro
    have q := of_decide_eq_false q
    have hi6 : i = 6 := by omega
    subst hi6
    refine cw_exit ?_
    refine ew_then_exit ?_
    refine ew_then_exit ?_
    refine ew_block_here ?_
    refine ew_next ?_
    refine cw_seq ?_
    refine cw_region ?_
    refine rs_op rfl (ow_move rfl ?_)
    refine rs_op rfl (ow_move rfl ?_)
    refine rs_op rfl (ow_len Tryd.underlying22 rfl ?_)
    refine rs_op rfl (ow_slice (l := 0) (h := xs.length) Tryd.underlying22 sz63 rfl rfl ⟨_, rfl⟩ (Nat.zero_le _) (by omega) ?_)
    refine rs_op rfl (ow_assign rfl ?_)
    refine rs_nil ?_
    refine ew_next ?_
    refine cw_ret ?_
    refine ew_set 2 (.slice (some ⟨g, 0, none⟩) xs.length (xs.length + 6)) rfl ((by rw [if_neg (by omega)]; rfl : (.slice (if xs.length + 6 = 0 then some ⟨g, 0, none⟩ else (some ⟨g, 0, none⟩ : Option Addr).map (·.add (0 * 1))) (xs.length - 0) (xs.length + 6 - 0) : Value) = _)) ?_
    refine ew_ret (rs := [.tmp 2]) (vs := [_]) rfl ⟨rfl, trivial⟩ ?_
    exact ⟨g, rfl, r3, hg1, hE3.toBelow⟩
theorem kept_any (g : Nat) (hr : Roomy w g xs) (hx : Nums w A xs) (hb : xs.length * 8 ≤ 140737488351232) :
    Calls Tryd.prog 42 #[.slice (some ⟨g, 0, none⟩) xs.length (xs.length + 6), .slice A xs.length c] w fun e w' => e = .returned (.bool true) ∧ Below w.heap.size w w' := by
  have hcell : ∀ j, j < xs.length + 6 → w.cell? ⟨g, 0 + j, none⟩ = some (.int .u64 (nth (xs ++ marks xs.length) j)) := fun j hj => by rw [Nat.zero_add]; exact hr.cell hj
  obtain ⟨bx, ox, hA, hxc⟩ : ∃ bx ox, (0 < xs.length → A = some ⟨bx, ox, none⟩) ∧ ∀ k, k < xs.length → w.cell? ⟨bx, ox + k, none⟩ = some (.int .u64 (nth xs k)) := by
    rcases Nat.eq_zero_or_pos xs.length with h | h
    · exact ⟨0, 0, fun h' => by omega, fun k hk => by omega⟩
    · obtain ⟨b, o, h1, _, h2⟩ := hx.2 h
      exact ⟨b, o, fun _ => h1, h2⟩
  refine calls_cw Tryd.func42 rfl Tryd.ntmps42 rfl ?_
  have HF : Per (No) w (fun _ => True) := Per.true_
  have LW := Ext.refl (No) w
  have XLW : ∀ q9, (No) q9 → (No) q9 ∨ w.heap.size ≤ q9 := fun _ h => Or.inl h
  have E := Ext.refl (No) w
  replace HF := HF.on E
  replace LW := LW.step E XLW
  replace E := Ext.refl (No) w
  replace HF := HF.and ((fun b hb j hj => (hb.cell (p := ⟨bx, ox + j, none⟩) (World.block_lt_of_cell? w _ (hxc j hj)) (fun h => h.elim)).trans (hxc j hj) : Per No w (fun b => ∀ j, j < xs.length → b.cell? ⟨bx, ox + j, none⟩ = some (.int .u64 (nth xs j)))))
  replace HF := HF.on E
  replace LW := LW.step E XLW
  replace E := Ext.refl (No) w
  replace HF := HF.and ((fun b hb j hj => (hb.cell (p := ⟨g, 0 + j, none⟩) (World.block_lt_of_cell? w _ (hcell j hj)) (fun h => h.elim)).trans (hcell j hj) : Per No w (fun b => ∀ j, j < xs.length + 6 → b.cell? ⟨g, 0 + j, none⟩ = some (.int .u64 (nth (xs ++ marks xs.length) j)))))
  refine cw_seq ?_
  refine cw_region ?_
  refine rs_op rfl (ow_assign rfl ?_)
  refine rs_nil ?_
  refine ew_next ?_
  refine cw_seq ?_
  refine cw_region ?_
  refine rs_op rfl (ow_move rfl ?_)
  refine rs_op rfl (ow_move rfl ?_)
  refine rs_op rfl (ow_len Tryd.underlying22 rfl ?_)
  refine rs_op rfl (ow_add rfl rfl (wrap_i64 (by omega)) ?_)
  refine rs_set 10 (.int .i64 (((xs.length + 6 : Nat)) : Int)) rfl ((by rfl : (.int .i64 ((((xs.length : Nat)) : Int) + 6) : Value) = _)) ?_
  refine rs_op rfl (ow_slice (l := 0) (h := xs.length + 6) Tryd.underlying22 sz63 rfl rfl ⟨_, rfl⟩ (Nat.zero_le _) (Nat.le_refl _) ?_)
  refine rs_op rfl (ow_assign rfl ?_)
  refine rs_nil ?_
  refine ew_next ?_
  refine cw_seq ?_
  refine cw_seq ?_
  refine cw_region ?_
  refine rs_op rfl (ow_assign rfl ?_)
  refine rs_nil ?_
  refine ew_next ?_
  refine cw_block ?_
  refine cw_set 5 (.slice (some ⟨g, 0, none⟩) (xs.length + 6) (xs.length + 6)) rfl ((by rw [if_neg (by omega)]; rfl : (.slice (if xs.length + 6 = 0 then some ⟨g, 0, none⟩ else (some ⟨g, 0, none⟩ : Option Addr).map (·.add (0 * 1))) (xs.length + 6 - 0) (xs.length + 6 - 0) : Value) = _)) ?_
  replace HF := HF.on E
  replace LW := LW.step E XLW
  replace E := Ext.refl (No) w
  refine cw_loop (ι := Nat) (fun i => [(0, .slice (some ⟨g, 0, none⟩) xs.length (xs.length + 6)), (1, .slice A xs.length c), (5, .slice (some ⟨g, 0, none⟩) (xs.length + 6) (xs.length + 6)), (6, .int .i64 (i : Int))]) (fun i w' => Ext (No) w w' ∧ (True)) (fun i => xs.length + 6 - i) 0 ⟨rfl, rfl, rfl, rfl, trivial⟩ ⟨Ext.refl _ _, trivial⟩ ?_
  rintro i w2 ⟨M1, _⟩
  have XM1 : ∀ q9, (No) q9 → (No) q9 ∨ w.heap.size ≤ q9 := fun _ h => Or.inl h
  replace E := E.trans M1
  replace HF := HF.on E
  replace LW := LW.step E XLW
  replace E := Ext.refl (No) w2
  refine cw_seq ?_
  refine cw_seq ?_
  refine cw_region ?_
  refine rs_op rfl (ow_move rfl ?_)
  refine rs_op rfl (ow_move rfl ?_)
  refine rs_op rfl (ow_len Tryd.underlying22 rfl ?_)
  refine rs_op rfl (ow_lss rfl rfl ?_)
  refine rs_nil ?_
  refine ew_next ?_
  refine cw_cond rfl (fun q => ?_) (fun q => ?_)
  · have _way := True.intro
    have q := of_decide_eq_true q
    have hi : i < xs.length + 6 := by omega
    by_cases h : i < xs.length
    · have _way := True.intro
      refine cw_set 1 (.slice (some ⟨bx, ox, none⟩) xs.length c) rfl ((by rw [hA (by omega)] : (.slice A xs.length c : Value) = _)) ?_
      refine cw_skip ?_
      refine ew_next ?_
      refine cw_seq ?_
      refine cw_block ?_
      refine cw_seq ?_
      have OY : ∀ q9, (Mut (outM [])) q9 → q9 < (World.drew w2).heap.size → (No) q9 := fun k h _ => (Mut.none_) k h
      refine cw_drawn (No) Mut.none_ [] [] (fxAt [Fx.of (.int .i64 (i : Int)),
          Fx.of (.slice (some ⟨bx, ox, none⟩) xs.length c),
          Fx.of (.int .i64 (((xs.length : Nat)) : Int)),
          Fx.of (.bool true),
          Fx.of (.bool true),
          Fx.of (.slice (some ⟨g, 0, none⟩) (xs.length + 6) (xs.length + 6)),
          Fx.of (.int .i64 (i : Int)),
          Fx.of (.pointer (some ⟨g, 0 + i, none⟩)),
          Fx.of (.int .u64 (nth (xs ++ marks xs.length) i)),
          Fx.of (.slice (some ⟨bx, ox, none⟩) xs.length c),
          Fx.of (.int .i64 (i : Int)),
          Fx.of (.pointer (some ⟨bx, ox + i, none⟩)),
          Fx.of (.int .u64 (nth xs i)),
          Fx.of (.bool false),
          Fx.of (.bool false),
          Fx.of (.bool false),
          Fx.of (.int .i64 (i : Int)),
          Fx.of (.slice (some ⟨bx, ox, none⟩) xs.length c),
          Fx.of (.int .i64 (((xs.length : Nat)) : Int)),
          Fx.of (.bool false),
          Fx.of (.bool false),
          Fx.of undef,
          Fx.of undef,
          Fx.of undef,
          Fx.of undef,
          Fx.of undef,
          Fx.of undef,
          Fx.of undef,
          Fx.of undef,
          Fx.of (.bool false),
          Fx.of (.bool false)]) mixed rfl trivial (fun _ h => by cases h) ?_ ?_
      · refine ⟨?_, ?_, ?_, ?_, ?_, ?_, ?_, ?_, ?_, ?_, ?_, ?_, ?_, ?_, ?_, ?_, ?_, ?_, ?_, ?_, ?_, ?_, ?_, ?_, ?_, ?_, ?_, ?_, ?_, ?_, ?_, trivial⟩
        · intro vs X wq K
          have LE := K.1
          have XN := K.2.1
          have SQ := Nat.le_trans LW.size (Nat.le_trans E.size LE.size)
          exact ow_move rfl ⟨Below.refl _ _, Left.of rfl⟩
        · intro vs X wq K
          have LE := K.1
          have XN := K.2.1
          have SQ := Nat.le_trans LW.size (Nat.le_trans E.size LE.size)
          exact ow_move rfl ⟨Below.refl _ _, Left.of rfl⟩
        · intro vs X wq K
          have LE := K.1
          have XN := K.2.1
          have SQ := Nat.le_trans LW.size (Nat.le_trans E.size LE.size)
          obtain ⟨_, e1, k1⟩ := K.dep 1 rfl rfl rfl
          refine ow_set 19 (.slice (some ⟨bx, ox, none⟩) xs.length c) rfl e1 ?_
          exact ow_len Tryd.underlying22 rfl ⟨Below.refl _ _, Left.of rfl⟩
        · intro vs X wq K
          have LE := K.1
          have XN := K.2.1
          have SQ := Nat.le_trans LW.size (Nat.le_trans E.size LE.size)
          obtain ⟨_, e0, k0⟩ := K.dep 0 rfl rfl rfl
          refine ow_set 18 (.int .i64 (i : Int)) rfl e0 ?_
          obtain ⟨_, e2, k2⟩ := K.dep 2 rfl rfl rfl
          refine ow_set 20 (.int .i64 (((xs.length : Nat)) : Int)) rfl e2 ?_
          exact ow_lss rfl rfl ⟨Below.refl _ _, Left.of ((by rw [decide_eq_true (by omega)] : (.bool (decide ((i : Int) < (((xs.length : Nat)) : Int))) : Value) = _))⟩
        · intro vs X wq K
          have LE := K.1
          have XN := K.2.1
          have SQ := Nat.le_trans LW.size (Nat.le_trans E.size LE.size)
          obtain ⟨_, e3, k3⟩ := K.dep 3 rfl rfl rfl
          refine ow_set 21 (.bool true) rfl e3 ?_
          exact ow_move rfl ⟨Below.refl _ _, Left.of rfl⟩
        · intro vs X wq K
          have LE := K.1
          have XN := K.2.1
          have SQ := Nat.le_trans LW.size (Nat.le_trans E.size LE.size)
          obtain ⟨_, e4, k4⟩ := K.dep 4 rfl rfl rfl
          refine ow_set 22 (.bool true) rfl e4 ?_
          exact ow_on rfl (ow_move rfl ⟨Below.refl _ _, Left.of rfl⟩)
        · intro vs X wq K
          have LE := K.1
          have XN := K.2.1
          have SQ := Nat.le_trans LW.size (Nat.le_trans E.size LE.size)
          obtain ⟨_, e4, k4⟩ := K.dep 4 rfl rfl rfl
          refine ow_set 22 (.bool true) rfl e4 ?_
          exact ow_on rfl (ow_move rfl ⟨Below.refl _ _, Left.of rfl⟩)
        · intro vs X wq K
          have LE := K.1
          have XN := K.2.1
          have SQ := Nat.le_trans LW.size (Nat.le_trans E.size LE.size)
          obtain ⟨_, e5, k5⟩ := K.dep 5 rfl rfl rfl
          refine ow_set 23 (.slice (some ⟨g, 0, none⟩) (xs.length + 6) (xs.length + 6)) rfl e5 ?_
          obtain ⟨_, e6, k6⟩ := K.dep 6 rfl rfl rfl
          refine ow_set 24 (.int .i64 (i : Int)) rfl e6 ?_
          obtain ⟨_, e4, k4⟩ := K.dep 4 rfl rfl rfl
          refine ow_set 22 (.bool true) rfl e4 ?_
          exact ow_on rfl (ow_indexAddr1 (j := i) Tryd.underlying22 sz63 rfl rfl rfl hi ⟨Below.refl _ _, Left.of rfl⟩)
        · intro vs X wq K
          have LE := K.1
          have XN := K.2.1
          have SQ := Nat.le_trans LW.size (Nat.le_trans E.size LE.size)
          obtain ⟨_, e7, k7⟩ := K.dep 7 rfl rfl rfl
          refine ow_set 25 (.pointer (some ⟨g, 0 + i, none⟩)) rfl e7 ?_
          obtain ⟨_, e4, k4⟩ := K.dep 4 rfl rfl rfl
          refine ow_set 22 (.bool true) rfl e4 ?_
          exact ow_on rfl (ow_load1 Tryd.underlying63 rfl rfl ((HF.on (E.drew.trans (LE.mono OY))).here.2 i hi) ⟨Below.refl _ _, Left.of rfl⟩)
        · intro vs X wq K
          have LE := K.1
          have XN := K.2.1
          have SQ := Nat.le_trans LW.size (Nat.le_trans E.size LE.size)
          obtain ⟨_, e4, k4⟩ := K.dep 4 rfl rfl rfl
          refine ow_set 22 (.bool true) rfl e4 ?_
          exact ow_on rfl (ow_move rfl ⟨Below.refl _ _, Left.of rfl⟩)
        · intro vs X wq K
          have LE := K.1
          have XN := K.2.1
          have SQ := Nat.le_trans LW.size (Nat.le_trans E.size LE.size)
          obtain ⟨_, e4, k4⟩ := K.dep 4 rfl rfl rfl
          refine ow_set 22 (.bool true) rfl e4 ?_
          exact ow_on rfl (ow_move rfl ⟨Below.refl _ _, Left.of rfl⟩)
        · intro vs X wq K
          have LE := K.1
          have XN := K.2.1
          have SQ := Nat.le_trans LW.size (Nat.le_trans E.size LE.size)
          obtain ⟨_, e9, k9⟩ := K.dep 9 rfl rfl rfl
          refine ow_set 27 (.slice (some ⟨bx, ox, none⟩) xs.length c) rfl e9 ?_
          obtain ⟨_, e10, k10⟩ := K.dep 10 rfl rfl rfl
          refine ow_set 28 (.int .i64 (i : Int)) rfl e10 ?_
          obtain ⟨_, e4, k4⟩ := K.dep 4 rfl rfl rfl
          refine ow_set 22 (.bool true) rfl e4 ?_
          exact ow_on rfl (ow_indexAddr1 (j := i) Tryd.underlying22 sz63 rfl rfl rfl h ⟨Below.refl _ _, Left.of rfl⟩)
        · intro vs X wq K
          have LE := K.1
          have XN := K.2.1
          have SQ := Nat.le_trans LW.size (Nat.le_trans E.size LE.size)
          obtain ⟨_, e11, k11⟩ := K.dep 11 rfl rfl rfl
          refine ow_set 29 (.pointer (some ⟨bx, ox + i, none⟩)) rfl e11 ?_
          obtain ⟨_, e4, k4⟩ := K.dep 4 rfl rfl rfl
          refine ow_set 22 (.bool true) rfl e4 ?_
          exact ow_on rfl (ow_load1 Tryd.underlying63 rfl rfl ((HF.on (E.drew.trans (LE.mono OY))).here.1.2 i h) ⟨Below.refl _ _, Left.of rfl⟩)
        · intro vs X wq K
          have LE := K.1
          have XN := K.2.1
          have SQ := Nat.le_trans LW.size (Nat.le_trans E.size LE.size)
          obtain ⟨_, e8, k8⟩ := K.dep 8 rfl rfl rfl
          refine ow_set 26 (.int .u64 (nth (xs ++ marks xs.length) i)) rfl e8 ?_
          obtain ⟨_, e12, k12⟩ := K.dep 12 rfl rfl rfl
          refine ow_set 30 (.int .u64 (nth xs i)) rfl e12 ?_
          obtain ⟨_, e4, k4⟩ := K.dep 4 rfl rfl rfl
          refine ow_set 22 (.bool true) rfl e4 ?_
          exact ow_on rfl (ow_neq rfl rfl ⟨Below.refl _ _, Left.of ((by rw [nth_left h, bne_self_eq_false] : (.bool ((nth (xs ++ marks xs.length) i) != (nth xs i)) : Value) = _))⟩)
        · intro vs X wq K
          have LE := K.1
          have XN := K.2.1
          have SQ := Nat.le_trans LW.size (Nat.le_trans E.size LE.size)
          obtain ⟨_, e4, k4⟩ := K.dep 4 rfl rfl rfl
          refine ow_set 22 (.bool true) rfl e4 ?_
          obtain ⟨_, e13, k13⟩ := K.dep 13 rfl rfl rfl
          refine ow_set 31 (.bool false) rfl e13 ?_
          exact ow_pickT rfl rfl ⟨Below.refl _ _, Left.of rfl⟩
        · intro vs X wq K
          have LE := K.1
          have XN := K.2.1
          have SQ := Nat.le_trans LW.size (Nat.le_trans E.size LE.size)
          obtain ⟨_, e14, k14⟩ := K.dep 14 rfl rfl rfl
          refine ow_set 32 (.bool false) rfl e14 ?_
          exact ow_move rfl ⟨Below.refl _ _, Left.of rfl⟩
        · intro vs X wq K
          have LE := K.1
          have XN := K.2.1
          have SQ := Nat.le_trans LW.size (Nat.le_trans E.size LE.size)
          obtain ⟨_, e15, k15⟩ := K.dep 15 rfl rfl rfl
          refine ow_set 33 (.bool false) rfl e15 ?_
          exact ow_on rfl (ow_move rfl ⟨Below.refl _ _, Left.of rfl⟩)
        · intro vs X wq K
          have LE := K.1
          have XN := K.2.1
          have SQ := Nat.le_trans LW.size (Nat.le_trans E.size LE.size)
          obtain ⟨_, e15, k15⟩ := K.dep 15 rfl rfl rfl
          refine ow_set 33 (.bool false) rfl e15 ?_
          exact ow_on rfl (ow_move rfl ⟨Below.refl _ _, Left.of rfl⟩)
        · intro vs X wq K
          have LE := K.1
          have XN := K.2.1
          have SQ := Nat.le_trans LW.size (Nat.le_trans E.size LE.size)
          obtain ⟨_, e17, k17⟩ := K.dep 17 rfl rfl rfl
          refine ow_set 35 (.slice (some ⟨bx, ox, none⟩) xs.length c) rfl e17 ?_
          obtain ⟨_, e15, k15⟩ := K.dep 15 rfl rfl rfl
          refine ow_set 33 (.bool false) rfl e15 ?_
          exact ow_on rfl (ow_len Tryd.underlying22 rfl ⟨Below.refl _ _, Left.of rfl⟩)
        · intro vs X wq K
          have LE := K.1
          have XN := K.2.1
          have SQ := Nat.le_trans LW.size (Nat.le_trans E.size LE.size)
          obtain ⟨_, e16, k16⟩ := K.dep 16 rfl rfl rfl
          refine ow_set 34 (.int .i64 (i : Int)) rfl e16 ?_
          obtain ⟨_, e18, k18⟩ := K.dep 18 rfl rfl rfl
          refine ow_set 36 (.int .i64 (((xs.length : Nat)) : Int)) rfl e18 ?_
          obtain ⟨_, e15, k15⟩ := K.dep 15 rfl rfl rfl
          refine ow_set 33 (.bool false) rfl e15 ?_
          exact ow_on rfl (ow_geq rfl rfl ⟨Below.refl _ _, Left.of ((by rw [decide_eq_false (by omega)] : (.bool (decide ((((xs.length : Nat)) : Int) ≤ (i : Int))) : Value) = _))⟩)
        · intro vs X wq K
          have LE := K.1
          have XN := K.2.1
          have SQ := Nat.le_trans LW.size (Nat.le_trans E.size LE.size)
          obtain ⟨_, e19, k19⟩ := K.dep 19 rfl rfl rfl
          refine ow_set 37 (.bool false) rfl e19 ?_
          obtain ⟨_, e15, k15⟩ := K.dep 15 rfl rfl rfl
          refine ow_set 33 (.bool false) rfl e15 ?_
          exact ow_on rfl (ow_move rfl ⟨Below.refl _ _, Left.of rfl⟩)
        · intro vs X wq K
          have LE := K.1
          have XN := K.2.1
          have SQ := Nat.le_trans LW.size (Nat.le_trans E.size LE.size)
          obtain ⟨_, e20, k20⟩ := K.dep 20 rfl rfl rfl
          refine ow_set 38 (.bool false) rfl e20 ?_
          exact ow_off rfl ⟨Below.refl _ _, Left.of rfl⟩
        · intro vs X wq K
          have LE := K.1
          have XN := K.2.1
          have SQ := Nat.le_trans LW.size (Nat.le_trans E.size LE.size)
          obtain ⟨_, e20, k20⟩ := K.dep 20 rfl rfl rfl
          refine ow_set 38 (.bool false) rfl e20 ?_
          exact ow_off rfl ⟨Below.refl _ _, Left.of rfl⟩
        · intro vs X wq K
          have LE := K.1
          have XN := K.2.1
          have SQ := Nat.le_trans LW.size (Nat.le_trans E.size LE.size)
          obtain ⟨_, e21, k21⟩ := K.dep 21 rfl rfl rfl
          refine ow_set 39 (undef) rfl e21 ?_
          obtain ⟨_, e22, k22⟩ := K.dep 22 rfl rfl rfl
          refine ow_set 40 (undef) rfl e22 ?_
          obtain ⟨_, e20, k20⟩ := K.dep 20 rfl rfl rfl
          refine ow_set 38 (.bool false) rfl e20 ?_
          exact ow_off rfl ⟨Below.refl _ _, Left.of rfl⟩
        · intro vs X wq K
          have LE := K.1
          have XN := K.2.1
          have SQ := Nat.le_trans LW.size (Nat.le_trans E.size LE.size)
          obtain ⟨_, e23, k23⟩ := K.dep 23 rfl rfl rfl
          refine ow_set 41 (undef) rfl e23 ?_
          obtain ⟨_, e20, k20⟩ := K.dep 20 rfl rfl rfl
          refine ow_set 38 (.bool false) rfl e20 ?_
          exact ow_off rfl ⟨Below.refl _ _, Left.of rfl⟩
        · intro vs X wq K
          have LE := K.1
          have XN := K.2.1
          have SQ := Nat.le_trans LW.size (Nat.le_trans E.size LE.size)
          obtain ⟨_, e20, k20⟩ := K.dep 20 rfl rfl rfl
          refine ow_set 38 (.bool false) rfl e20 ?_
          exact ow_off rfl ⟨Below.refl _ _, Left.of rfl⟩
        · intro vs X wq K
          have LE := K.1
          have XN := K.2.1
          have SQ := Nat.le_trans LW.size (Nat.le_trans E.size LE.size)
          obtain ⟨_, e25, k25⟩ := K.dep 25 rfl rfl rfl
          refine ow_set 43 (undef) rfl e25 ?_
          obtain ⟨_, e20, k20⟩ := K.dep 20 rfl rfl rfl
          refine ow_set 38 (.bool false) rfl e20 ?_
          exact ow_off rfl ⟨Below.refl _ _, Left.of rfl⟩
        · intro vs X wq K
          have LE := K.1
          have XN := K.2.1
          have SQ := Nat.le_trans LW.size (Nat.le_trans E.size LE.size)
          obtain ⟨_, e26, k26⟩ := K.dep 26 rfl rfl rfl
          refine ow_set 44 (undef) rfl e26 ?_
          obtain ⟨_, e20, k20⟩ := K.dep 20 rfl rfl rfl
          refine ow_set 38 (.bool false) rfl e20 ?_
          exact ow_off rfl ⟨Below.refl _ _, Left.of rfl⟩
        · intro vs X wq K
          have LE := K.1
          have XN := K.2.1
          have SQ := Nat.le_trans LW.size (Nat.le_trans E.size LE.size)
          obtain ⟨_, e24, k24⟩ := K.dep 24 rfl rfl rfl
          refine ow_set 42 (undef) rfl e24 ?_
          obtain ⟨_, e27, k27⟩ := K.dep 27 rfl rfl rfl
          refine ow_set 45 (undef) rfl e27 ?_
          obtain ⟨_, e20, k20⟩ := K.dep 20 rfl rfl rfl
          refine ow_set 38 (.bool false) rfl e20 ?_
          exact ow_off rfl ⟨Below.refl _ _, Left.of rfl⟩
        · intro vs X wq K
          have LE := K.1
          have XN := K.2.1
          have SQ := Nat.le_trans LW.size (Nat.le_trans E.size LE.size)
          obtain ⟨_, e20, k20⟩ := K.dep 20 rfl rfl rfl
          refine ow_set 38 (.bool false) rfl e20 ?_
          obtain ⟨_, e28, k28⟩ := K.dep 28 rfl rfl rfl
          refine ow_set 46 (undef) rfl e28 ?_
          obtain ⟨_, e15, k15⟩ := K.dep 15 rfl rfl rfl
          refine ow_set 33 (.bool false) rfl e15 ?_
          exact ow_on rfl (ow_pickF rfl rfl ⟨Below.refl _ _, Left.of rfl⟩)
        · intro vs X wq K
          have LE := K.1
          have XN := K.2.1
          have SQ := Nat.le_trans LW.size (Nat.le_trans E.size LE.size)
          obtain ⟨_, e15, k15⟩ := K.dep 15 rfl rfl rfl
          refine ow_set 33 (.bool false) rfl e15 ?_
          obtain ⟨_, e29, k29⟩ := K.dep 29 rfl rfl rfl
          refine ow_set 47 (.bool false) rfl e29 ?_
          exact ow_pickF rfl rfl ⟨Below.refl _ _, Left.of rfl⟩
      intro vs w3 LE AO AL AF AA
      replace E := E.drew.trans (LE.mono OY)
      obtain ⟨_, e30, k30⟩ := AL.2.2.2.2.2.2.2.2.2.2.2.2.2.2.2.2.2.2.2.2.2.2.2.2.2.2.2.2.2.2.1
      refine ew_sub (τ := [(0, _), (1, _), (5, _), (6, _), (48, .bool false)]) ⟨rfl, rfl, rfl, rfl, congrArg some e30, trivial⟩ ?_
      clear AL AF AA LE AO OY e30 k30
      refine ew_next ?_
      refine cw_else rfl ?_
      refine cw_skip ?_
      refine ew_block_normal ?_
      refine ew_next ?_
      refine cw_region ?_
      refine rs_op rfl (ow_move rfl ?_)
      refine rs_op rfl (ow_add rfl rfl (wrap_i64 (by omega)) ?_)
      refine rs_op rfl (ow_assign rfl ?_)
      refine rs_nil ?_
      refine ew_set 1 (.slice A xs.length c) rfl ((by rw [hA (by omega)] : (.slice (some ⟨bx, ox, none⟩) xs.length c : Value) = _)) ?_
      exact ew_round (ι := Nat) (s := fun i => [(0, .slice (some ⟨g, 0, none⟩) xs.length (xs.length + 6)), (1, .slice A xs.length c), (5, .slice (some ⟨g, 0, none⟩) (xs.length + 6) (xs.length + 6)), (6, .int .i64 (i : Int))]) (R := fun i w' => Ext (No) w w' ∧ (True)) (m := fun i => xs.length + 6 - i) (i := i) (i + 1) (by show xs.length + 6 - (i + 1) < xs.length + 6 - i; omega) ⟨rfl, rfl, rfl, rfl, trivial⟩ ⟨M1.step E XM1, trivial⟩
    · have _way := True.intro
      refine cw_skip ?_
      refine ew_next ?_
      refine cw_seq ?_
      refine cw_block ?_
      refine cw_seq ?_
      have OY : ∀ q9, (Mut (outM [])) q9 → q9 < (World.drew w2).heap.size → (No) q9 := fun k h _ => (Mut.none_) k h
      refine cw_drawn (No) Mut.none_ [] [] (fxAt [Fx.of (.int .i64 (i : Int)),
          Fx.of (.slice A xs.length c),
          Fx.of (.int .i64 (((xs.length : Nat)) : Int)),
          Fx.of (.bool false),
          Fx.of (.bool false),
          Fx.of undef,
          Fx.of undef,
          Fx.of undef,
          Fx.of undef,
          Fx.of undef,
          Fx.of undef,
          Fx.of undef,
          Fx.of undef,
          Fx.of undef,
          Fx.of (.bool false),
          Fx.of (.bool false),
          Fx.of (.int .i64 (i : Int)),
          Fx.of (.slice A xs.length c),
          Fx.of (.int .i64 (((xs.length : Nat)) : Int)),
          Fx.of (.bool true),
          Fx.of (.bool true),
          Fx.of (.slice (some ⟨g, 0, none⟩) (xs.length + 6) (xs.length + 6)),
          Fx.of (.int .i64 (i : Int)),
          Fx.of (.pointer (some ⟨g, 0 + i, none⟩)),
          Fx.of (.int .u64 (nth (xs ++ marks xs.length) i)),
          Fx.of (.int .i64 (i : Int)),
          Fx.of (.int .u64 (i : Int)),
          Fx.of (.int .u64 (7770000 + (i : Int))),
          Fx.of (.bool false),
          Fx.of (.bool false),
          Fx.of (.bool false)]) mixed rfl trivial (fun _ h => by cases h) ?_ ?_
      · refine ⟨?_, ?_, ?_, ?_, ?_, ?_, ?_, ?_, ?_, ?_, ?_, ?_, ?_, ?_, ?_, ?_, ?_, ?_, ?_, ?_, ?_, ?_, ?_, ?_, ?_, ?_, ?_, ?_, ?_, ?_, ?_, trivial⟩
        · intro vs X wq K
          have LE := K.1
          have XN := K.2.1
          have SQ := Nat.le_trans LW.size (Nat.le_trans E.size LE.size)
          exact ow_move rfl ⟨Below.refl _ _, Left.of rfl⟩
        · intro vs X wq K
          have LE := K.1
          have XN := K.2.1
          have SQ := Nat.le_trans LW.size (Nat.le_trans E.size LE.size)
          exact ow_move rfl ⟨Below.refl _ _, Left.of rfl⟩
        · intro vs X wq K
          have LE := K.1
          have XN := K.2.1
          have SQ := Nat.le_trans LW.size (Nat.le_trans E.size LE.size)
          obtain ⟨_, e1, k1⟩ := K.dep 1 rfl rfl rfl
          refine ow_set 19 (.slice A xs.length c) rfl e1 ?_
          exact ow_len Tryd.underlying22 rfl ⟨Below.refl _ _, Left.of rfl⟩
        · intro vs X wq K
          have LE := K.1
          have XN := K.2.1
          have SQ := Nat.le_trans LW.size (Nat.le_trans E.size LE.size)
          obtain ⟨_, e0, k0⟩ := K.dep 0 rfl rfl rfl
          refine ow_set 18 (.int .i64 (i : Int)) rfl e0 ?_
          obtain ⟨_, e2, k2⟩ := K.dep 2 rfl rfl rfl
          refine ow_set 20 (.int .i64 (((xs.length : Nat)) : Int)) rfl e2 ?_
          exact ow_lss rfl rfl ⟨Below.refl _ _, Left.of ((by rw [decide_eq_false (by omega)] : (.bool (decide ((i : Int) < (((xs.length : Nat)) : Int))) : Value) = _))⟩
        · intro vs X wq K
          have LE := K.1
          have XN := K.2.1
          have SQ := Nat.le_trans LW.size (Nat.le_trans E.size LE.size)
          obtain ⟨_, e3, k3⟩ := K.dep 3 rfl rfl rfl
          refine ow_set 21 (.bool false) rfl e3 ?_
          exact ow_move rfl ⟨Below.refl _ _, Left.of rfl⟩
        · intro vs X wq K
          have LE := K.1
          have XN := K.2.1
          have SQ := Nat.le_trans LW.size (Nat.le_trans E.size LE.size)
          obtain ⟨_, e4, k4⟩ := K.dep 4 rfl rfl rfl
          refine ow_set 22 (.bool false) rfl e4 ?_
          exact ow_off rfl ⟨Below.refl _ _, Left.of rfl⟩
        · intro vs X wq K
          have LE := K.1
          have XN := K.2.1
          have SQ := Nat.le_trans LW.size (Nat.le_trans E.size LE.size)
          obtain ⟨_, e4, k4⟩ := K.dep 4 rfl rfl rfl
          refine ow_set 22 (.bool false) rfl e4 ?_
          exact ow_off rfl ⟨Below.refl _ _, Left.of rfl⟩
        · intro vs X wq K
          have LE := K.1
          have XN := K.2.1
          have SQ := Nat.le_trans LW.size (Nat.le_trans E.size LE.size)
          obtain ⟨_, e5, k5⟩ := K.dep 5 rfl rfl rfl
          refine ow_set 23 (undef) rfl e5 ?_
          obtain ⟨_, e6, k6⟩ := K.dep 6 rfl rfl rfl
          refine ow_set 24 (undef) rfl e6 ?_
          obtain ⟨_, e4, k4⟩ := K.dep 4 rfl rfl rfl
          refine ow_set 22 (.bool false) rfl e4 ?_
          exact ow_off rfl ⟨Below.refl _ _, Left.of rfl⟩
        · intro vs X wq K
          have LE := K.1
          have XN := K.2.1
          have SQ := Nat.le_trans LW.size (Nat.le_trans E.size LE.size)
          obtain ⟨_, e7, k7⟩ := K.dep 7 rfl rfl rfl
          refine ow_set 25 (undef) rfl e7 ?_
          obtain ⟨_, e4, k4⟩ := K.dep 4 rfl rfl rfl
          refine ow_set 22 (.bool false) rfl e4 ?_
          exact ow_off rfl ⟨Below.refl _ _, Left.of rfl⟩
        · intro vs X wq K
          have LE := K.1
          have XN := K.2.1
          have SQ := Nat.le_trans LW.size (Nat.le_trans E.size LE.size)
          obtain ⟨_, e4, k4⟩ := K.dep 4 rfl rfl rfl
          refine ow_set 22 (.bool false) rfl e4 ?_
          exact ow_off rfl ⟨Below.refl _ _, Left.of rfl⟩
        · intro vs X wq K
          have LE := K.1
          have XN := K.2.1
          have SQ := Nat.le_trans LW.size (Nat.le_trans E.size LE.size)
          obtain ⟨_, e4, k4⟩ := K.dep 4 rfl rfl rfl
          refine ow_set 22 (.bool false) rfl e4 ?_
          exact ow_off rfl ⟨Below.refl _ _, Left.of rfl⟩
        · intro vs X wq K
          have LE := K.1
          have XN := K.2.1
          have SQ := Nat.le_trans LW.size (Nat.le_trans E.size LE.size)
          obtain ⟨_, e9, k9⟩ := K.dep 9 rfl rfl rfl
          refine ow_set 27 (undef) rfl e9 ?_
          obtain ⟨_, e10, k10⟩ := K.dep 10 rfl rfl rfl
          refine ow_set 28 (undef) rfl e10 ?_
          obtain ⟨_, e4, k4⟩ := K.dep 4 rfl rfl rfl
          refine ow_set 22 (.bool false) rfl e4 ?_
          exact ow_off rfl ⟨Below.refl _ _, Left.of rfl⟩
        · intro vs X wq K
          have LE := K.1
          have XN := K.2.1
          have SQ := Nat.le_trans LW.size (Nat.le_trans E.size LE.size)
          obtain ⟨_, e11, k11⟩ := K.dep 11 rfl rfl rfl
          refine ow_set 29 (undef) rfl e11 ?_
          obtain ⟨_, e4, k4⟩ := K.dep 4 rfl rfl rfl
          refine ow_set 22 (.bool false) rfl e4 ?_
          exact ow_off rfl ⟨Below.refl _ _, Left.of rfl⟩
        · intro vs X wq K
          have LE := K.1
          have XN := K.2.1
          have SQ := Nat.le_trans LW.size (Nat.le_trans E.size LE.size)
          obtain ⟨_, e8, k8⟩ := K.dep 8 rfl rfl rfl
          refine ow_set 26 (undef) rfl e8 ?_
          obtain ⟨_, e12, k12⟩ := K.dep 12 rfl rfl rfl
          refine ow_set 30 (undef) rfl e12 ?_
          obtain ⟨_, e4, k4⟩ := K.dep 4 rfl rfl rfl
          refine ow_set 22 (.bool false) rfl e4 ?_
          exact ow_off rfl ⟨Below.refl _ _, Left.of rfl⟩
        · intro vs X wq K
          have LE := K.1
          have XN := K.2.1
          have SQ := Nat.le_trans LW.size (Nat.le_trans E.size LE.size)
          obtain ⟨_, e4, k4⟩ := K.dep 4 rfl rfl rfl
          refine ow_set 22 (.bool false) rfl e4 ?_
          obtain ⟨_, e13, k13⟩ := K.dep 13 rfl rfl rfl
          refine ow_set 31 (undef) rfl e13 ?_
          exact ow_pickF rfl rfl ⟨Below.refl _ _, Left.of rfl⟩
        · intro vs X wq K
          have LE := K.1
          have XN := K.2.1
          have SQ := Nat.le_trans LW.size (Nat.le_trans E.size LE.size)
          obtain ⟨_, e14, k14⟩ := K.dep 14 rfl rfl rfl
          refine ow_set 32 (.bool false) rfl e14 ?_
          exact ow_move rfl ⟨Below.refl _ _, Left.of rfl⟩
        · intro vs X wq K
          have LE := K.1
          have XN := K.2.1
          have SQ := Nat.le_trans LW.size (Nat.le_trans E.size LE.size)
          obtain ⟨_, e15, k15⟩ := K.dep 15 rfl rfl rfl
          refine ow_set 33 (.bool false) rfl e15 ?_
          exact ow_on rfl (ow_move rfl ⟨Below.refl _ _, Left.of rfl⟩)
        · intro vs X wq K
          have LE := K.1
          have XN := K.2.1
          have SQ := Nat.le_trans LW.size (Nat.le_trans E.size LE.size)
          obtain ⟨_, e15, k15⟩ := K.dep 15 rfl rfl rfl
          refine ow_set 33 (.bool false) rfl e15 ?_
          exact ow_on rfl (ow_move rfl ⟨Below.refl _ _, Left.of rfl⟩)
        · intro vs X wq K
          have LE := K.1
          have XN := K.2.1
          have SQ := Nat.le_trans LW.size (Nat.le_trans E.size LE.size)
          obtain ⟨_, e17, k17⟩ := K.dep 17 rfl rfl rfl
          refine ow_set 35 (.slice A xs.length c) rfl e17 ?_
          obtain ⟨_, e15, k15⟩ := K.dep 15 rfl rfl rfl
          refine ow_set 33 (.bool false) rfl e15 ?_
          exact ow_on rfl (ow_len Tryd.underlying22 rfl ⟨Below.refl _ _, Left.of rfl⟩)
        · intro vs X wq K
          have LE := K.1
          have XN := K.2.1
          have SQ := Nat.le_trans LW.size (Nat.le_trans E.size LE.size)
          obtain ⟨_, e16, k16⟩ := K.dep 16 rfl rfl rfl
          refine ow_set 34 (.int .i64 (i : Int)) rfl e16 ?_
          obtain ⟨_, e18, k18⟩ := K.dep 18 rfl rfl rfl
          refine ow_set 36 (.int .i64 (((xs.length : Nat)) : Int)) rfl e18 ?_
          obtain ⟨_, e15, k15⟩ := K.dep 15 rfl rfl rfl
          refine ow_set 33 (.bool false) rfl e15 ?_
          exact ow_on rfl (ow_geq rfl rfl ⟨Below.refl _ _, Left.of ((by rw [decide_eq_true (by omega)] : (.bool (decide ((((xs.length : Nat)) : Int) ≤ (i : Int))) : Value) = _))⟩)
        · intro vs X wq K
          have LE := K.1
          have XN := K.2.1
          have SQ := Nat.le_trans LW.size (Nat.le_trans E.size LE.size)
          obtain ⟨_, e19, k19⟩ := K.dep 19 rfl rfl rfl
          refine ow_set 37 (.bool true) rfl e19 ?_
          obtain ⟨_, e15, k15⟩ := K.dep 15 rfl rfl rfl
          refine ow_set 33 (.bool false) rfl e15 ?_
          exact ow_on rfl (ow_move rfl ⟨Below.refl _ _, Left.of rfl⟩)
        · intro vs X wq K
          have LE := K.1
          have XN := K.2.1
          have SQ := Nat.le_trans LW.size (Nat.le_trans E.size LE.size)
          obtain ⟨_, e20, k20⟩ := K.dep 20 rfl rfl rfl
          refine ow_set 38 (.bool true) rfl e20 ?_
          exact ow_on rfl (ow_move rfl ⟨Below.refl _ _, Left.of rfl⟩)
        · intro vs X wq K
          have LE := K.1
          have XN := K.2.1
          have SQ := Nat.le_trans LW.size (Nat.le_trans E.size LE.size)
          obtain ⟨_, e20, k20⟩ := K.dep 20 rfl rfl rfl
          refine ow_set 38 (.bool true) rfl e20 ?_
          exact ow_on rfl (ow_move rfl ⟨Below.refl _ _, Left.of rfl⟩)
        · intro vs X wq K
          have LE := K.1
          have XN := K.2.1
          have SQ := Nat.le_trans LW.size (Nat.le_trans E.size LE.size)
          obtain ⟨_, e21, k21⟩ := K.dep 21 rfl rfl rfl
          refine ow_set 39 (.slice (some ⟨g, 0, none⟩) (xs.length + 6) (xs.length + 6)) rfl e21 ?_
          obtain ⟨_, e22, k22⟩ := K.dep 22 rfl rfl rfl
          refine ow_set 40 (.int .i64 (i : Int)) rfl e22 ?_
          obtain ⟨_, e20, k20⟩ := K.dep 20 rfl rfl rfl
          refine ow_set 38 (.bool true) rfl e20 ?_
          exact ow_on rfl (ow_indexAddr1 (j := i) Tryd.underlying22 sz63 rfl rfl rfl hi ⟨Below.refl _ _, Left.of rfl⟩)
        · intro vs X wq K
          have LE := K.1
          have XN := K.2.1
          have SQ := Nat.le_trans LW.size (Nat.le_trans E.size LE.size)
          obtain ⟨_, e23, k23⟩ := K.dep 23 rfl rfl rfl
          refine ow_set 41 (.pointer (some ⟨g, 0 + i, none⟩)) rfl e23 ?_
          obtain ⟨_, e20, k20⟩ := K.dep 20 rfl rfl rfl
          refine ow_set 38 (.bool true) rfl e20 ?_
          exact ow_on rfl (ow_load1 Tryd.underlying63 rfl rfl ((HF.on (E.drew.trans (LE.mono OY))).here.2 i hi) ⟨Below.refl _ _, Left.of rfl⟩)
        · intro vs X wq K
          have LE := K.1
          have XN := K.2.1
          have SQ := Nat.le_trans LW.size (Nat.le_trans E.size LE.size)
          obtain ⟨_, e20, k20⟩ := K.dep 20 rfl rfl rfl
          refine ow_set 38 (.bool true) rfl e20 ?_
          exact ow_on rfl (ow_move rfl ⟨Below.refl _ _, Left.of rfl⟩)
        · intro vs X wq K
          have LE := K.1
          have XN := K.2.1
          have SQ := Nat.le_trans LW.size (Nat.le_trans E.size LE.size)
          obtain ⟨_, e25, k25⟩ := K.dep 25 rfl rfl rfl
          refine ow_set 43 (.int .i64 (i : Int)) rfl e25 ?_
          obtain ⟨_, e20, k20⟩ := K.dep 20 rfl rfl rfl
          refine ow_set 38 (.bool true) rfl e20 ?_
          exact ow_on rfl (ow_conv Tryd.underlying63 Tryd.underlying3 rfl (wrap_u64 (by omega)) ⟨Below.refl _ _, Left.of rfl⟩)
        · intro vs X wq K
          have LE := K.1
          have XN := K.2.1
          have SQ := Nat.le_trans LW.size (Nat.le_trans E.size LE.size)
          obtain ⟨_, e26, k26⟩ := K.dep 26 rfl rfl rfl
          refine ow_set 44 (.int .u64 (i : Int)) rfl e26 ?_
          obtain ⟨_, e20, k20⟩ := K.dep 20 rfl rfl rfl
          refine ow_set 38 (.bool true) rfl e20 ?_
          exact ow_on rfl (ow_add rfl rfl (wrap_u64 (by omega)) ⟨Below.refl _ _, Left.of rfl⟩)
        · intro vs X wq K
          have LE := K.1
          have XN := K.2.1
          have SQ := Nat.le_trans LW.size (Nat.le_trans E.size LE.size)
          obtain ⟨_, e24, k24⟩ := K.dep 24 rfl rfl rfl
          refine ow_set 42 (.int .u64 (nth (xs ++ marks xs.length) i)) rfl e24 ?_
          obtain ⟨_, e27, k27⟩ := K.dep 27 rfl rfl rfl
          refine ow_set 45 (.int .u64 (7770000 + (i : Int))) rfl e27 ?_
          obtain ⟨_, e20, k20⟩ := K.dep 20 rfl rfl rfl
          refine ow_set 38 (.bool true) rfl e20 ?_
          exact ow_on rfl (ow_neq rfl rfl ⟨Below.refl _ _, Left.of ((by rw [nth_mark (by omega) hi, bne_self_eq_false] : (.bool ((nth (xs ++ marks xs.length) i) != (7770000 + (i : Int))) : Value) = _))⟩)
        · intro vs X wq K
          have LE := K.1
          have XN := K.2.1
          have SQ := Nat.le_trans LW.size (Nat.le_trans E.size LE.size)
          obtain ⟨_, e20, k20⟩ := K.dep 20 rfl rfl rfl
          refine ow_set 38 (.bool true) rfl e20 ?_
          obtain ⟨_, e28, k28⟩ := K.dep 28 rfl rfl rfl
          refine ow_set 46 (.bool false) rfl e28 ?_
          obtain ⟨_, e15, k15⟩ := K.dep 15 rfl rfl rfl
          refine ow_set 33 (.bool false) rfl e15 ?_
          exact ow_on rfl (ow_pickT rfl rfl ⟨Below.refl _ _, Left.of rfl⟩)
        · intro vs X wq K
          have LE := K.1
          have XN := K.2.1
          have SQ := Nat.le_trans LW.size (Nat.le_trans E.size LE.size)
          obtain ⟨_, e15, k15⟩ := K.dep 15 rfl rfl rfl
          refine ow_set 33 (.bool false) rfl e15 ?_
          obtain ⟨_, e29, k29⟩ := K.dep 29 rfl rfl rfl
          refine ow_set 47 (.bool false) rfl e29 ?_
          exact ow_pickF rfl rfl ⟨Below.refl _ _, Left.of rfl⟩
      intro vs w4 LE AO AL AF AA
      replace E := E.drew.trans (LE.mono OY)
      obtain ⟨_, e30, k30⟩ := AL.2.2.2.2.2.2.2.2.2.2.2.2.2.2.2.2.2.2.2.2.2.2.2.2.2.2.2.2.2.2.1
      refine ew_sub (τ := [(0, _), (1, _), (5, _), (6, _), (48, .bool false)]) ⟨rfl, rfl, rfl, rfl, congrArg some e30, trivial⟩ ?_
      clear AL AF AA LE AO OY e30 k30
      refine ew_next ?_
      refine cw_else rfl ?_
      refine cw_skip ?_
      refine ew_block_normal ?_
      refine ew_next ?_
      refine cw_region ?_
      refine rs_op rfl (ow_move rfl ?_)
      refine rs_op rfl (ow_add rfl rfl (wrap_i64 (by omega)) ?_)
      refine rs_op rfl (ow_assign rfl ?_)
      refine rs_nil ?_
      exact ew_round (ι := Nat) (s := fun i => [(0, .slice (some ⟨g, 0, none⟩) xs.length (xs.length + 6)), (1, .slice A xs.length c), (5, .slice (some ⟨g, 0, none⟩) (xs.length + 6) (xs.length + 6)), (6, .int .i64 (i : Int))]) (R := fun i w' => Ext (No) w w' ∧ (True)) (m := fun i => xs.length + 6 - i) (i := i) (i + 1) (by show xs.length + 6 - (i + 1) < xs.length + 6 - i; omega) ⟨rfl, rfl, rfl, rfl, trivial⟩ ⟨M1.step E XM1, trivial⟩
  · have _way := True.intro
    refine cw_exit ?_
    refine ew_then_exit ?_
    refine ew_then_exit ?_
    refine ew_block_here ?_
    refine ew_next ?_
    refine cw_seq ?_
    refine cw_region ?_
    refine rs_op rfl (ow_move rfl ?_)
    refine rs_op rfl (ow_len Tryd.underlying22 rfl ?_)
    refine rs_op rfl (ow_move rfl ?_)
    refine rs_op rfl (ow_len Tryd.underlying22 rfl ?_)
    refine rs_op rfl (ow_eql rfl rfl ?_)
    refine rs_op rfl (ow_assign rfl ?_)
    refine rs_nil ?_
    refine ew_next ?_
    refine cw_ret ?_
    refine ew_set 4 (.bool true) rfl ((by rw [beq_self_eq_true] : (.bool ((((xs.length : Nat)) : Int) == (((xs.length : Nat)) : Int)) : Value) = _)) ?_
    refine ew_ret (rs := [.tmp 4]) (vs := [_]) rfl ⟨rfl, trivial⟩ ?_
    exact ⟨rfl, (LW.step E XLW).toBelow⟩
/-- Copy: the list as new memory. -/
theorem rcopy_any (n1 : Bool) (hx : Nums w A xs) (hb : xs.length * 8 ≤ 140737488351232) :
    Calls Tryd.prog 41 #[.agg #[.bool n1, .slice A xs.length c]] w fun e w' => ∃ A1 c1, e = .returned (.agg #[.bool n1, .slice A1 xs.length c1]) ∧ Own w' w.heap.size A1 c1 xs ∧ Below w.heap.size w w' := by
  have hx64 : ∀ x ∈ xs, x < 18446744073709551616 := fun x hm => by
    obtain ⟨k, hk, rfl⟩ := List.getElem_of_mem hm
    have h1 := hx.1 k
    rw [nth_get (List.getElem?_eq_getElem hk)] at h1
    omega
  refine calls_cw Tryd.func41 rfl Tryd.ntmps41 rfl ?_
  have HF : Per (No) w (fun _ => True) := Per.true_
  have LW := Ext.refl (No) w
  have XLW : ∀ q9, (No) q9 → (No) q9 ∨ w.heap.size ≤ q9 := fun _ h => Or.inl h
  have E := Ext.refl (No) w
  replace HF := HF.on E
  replace LW := LW.step E XLW
  replace E := Ext.refl (No) w
  replace HF := HF.and (Per.nums0 hx)
  refine cw_seq ?_
  refine cw_region ?_
  refine rs_op rfl (ow_boxB rfl ?_)
  intro gb1 w2 Bb1 Eb1 Gb1
  have Gb1 : _ ≤ gb1 := Nat.le_trans E.size Gb1
  have GLb1 := Nat.le_trans LW.size Gb1
  replace E := E.trans Eb1.no
  clear Eb1
  replace HF := HF.cons (some_ge Gb1)
  replace E := E.cons (some gb1)
  replace XLW := Mut.grow XLW (fun k e => Or.inr (Nat.le_trans LW.size ((some_ge Gb1) k e)))
  replace HF := HF.on E
  replace LW := LW.step E XLW
  have SB : ∀ q9, No q9 → Mut [(some gb1)] q9 := (Mut.skip Mut.nil_)
  replace HF := HF.less SB
  replace XLW := fun k h => XLW k (SB k h)
  clear SB
  replace E := Ext.refl (No) w2
  replace HF := HF.and (Per.blkN Bb1 NotIn.nil)
  clear Bb1
  refine rs_op rfl (ow_allocB zr24 ?_)
  intro gb3 w4 Bb3 Eb3 Gb3
  have Gb3 : _ ≤ gb3 := Nat.le_trans E.size Gb3
  have GLb3 := Nat.le_trans LW.size Gb3
  replace E := E.trans Eb3.no
  clear Eb3
  replace HF := HF.cons (some_ge Gb3)
  replace E := E.cons (some gb3)
  replace XLW := Mut.grow XLW (fun k e => Or.inr (Nat.le_trans LW.size ((some_ge Gb3) k e)))
  refine rs_nil ?_
  refine ew_next ?_
  refine cw_seq ?_
  have OY : ∀ q9, (Mut (outM [⟨7, gb3, 24, #[.bool false, .slice none 0 0]⟩])) q9 → q9 < (World.drew w4).heap.size → (Mut [(some gb3)]) q9 := fun k h _ => ((Mut.grow Mut.none_ Mut.head)) k h
  refine cw_drawn (Mut [(some gb3)]) (Mut.grow Mut.none_ (some_lt Bb3.lt)) [] [⟨7, gb3, 24, #[.bool false, .slice none 0 0]⟩] (fxAt [Fx.of (.pointer (some ⟨gb1, 0, none⟩)),
      Fx.of (.bool n1),
      ⟨Nat, fun gz => .slice (some ⟨gz, 0, none⟩) 0 0, fun gz b => (Blk b gz 63 #[] ∧ w.heap.size ≤ gz)⟩,
      Fx.of (.pointer (some ⟨gb1, 1, none⟩)),
      Fx.of (.slice A xs.length c),
      ⟨(Option Addr × Nat), fun (A5, c5) => .slice A5 xs.length c5, fun (A5, c5) b => (Own b w.heap.size A5 c5 xs)⟩,
      ⟨(Option Addr × Nat), fun (A5, c5) => .agg #[.bool n1, .slice A5 xs.length c5], fun (A5, c5) b => (Own b w.heap.size A5 c5 xs)⟩,
      Fx.of undef]) mixed rfl ⟨⟨Mut.head _ rfl, Bb3, fun _ h => by cases h⟩, trivial⟩ (by intro o ho; simp at ho; rcases ho with rfl <;> simp) ?_ ?_
  · refine ⟨?_, ?_, ?_, ?_, ?_, ?_, ?_, ?_, trivial⟩
    · intro vs X wq K
      have LE := K.1
      have XN := K.2.1
      have SQ := Nat.le_trans LW.size (Nat.le_trans E.size LE.size)
      exact ow_fieldAddr Tryd.underlying24 rfl sz4 (by decide) rfl ⟨Below.refl _ _, Left.of rfl⟩
    · intro vs X wq K
      have LE := K.1
      have XN := K.2.1
      have SQ := Nat.le_trans LW.size (Nat.le_trans E.size LE.size)
      obtain ⟨_, e0, k0⟩ := K.dep 0 rfl rfl rfl
      refine ow_set 3 (.pointer (some ⟨gb1, 0, none⟩)) rfl e0 ?_
      exact ow_loadF Tryd.underlying4 rfl rfl (HF.on (E.drew.trans (LE.mono OY))).here.2 rfl ⟨Below.refl _ _, Left.of rfl⟩
    · intro vs X wq K
      have LE := K.1
      have XN := K.2.1
      have SQ := Nat.le_trans LW.size (Nat.le_trans E.size LE.size)
      refine ow_build0 Tryd.underlying22 sz63 zr63 ?_
      intro gz w2 hbz hb hgz
      exact ⟨hb, ⟨gz, rfl, Per.zed XN hbz hgz SQ⟩⟩
    · intro vs X wq K
      have LE := K.1
      have XN := K.2.1
      have SQ := Nat.le_trans LW.size (Nat.le_trans E.size LE.size)
      exact ow_fieldAddr Tryd.underlying24 rfl sz22 (by decide) rfl ⟨Below.refl _ _, Left.of rfl⟩
    · intro vs X wq K
      have LE := K.1
      have XN := K.2.1
      have SQ := Nat.le_trans LW.size (Nat.le_trans E.size LE.size)
      obtain ⟨_, e3, k3⟩ := K.dep 3 rfl rfl rfl
      refine ow_set 6 (.pointer (some ⟨gb1, 1, none⟩)) rfl e3 ?_
      exact ow_loadF Tryd.underlying22 rfl rfl (HF.on (E.drew.trans (LE.mono OY))).here.2 rfl ⟨Below.refl _ _, Left.of rfl⟩
    · intro vs X wq K
      have LE := K.1
      have XN := K.2.1
      have SQ := Nat.le_trans LW.size (Nat.le_trans E.size LE.size)
      obtain ⟨gz, e2, k2⟩ := K.dep 2 rfl rfl rfl
      refine ow_set 5 (.slice (some ⟨gz, 0, none⟩) 0 0) rfl e2 ?_
      obtain ⟨_, e4, k4⟩ := K.dep 4 rfl rfl rfl
      refine ow_set 7 (.slice A xs.length c) rfl e4 ?_
      refine ow_appendE Tryd.underlying22 inf63 rfl (by decide) rfl rfl (reads_nums (HF.on (E.drew.trans (LE.mono OY))).here.1.2) (all_one _) (by unfold maxLen; omega) (by omega) ?_
      intro A5 c5 w2 hb ho5
      exact ⟨hb, ⟨(A5, c5), rfl, (Per.zown k2 hb XN SQ ho5).map (fun _ h => ⟨h, hx64⟩)⟩⟩
    · intro vs X wq K
      have LE := K.1
      have XN := K.2.1
      have SQ := Nat.le_trans LW.size (Nat.le_trans E.size LE.size)
      obtain ⟨_, e1, k1⟩ := K.dep 1 rfl rfl rfl
      refine ow_set 4 (.bool n1) rfl e1 ?_
      obtain ⟨⟨A5, c5⟩, e5, k5⟩ := K.dep 5 rfl rfl rfl
      refine ow_set 8 (.slice A5 xs.length c5) rfl e5 ?_
      exact ow_build (cs := #[.bool n1, .slice A5 xs.length c5]) pl24 zr24 rfl rfl ⟨Below.refl _ _, ⟨⟨A5, c5⟩, rfl, (k5.map (fun _ h => h))⟩⟩
    · refine ⟨_, _, _, _, _, rfl, rfl, sz24, fun vs X wq K => ⟨rfl, ?_⟩⟩
      obtain ⟨⟨A5, c5⟩, e0, _⟩ := K.dep 6 rfl rfl rfl
      exact ⟨vs 6, rfl, by rw [e0]; rfl, by rw [e0]; rfl⟩
  intro vs w5 LE AO AL AF AA
  have LBb3 := Bb3
  replace E := E.drew.trans (LE.mono OY)
  obtain ⟨⟨A5, c5⟩, e6, k6⟩ := AL.2.2.2.2.2.2.1
  obtain ⟨v0, y0, Bx, ey, ev0⟩ := AO.1
  cases ey
  obtain rfl : vs 6 = v0 := Option.some.inj ev0
  rw [e6] at Bx
  replace Bb3 : Blk w5 gb3 24 #[.bool n1, .slice A5 xs.length c5] := Bx
  clear Bx
  replace HF := HF.on E
  replace LW := LW.step E XLW
  replace E := Ext.refl (Mut [(some gb3)]) w5
  replace HF := HF.and ((k6.map (fun _ h => h) : Per (Mut [(some gb3)]) w5 (fun b => Own b w.heap.size A5 c5 xs)))
  refine ew_sub (τ := [(2, _)]) ⟨rfl, trivial⟩ ?_
  clear AL AF AA LE AO OY e6 k6 LBb3
  refine ew_next ?_
  refine cw_ret ?_
  refine ew_ret (rs := [.cell 2 24]) (vs := [_]) rfl ⟨⟨_, rfl, res_box Tryd.underlying24 rfl sz24 Bb3 rfl⟩, trivial⟩ ?_
  exact ⟨A5, c5, rfl, (HF.on E).here.2, (LW.step E XLW).toBelow⟩
end
end Go.Proofs.YteggjfmcpodepaaDoor
namespace Go.Proofs.YteggjfmcpodepaaDoor
open Go.RowKit
set_option maxRecDepth 100000
theorem rest_facts {n1 n2 : Bool} {X Y : Nat} (hY : 0 < Y) : dr n1 n2 X Y = 0 ∨ (cmpI (dr n1 n2 X Y) 0 = cmpI (sgn n2 Y) 0 ∧ cmpI (dr n1 n2 X Y) (sgn n2 Y) = 0 - cmpI (sgn n2 Y) 0) := by
  have h2 := Nat.mod_lt X hY
  unfold dr
  generalize hr : X % Y = r at *
  by_cases h0 : r = 0
  · left; subst h0; cases n1 <;> cases n2 <;> simp [sgn]
  · right
    cases n1 <;> cases n2 <;> simp only [sgn, cmpI, reduceCtorEq, if_true, if_false, Bool.false_eq_true, h0] <;> (repeat' split) <;> omega
theorem cmpI_b (i j : Int) : -1 ≤ cmpI i j ∧ cmpI i j ≤ 1 := by unfold cmpI; repeat' split; all_goals omega
/-- What DivMod leaves, of a divisor that is not nought. -/
def DivI (w : World) (i j : Int) (e : Ending) (w' : World) : Prop :=
  ∃ q r A c B d, e = .returned (.tuple #[.agg #[.bool (decide (q < 0)), .slice A (limbs q).length c], .agg #[.bool (decide (r < 0)), .slice B (limbs r).length d], .int .i64 0]) ∧ Own w' w.heap.size A c (limbs q) ∧ Own w' w.heap.size B d (limbs r) ∧ Below w.heap.size w w' ∧
    q.natAbs < B18 ^ 30 ∧ r.natAbs < B18 ^ 30 ∧ q * j + r = i ∧ (r = 0 ∨ (cmpI r 0 = cmpI j 0 ∧ cmpI r j = 0 - cmpI j 0))
theorem divI {i j : Int} (A B : Option Addr) (c d : Nat) (w : World) (hi : i.natAbs < B18 ^ 30) (hj : j.natAbs < B18 ^ 30) (h0 : j ≠ 0) (hx : Nums w A (limbs i)) (hy : Nums w B (limbs j)) :
    Calls Tryd.prog 14 #[.agg #[.bool (decide (i < 0)), .slice A (limbs i).length c], .agg #[.bool (decide (j < 0)), .slice B (limbs j).length d]] w (DivI w i j) := by
  have gi := good_limbs hi
  have gj := good_limbs hj
  have hX := val_lt (good_parts gi).1
  have hlX := (good_parts gi).2.2.1
  have hpos : 0 < (limbs j).length := by
    rw [limbs_eq]; exact digs_pos B18_two (by omega)
  have hY : 0 < val B18 (limbs j) := Nat.pos_of_ne_zero (val_ne_zero B18_two (good_parts gj).2.1 (by omega))
  have ei : sgn (decide (i < 0)) (val B18 (limbs i)) = i := by rw [← num_eq, num_limbs]
  have ej : sgn (decide (j < 0)) (val B18 (limbs j)) = j := by rw [← num_eq, num_limbs]
  have hX2 : val B18 (limbs i) < B18 ^ 30 := by have h := sgn_natAbs (decide (i < 0)) (val B18 (limbs i)); rw [ei] at h; rw [← h]; exact hi
  have hY2 : val B18 (limbs j) < B18 ^ 30 := by have h := sgn_natAbs (decide (j < 0)) (val B18 (limbs j)); rw [ej] at h; rw [← h]; exact hj
  refine (divmod_ok A B c d (limbs i) (limbs j) w (decide (i < 0)) (decide (j < 0)) hx hy gi gj hpos).mono fun e w' ⟨A1, c1, B1, d1, he, h1, h2, hb, _⟩ => ?_
  have k1 := euclid (n1 := decide (i < 0)) (n2 := decide (j < 0)) (X := val B18 (limbs i)) hY
  have k2 := rest_facts (n1 := decide (i < 0)) (n2 := decide (j < 0)) (X := val B18 (limbs i)) hY
  rw [ei, ej] at k1
  rw [ej] at k2
  exact ⟨_, _, A1, c1, B1, d1, he, h1, h2, hb, dqI hX2 hY, dr_lt hY2 hY, k1, k2⟩
section
variable (n1 n2 : Bool) (A B : Option Addr) (c d : Nat) (xs ys : List Nat) (w : World)
/-- Not in form. -/
theorem euclid_bad (hx : Nums w A xs) (hy : Nums w B ys) (hl : xs.length ≤ 9223372036854775807) (hl' : ys.length ≤ 9223372036854775807) (hok : (goodB n1 xs && goodB n2 ys) = false) :
    Calls Tryd.prog 10 #[.agg #[.bool n1, .slice A xs.length c], .agg #[.bool n2, .slice B ys.length d]] w (LawTrue w) := by
  have hform := fun w hx hy => lform_any n1 n2 A B c d xs ys w hx hy hl hl'
  have hfo : formE (goodB n1 xs) (goodB n2 ys) = 3 := by unfold formE; rw [hok]; rfl
  rw [hfo] at hform
  have hdiv := fun w hx hy => divmod_form A B c d xs ys w n1 n2 hx hy hl hl' hok
  refine calls_cw Tryd.func10 rfl Tryd.ntmps10 rfl ?_
  have HF : Per (No) w (fun _ => True) := Per.true_
  have LW := Ext.refl (No) w
  have XLW : ∀ q9, (No) q9 → (No) q9 ∨ w.heap.size ≤ q9 := fun _ h => Or.inl h
  have E := Ext.refl (No) w
  replace HF := HF.on E
  replace LW := LW.step E XLW
  replace E := Ext.refl (No) w
  replace HF := HF.and (Per.nums0 hx)
  replace HF := HF.on E
  replace LW := LW.step E XLW
  replace E := Ext.refl (No) w
  replace HF := HF.and (Per.nums0 hy)
  refine cw_seq ?_
  refine cw_region ?_
  refine rs_op rfl (ow_boxB rfl ?_)
  intro gb1 w2 Bb1 Eb1 Gb1
  have Gb1 : _ ≤ gb1 := Nat.le_trans E.size Gb1
  have GLb1 := Nat.le_trans LW.size Gb1
  replace E := E.trans Eb1.no
  clear Eb1
  replace HF := HF.cons (some_ge Gb1)
  replace E := E.cons (some gb1)
  replace XLW := Mut.grow XLW (fun k e => Or.inr (Nat.le_trans LW.size ((some_ge Gb1) k e)))
  replace HF := HF.on E
  replace LW := LW.step E XLW
  have SB : ∀ q9, No q9 → Mut [(some gb1)] q9 := (Mut.skip Mut.nil_)
  replace HF := HF.less SB
  replace XLW := fun k h => XLW k (SB k h)
  clear SB
  replace E := Ext.refl (No) w2
  replace HF := HF.and (Per.blkN Bb1 NotIn.nil)
  clear Bb1
  refine rs_op rfl (ow_boxB rfl ?_)
  intro gb3 w4 Bb3 Eb3 Gb3
  have Gb3 : _ ≤ gb3 := Nat.le_trans E.size Gb3
  have GLb3 := Nat.le_trans LW.size Gb3
  replace E := E.trans Eb3.no
  clear Eb3
  replace HF := HF.cons (some_ge Gb3)
  replace E := E.cons (some gb3)
  replace XLW := Mut.grow XLW (fun k e => Or.inr (Nat.le_trans LW.size ((some_ge Gb3) k e)))
  replace HF := HF.on E
  replace LW := LW.step E XLW
  have SB : ∀ q9, No q9 → Mut [(some gb3)] q9 := (Mut.skip Mut.nil_)
  replace HF := HF.less SB
  replace XLW := fun k h => XLW k (SB k h)
  clear SB
  replace E := Ext.refl (No) w4
  replace HF := HF.and (Per.blkN Bb3 NotIn.nil)
  clear Bb3
  refine rs_op rfl (ow_assign rfl ?_)
  refine rs_nil ?_
  refine ew_next ?_
  refine cw_seq ?_
  refine cw_seq ?_
  refine cw_region ?_
  refine rs_op rfl (ow_enter en13 rfl ((known_any _).mono ?_))
  rintro e w5 ⟨rfl, hb⟩
  refine ⟨_, rfl, ?_⟩
  have XC : ∀ q9, (No) q9 → q9 < w4.heap.size := Mut.none_
  have SC := Nat.le_trans LW.size E.size
  have SE := E.size
  have Ec := Ext.of_below hb No
  replace E := E.trans Ec.no
  clear hb Ec
  refine rs_op rfl (ow_not rfl ?_)
  refine rs_nil ?_
  refine ew_next ?_
  refine cw_else rfl ?_
  refine cw_skip ?_
  refine ew_next ?_
  refine cw_seq ?_
  refine cw_region ?_
  refine rs_op rfl (ow_loadB Tryd.underlying24 rfl sz24 rfl (HF.on E).here.1.2 rfl ?_)
  refine rs_op rfl (ow_loadB Tryd.underlying24 rfl sz24 rfl (HF.on E).here.2 rfl ?_)
  refine rs_op rfl (ow_enter en14 rfl ((hdiv _ (HF.on E).here.1.1.1.2 (HF.on E).here.1.1.2).mono ?_))
  rintro e w6 ⟨A1, c1, A2, c2, rfl, _, _, hb, _⟩
  refine ⟨_, rfl, ?_⟩
  have XC : ∀ q9, (No) q9 → q9 < w5.heap.size := Mut.none_
  have SC := Nat.le_trans LW.size E.size
  have SE := E.size
  have Ec := Ext.of_below hb No
  replace E := E.trans Ec.no
  clear hb Ec
  refine rs_op rfl (ow_move rfl ?_)
  refine rs_op rfl (ow_extract rfl rfl ?_)
  refine rs_op rfl (ow_extract rfl rfl ?_)
  refine rs_op rfl (ow_extract rfl rfl ?_)
  refine rs_op rfl (ow_allocB zr24 ?_)
  intro gb7 w8 Bb7 Eb7 Gb7
  have Gb7 : _ ≤ gb7 := Nat.le_trans E.size Gb7
  have GLb7 := Nat.le_trans LW.size Gb7
  replace E := E.trans Eb7.no
  clear Eb7
  replace HF := HF.cons (some_ge Gb7)
  replace E := E.cons (some gb7)
  replace XLW := Mut.grow XLW (fun k e => Or.inr (Nat.le_trans LW.size ((some_ge Gb7) k e)))
  refine rs_op rfl (ow_allocB zr24 ?_)
  intro gb9 w10 Bb9 Eb9 Gb9
  have Db9_b7 : Apart (some gb9) (some gb7) := Apart.of_lt (some_lt Bb7.lt) Gb9
  have Db7_b9 := Db9_b7.symm
  have Gb9 : _ ≤ gb9 := Nat.le_trans E.size Gb9
  have GLb9 := Nat.le_trans LW.size Gb9
  replace Bb7 := Bb7.extN Eb9 NotIn.nil
  replace E := E.trans Eb9.no
  clear Eb9
  replace HF := HF.cons (some_ge Gb9)
  replace E := E.cons (some gb9)
  replace XLW := Mut.grow XLW (fun k e => Or.inr (Nat.le_trans LW.size ((some_ge Gb9) k e)))
  refine rs_op0 (ow_storeM sz24 rfl rfl Bb7 rfl rfl (Nat.le_of_ble_eq_true rfl) ?_)
  intro w11 Bx Eb7
  replace Bb7 := Bx
  clear Bx
  replace Bb9 := Bb9.extN Eb7 (NotIn.cons Db9_b7 NotIn.nil)
  replace E := E.step1 Eb7 (Mut.tail Mut.head)
  clear Eb7
  replace HF := HF.on E
  replace LW := LW.step E XLW
  have SB : ∀ q9, Mut [(some gb9)] q9 → Mut [(some gb9), (some gb7)] q9 := (Mut.keep (Mut.skip Mut.nil_))
  replace HF := HF.less SB
  replace XLW := fun k h => XLW k (SB k h)
  clear SB
  replace E := Ext.refl (Mut [(some gb9)]) w11
  replace HF := HF.and (Per.blkN Bb7 (NotIn.cons Db7_b9 NotIn.nil))
  clear Bb7
  refine rs_op0 (ow_storeM sz24 rfl rfl Bb9 rfl rfl (Nat.le_of_ble_eq_true rfl) ?_)
  intro w12 Bx Eb9
  replace Bb9 := Bx
  clear Bx
  replace E := E.step1 Eb9 Mut.head
  clear Eb9
  replace HF := HF.on E
  replace LW := LW.step E XLW
  have SB : ∀ q9, No q9 → Mut [(some gb9)] q9 := (Mut.skip Mut.nil_)
  replace HF := HF.less SB
  replace XLW := fun k h => XLW k (SB k h)
  clear SB
  replace E := Ext.refl (No) w12
  replace HF := HF.and (Per.blkN Bb9 NotIn.nil)
  clear Bb9
  refine rs_op rfl (ow_assign rfl ?_)
  refine rs_nil ?_
  refine ew_next ?_
  refine cw_seq ?_
  refine cw_seq ?_
  refine cw_region ?_
  refine rs_op rfl (ow_move rfl ?_)
  refine rs_op rfl (ow_neq rfl rfl ?_)
  refine rs_nil ?_
  refine ew_next ?_
  refine cw_then rfl ?_
  refine cw_seq ?_
  refine cw_region ?_
  refine rs_op rfl (ow_loadB Tryd.underlying24 rfl sz24 rfl (HF.on E).here.1.1.1.2 rfl ?_)
  refine rs_op rfl (ow_loadB Tryd.underlying24 rfl sz24 rfl (HF.on E).here.1.1.2 rfl ?_)
  refine rs_op rfl (ow_enter en15 rfl ((hform _ (HF.on E).here.1.1.1.1.1.2 (HF.on E).here.1.1.1.1.2).mono ?_))
  rintro e w13 ⟨rfl, hb⟩
  refine ⟨_, rfl, ?_⟩
  have XC : ∀ q9, (No) q9 → q9 < w12.heap.size := Mut.none_
  have SC := Nat.le_trans LW.size E.size
  have SE := E.size
  have Ec := Ext.of_below hb No
  replace E := E.trans Ec.no
  clear hb Ec
  refine rs_op rfl (ow_neq rfl rfl ?_)
  refine rs_op rfl (ow_move rfl ?_)
  refine rs_op rfl (ow_on rfl (ow_move rfl ?_))
  refine rs_op rfl (ow_on rfl (ow_eql rfl rfl ?_))
  refine rs_op rfl (ow_pickT rfl rfl ?_)
  refine rs_op rfl (ow_move rfl ?_)
  refine rs_op rfl (ow_off rfl ?_)
  refine rs_op rfl (ow_off rfl ?_)
  refine rs_op rfl (ow_off rfl ?_)
  refine rs_op rfl (ow_off rfl ?_)
  refine rs_op rfl (ow_off rfl ?_)
  refine rs_op rfl (ow_offU rfl rfl ?_)
  refine rs_op rfl (ow_offU rfl rfl ?_)
  refine rs_op rfl (ow_off rfl ?_)
  refine rs_op rfl (ow_off rfl ?_)
  refine rs_op rfl (ow_offU rfl rfl ?_)
  refine rs_op rfl (ow_offU rfl rfl ?_)
  refine rs_op rfl (ow_offU rfl rfl ?_)
  refine rs_op rfl (ow_offU rfl rfl ?_)
  refine rs_op rfl (ow_off rfl ?_)
  refine rs_op rfl (ow_pickT rfl rfl ?_)
  refine rs_op rfl (ow_assign rfl ?_)
  refine rs_nil ?_
  refine ew_next ?_
  refine cw_ret ?_
  refine ew_then_ret ?_
  refine ew_ret (rs := [.tmp 4]) (vs := [_]) rfl ⟨rfl, trivial⟩ ?_
  exact ⟨rfl, (LW.step E XLW).toBelow⟩
/-- The divisor is nought. -/
theorem euclid_zero (hx : Nums w A xs) (hy : Nums w B []) (hg : goodB n1 xs = true) (hk : goodB n2 [] = true) :
    Calls Tryd.prog 10 #[.agg #[.bool n1, .slice A xs.length c], .agg #[.bool n2, .slice B 0 d]] w (LawTrue w) := by
  have hl := (good_parts hg).2.2.1
  have hform := fun w hx hy => lform_any n1 n2 A B c d xs [] w hx hy (by omega) (by simp)
  rw [hg, hk] at hform
  have hdiv := fun w hx hy => divmod_zero A B c d xs [] w n1 n2 hx hy hg hk rfl
  refine calls_cw Tryd.func10 rfl Tryd.ntmps10 rfl ?_
  have HF : Per (No) w (fun _ => True) := Per.true_
  have LW := Ext.refl (No) w
  have XLW : ∀ q9, (No) q9 → (No) q9 ∨ w.heap.size ≤ q9 := fun _ h => Or.inl h
  have E := Ext.refl (No) w
  replace HF := HF.on E
  replace LW := LW.step E XLW
  replace E := Ext.refl (No) w
  replace HF := HF.and (Per.nums0 hx)
  replace HF := HF.on E
  replace LW := LW.step E XLW
  replace E := Ext.refl (No) w
  replace HF := HF.and (Per.nums0 hy)
  refine cw_seq ?_
  refine cw_region ?_
  refine rs_op rfl (ow_boxB rfl ?_)
  intro gb1 w2 Bb1 Eb1 Gb1
  have Gb1 : _ ≤ gb1 := Nat.le_trans E.size Gb1
  have GLb1 := Nat.le_trans LW.size Gb1
  replace E := E.trans Eb1.no
  clear Eb1
  replace HF := HF.cons (some_ge Gb1)
  replace E := E.cons (some gb1)
  replace XLW := Mut.grow XLW (fun k e => Or.inr (Nat.le_trans LW.size ((some_ge Gb1) k e)))
  replace HF := HF.on E
  replace LW := LW.step E XLW
  have SB : ∀ q9, No q9 → Mut [(some gb1)] q9 := (Mut.skip Mut.nil_)
  replace HF := HF.less SB
  replace XLW := fun k h => XLW k (SB k h)
  clear SB
  replace E := Ext.refl (No) w2
  replace HF := HF.and (Per.blkN Bb1 NotIn.nil)
  clear Bb1
  refine rs_op rfl (ow_boxB rfl ?_)
  intro gb3 w4 Bb3 Eb3 Gb3
  have Gb3 : _ ≤ gb3 := Nat.le_trans E.size Gb3
  have GLb3 := Nat.le_trans LW.size Gb3
  replace E := E.trans Eb3.no
  clear Eb3
  replace HF := HF.cons (some_ge Gb3)
  replace E := E.cons (some gb3)
  replace XLW := Mut.grow XLW (fun k e => Or.inr (Nat.le_trans LW.size ((some_ge Gb3) k e)))
  replace HF := HF.on E
  replace LW := LW.step E XLW
  have SB : ∀ q9, No q9 → Mut [(some gb3)] q9 := (Mut.skip Mut.nil_)
  replace HF := HF.less SB
  replace XLW := fun k h => XLW k (SB k h)
  clear SB
  replace E := Ext.refl (No) w4
  replace HF := HF.and (Per.blkN Bb3 NotIn.nil)
  clear Bb3
  refine rs_op rfl (ow_assign rfl ?_)
  refine rs_nil ?_
  refine ew_next ?_
  refine cw_seq ?_
  refine cw_seq ?_
  refine cw_region ?_
  refine rs_op rfl (ow_enter en13 rfl ((known_any _).mono ?_))
  rintro e w5 ⟨rfl, hb⟩
  refine ⟨_, rfl, ?_⟩
  have XC : ∀ q9, (No) q9 → q9 < w4.heap.size := Mut.none_
  have SC := Nat.le_trans LW.size E.size
  have SE := E.size
  have Ec := Ext.of_below hb No
  replace E := E.trans Ec.no
  clear hb Ec
  refine rs_op rfl (ow_not rfl ?_)
  refine rs_nil ?_
  refine ew_next ?_
  refine cw_else rfl ?_
  refine cw_skip ?_
  refine ew_next ?_
  refine cw_seq ?_
  refine cw_region ?_
  refine rs_op rfl (ow_loadB Tryd.underlying24 rfl sz24 rfl (HF.on E).here.1.2 rfl ?_)
  refine rs_op rfl (ow_loadB Tryd.underlying24 rfl sz24 rfl (HF.on E).here.2 rfl ?_)
  refine rs_op rfl (ow_enter en14 rfl ((hdiv _ (HF.on E).here.1.1.1.2 (HF.on E).here.1.1.2).mono ?_))
  rintro e w6 ⟨A1, c1, A2, c2, rfl, _, _, hb, _⟩
  refine ⟨_, rfl, ?_⟩
  have XC : ∀ q9, (No) q9 → q9 < w5.heap.size := Mut.none_
  have SC := Nat.le_trans LW.size E.size
  have SE := E.size
  have Ec := Ext.of_below hb No
  replace E := E.trans Ec.no
  clear hb Ec
  refine rs_op rfl (ow_move rfl ?_)
  refine rs_op rfl (ow_extract rfl rfl ?_)
  refine rs_op rfl (ow_extract rfl rfl ?_)
  refine rs_op rfl (ow_extract rfl rfl ?_)
  refine rs_op rfl (ow_allocB zr24 ?_)
  intro gb7 w8 Bb7 Eb7 Gb7
  have Gb7 : _ ≤ gb7 := Nat.le_trans E.size Gb7
  have GLb7 := Nat.le_trans LW.size Gb7
  replace E := E.trans Eb7.no
  clear Eb7
  replace HF := HF.cons (some_ge Gb7)
  replace E := E.cons (some gb7)
  replace XLW := Mut.grow XLW (fun k e => Or.inr (Nat.le_trans LW.size ((some_ge Gb7) k e)))
  refine rs_op rfl (ow_allocB zr24 ?_)
  intro gb9 w10 Bb9 Eb9 Gb9
  have Db9_b7 : Apart (some gb9) (some gb7) := Apart.of_lt (some_lt Bb7.lt) Gb9
  have Db7_b9 := Db9_b7.symm
  have Gb9 : _ ≤ gb9 := Nat.le_trans E.size Gb9
  have GLb9 := Nat.le_trans LW.size Gb9
  replace Bb7 := Bb7.extN Eb9 NotIn.nil
  replace E := E.trans Eb9.no
  clear Eb9
  replace HF := HF.cons (some_ge Gb9)
  replace E := E.cons (some gb9)
  replace XLW := Mut.grow XLW (fun k e => Or.inr (Nat.le_trans LW.size ((some_ge Gb9) k e)))
  refine rs_op0 (ow_storeM sz24 rfl rfl Bb7 rfl rfl (Nat.le_of_ble_eq_true rfl) ?_)
  intro w11 Bx Eb7
  replace Bb7 := Bx
  clear Bx
  replace Bb9 := Bb9.extN Eb7 (NotIn.cons Db9_b7 NotIn.nil)
  replace E := E.step1 Eb7 (Mut.tail Mut.head)
  clear Eb7
  replace HF := HF.on E
  replace LW := LW.step E XLW
  have SB : ∀ q9, Mut [(some gb9)] q9 → Mut [(some gb9), (some gb7)] q9 := (Mut.keep (Mut.skip Mut.nil_))
  replace HF := HF.less SB
  replace XLW := fun k h => XLW k (SB k h)
  clear SB
  replace E := Ext.refl (Mut [(some gb9)]) w11
  replace HF := HF.and (Per.blkN Bb7 (NotIn.cons Db7_b9 NotIn.nil))
  clear Bb7
  refine rs_op0 (ow_storeM sz24 rfl rfl Bb9 rfl rfl (Nat.le_of_ble_eq_true rfl) ?_)
  intro w12 Bx Eb9
  replace Bb9 := Bx
  clear Bx
  replace E := E.step1 Eb9 Mut.head
  clear Eb9
  replace HF := HF.on E
  replace LW := LW.step E XLW
  have SB : ∀ q9, No q9 → Mut [(some gb9)] q9 := (Mut.skip Mut.nil_)
  replace HF := HF.less SB
  replace XLW := fun k h => XLW k (SB k h)
  clear SB
  replace E := Ext.refl (No) w12
  replace HF := HF.and (Per.blkN Bb9 NotIn.nil)
  clear Bb9
  refine rs_op rfl (ow_assign rfl ?_)
  refine rs_nil ?_
  refine ew_next ?_
  refine cw_seq ?_
  refine cw_seq ?_
  refine cw_region ?_
  refine rs_op rfl (ow_move rfl ?_)
  refine rs_op rfl (ow_neq rfl rfl ?_)
  refine rs_nil ?_
  refine ew_next ?_
  refine cw_then rfl ?_
  refine cw_seq ?_
  refine cw_region ?_
  refine rs_op rfl (ow_loadB Tryd.underlying24 rfl sz24 rfl (HF.on E).here.1.1.1.2 rfl ?_)
  refine rs_op rfl (ow_loadB Tryd.underlying24 rfl sz24 rfl (HF.on E).here.1.1.2 rfl ?_)
  refine rs_op rfl (ow_enter en15 rfl ((hform _ (HF.on E).here.1.1.1.1.1.2 (HF.on E).here.1.1.1.1.2).mono ?_))
  rintro e w13 ⟨rfl, hb⟩
  refine ⟨_, rfl, ?_⟩
  have XC : ∀ q9, (No) q9 → q9 < w12.heap.size := Mut.none_
  have SC := Nat.le_trans LW.size E.size
  have SE := E.size
  have Ec := Ext.of_below hb No
  replace E := E.trans Ec.no
  clear hb Ec
  refine rs_op rfl (ow_neq rfl rfl ?_)
  refine rs_op rfl (ow_move rfl ?_)
  refine rs_op rfl (ow_off rfl ?_)
  refine rs_op rfl (ow_off rfl ?_)
  refine rs_op rfl (ow_pickF rfl rfl ?_)
  refine rs_op rfl (ow_move rfl ?_)
  refine rs_op rfl (ow_on rfl (ow_loadB Tryd.underlying24 rfl sz24 rfl (HF.on E).here.1.1.1.2 rfl ?_))
  refine rs_op rfl (ow_on rfl (ow_loadB Tryd.underlying24 rfl sz24 rfl (HF.on E).here.1.1.2 rfl ?_))
  refine rs_op rfl (ow_on rfl (ow_enter en15 rfl ((hform _ (HF.on E).here.1.1.1.1.1.2 (HF.on E).here.1.1.1.1.2).mono ?_)))
  rintro e w14 ⟨rfl, hb⟩
  refine ⟨_, rfl, ?_⟩
  have XC : ∀ q9, (No) q9 → q9 < w13.heap.size := Mut.none_
  have SC := Nat.le_trans LW.size E.size
  have SE := E.size
  have Ec := Ext.of_below hb No
  replace E := E.trans Ec.no
  clear hb Ec
  refine rs_op rfl (ow_on rfl (ow_eql rfl rfl ?_))
  refine rs_op rfl (ow_on rfl (ow_move rfl ?_))
  refine rs_op rfl (ow_on rfl (ow_move rfl ?_))
  refine rs_op rfl (ow_on rfl (ow_eql rfl rfl ?_))
  refine rs_op rfl (ow_on rfl (ow_pickT rfl rfl ?_))
  refine rs_op rfl (ow_on rfl (ow_move rfl ?_))
  refine rs_op rfl (ow_on rfl (ow_fieldAddr Tryd.underlying24 rfl sz22 (by decide) rfl ?_))
  refine rs_op rfl (ow_on rfl (ow_loadF Tryd.underlying22 rfl rfl (HF.on E).here.1.1.2 rfl ?_))
  refine rs_op rfl (ow_on rfl (ow_len Tryd.underlying22 rfl ?_))
  refine rs_op rfl (ow_on rfl (ow_eql rfl rfl ?_))
  refine rs_op rfl (ow_on rfl (ow_pickT rfl rfl ?_))
  refine rs_op rfl (ow_pickF rfl rfl ?_)
  refine rs_op rfl (ow_assign rfl ?_)
  refine rs_nil ?_
  refine ew_next ?_
  refine cw_ret ?_
  refine ew_then_ret ?_
  refine ew_ret (rs := [.tmp 4]) (vs := [_]) rfl ⟨rfl, trivial⟩ ?_
  exact ⟨rfl, (LW.step E XLW).toBelow⟩
end
section
variable (i j : Int) (A B : Option Addr) (c d : Nat) (w : World)
theorem euclid_good (hi : i.natAbs < B18 ^ 30) (hj : j.natAbs < B18 ^ 30) (h0 : j ≠ 0) (hx : Nums w A (limbs i)) (hy : Nums w B (limbs j)) :
    Calls Tryd.prog 10 #[.agg #[.bool (decide (i < 0)), .slice A (limbs i).length c], .agg #[.bool (decide (j < 0)), .slice B (limbs j).length d]] w (LawTrue w) := by
  refine calls_cw Tryd.func10 rfl Tryd.ntmps10 rfl ?_
  have HF : Per (No) w (fun _ => True) := Per.true_
  have LW := Ext.refl (No) w
  have XLW : ∀ q9, (No) q9 → (No) q9 ∨ w.heap.size ≤ q9 := fun _ h => Or.inl h
  have E := Ext.refl (No) w
  replace HF := HF.on E
  replace LW := LW.step E XLW
  replace E := Ext.refl (No) w
  replace HF := HF.and (Per.nums0 hx)
  replace HF := HF.on E
  replace LW := LW.step E XLW
  replace E := Ext.refl (No) w
  replace HF := HF.and (Per.nums0 hy)
  refine cw_seq ?_
  refine cw_region ?_
  refine rs_op rfl (ow_boxB rfl ?_)
  intro gb1 w2 Bb1 Eb1 Gb1
  have Gb1 : _ ≤ gb1 := Nat.le_trans E.size Gb1
  have GLb1 := Nat.le_trans LW.size Gb1
  replace E := E.trans Eb1.no
  clear Eb1
  replace HF := HF.cons (some_ge Gb1)
  replace E := E.cons (some gb1)
  replace XLW := Mut.grow XLW (fun k e => Or.inr (Nat.le_trans LW.size ((some_ge Gb1) k e)))
  replace HF := HF.on E
  replace LW := LW.step E XLW
  have SB : ∀ q9, No q9 → Mut [(some gb1)] q9 := (Mut.skip Mut.nil_)
  replace HF := HF.less SB
  replace XLW := fun k h => XLW k (SB k h)
  clear SB
  replace E := Ext.refl (No) w2
  replace HF := HF.and (Per.blkN Bb1 NotIn.nil)
  clear Bb1
  refine rs_op rfl (ow_boxB rfl ?_)
  intro gb3 w4 Bb3 Eb3 Gb3
  have Gb3 : _ ≤ gb3 := Nat.le_trans E.size Gb3
  have GLb3 := Nat.le_trans LW.size Gb3
  replace E := E.trans Eb3.no
  clear Eb3
  replace HF := HF.cons (some_ge Gb3)
  replace E := E.cons (some gb3)
  replace XLW := Mut.grow XLW (fun k e => Or.inr (Nat.le_trans LW.size ((some_ge Gb3) k e)))
  replace HF := HF.on E
  replace LW := LW.step E XLW
  have SB : ∀ q9, No q9 → Mut [(some gb3)] q9 := (Mut.skip Mut.nil_)
  replace HF := HF.less SB
  replace XLW := fun k h => XLW k (SB k h)
  clear SB
  replace E := Ext.refl (No) w4
  replace HF := HF.and (Per.blkN Bb3 NotIn.nil)
  clear Bb3
  refine rs_op rfl (ow_assign rfl ?_)
  refine rs_nil ?_
  refine ew_next ?_
  refine cw_seq ?_
  refine cw_seq ?_
  refine cw_region ?_
  refine rs_op rfl (ow_enter en13 rfl ((known_any _).mono ?_))
  rintro e w5 ⟨rfl, hb⟩
  refine ⟨_, rfl, ?_⟩
  have XC : ∀ q9, (No) q9 → q9 < w4.heap.size := Mut.none_
  have SC := Nat.le_trans LW.size E.size
  have SE := E.size
  have Ec := Ext.of_below hb No
  replace E := E.trans Ec.no
  clear hb Ec
  refine rs_op rfl (ow_not rfl ?_)
  refine rs_nil ?_
  refine ew_next ?_
  refine cw_else rfl ?_
  refine cw_skip ?_
  refine ew_next ?_
  refine cw_seq ?_
  refine cw_region ?_
  refine rs_op rfl (ow_loadB Tryd.underlying24 rfl sz24 rfl (HF.on E).here.1.2 rfl ?_)
  refine rs_op rfl (ow_loadB Tryd.underlying24 rfl sz24 rfl (HF.on E).here.2 rfl ?_)
  refine rs_op rfl (ow_enter en14 rfl ((divI A B c d _ hi hj h0 (HF.on E).here.1.1.1.2 (HF.on E).here.1.1.2).mono ?_))
  rintro e w6 ⟨q, r, A1, c1, A2, c2, rfl, o1, o2, hb, hq, hr, hm, hs⟩
  refine ⟨_, rfl, ?_⟩
  have XC : ∀ q9, (No) q9 → q9 < w5.heap.size := Mut.none_
  have SC := Nat.le_trans LW.size E.size
  have SE := E.size
  have Ec := Ext.of_below hb No
  replace E := E.trans Ec.no
  clear hb Ec
  replace HF := HF.on E
  replace LW := LW.step E XLW
  replace E := Ext.refl (No) w6
  replace HF := HF.and (Per.nums0 o1.nums)
  replace HF := HF.on E
  replace LW := LW.step E XLW
  replace E := Ext.refl (No) w6
  replace HF := HF.and (Per.nums0 o2.nums)
  refine rs_op rfl (ow_move rfl ?_)
  refine rs_op rfl (ow_extract rfl rfl ?_)
  refine rs_op rfl (ow_extract rfl rfl ?_)
  refine rs_op rfl (ow_extract rfl rfl ?_)
  refine rs_op rfl (ow_allocB zr24 ?_)
  intro gb7 w8 Bb7 Eb7 Gb7
  have Gb7 : _ ≤ gb7 := Nat.le_trans E.size Gb7
  have GLb7 := Nat.le_trans LW.size Gb7
  replace E := E.trans Eb7.no
  clear Eb7
  replace HF := HF.cons (some_ge Gb7)
  replace E := E.cons (some gb7)
  replace XLW := Mut.grow XLW (fun k e => Or.inr (Nat.le_trans LW.size ((some_ge Gb7) k e)))
  refine rs_op rfl (ow_allocB zr24 ?_)
  intro gb9 w10 Bb9 Eb9 Gb9
  have Db9_b7 : Apart (some gb9) (some gb7) := Apart.of_lt (some_lt Bb7.lt) Gb9
  have Db7_b9 := Db9_b7.symm
  have Gb9 : _ ≤ gb9 := Nat.le_trans E.size Gb9
  have GLb9 := Nat.le_trans LW.size Gb9
  replace Bb7 := Bb7.extN Eb9 NotIn.nil
  replace E := E.trans Eb9.no
  clear Eb9
  replace HF := HF.cons (some_ge Gb9)
  replace E := E.cons (some gb9)
  replace XLW := Mut.grow XLW (fun k e => Or.inr (Nat.le_trans LW.size ((some_ge Gb9) k e)))
  refine rs_op0 (ow_storeM sz24 rfl rfl Bb7 rfl rfl (Nat.le_of_ble_eq_true rfl) ?_)
  intro w11 Bx Eb7
  replace Bb7 := Bx
  clear Bx
  replace Bb9 := Bb9.extN Eb7 (NotIn.cons Db9_b7 NotIn.nil)
  replace E := E.step1 Eb7 (Mut.tail Mut.head)
  clear Eb7
  replace HF := HF.on E
  replace LW := LW.step E XLW
  have SB : ∀ q9, Mut [(some gb9)] q9 → Mut [(some gb9), (some gb7)] q9 := (Mut.keep (Mut.skip Mut.nil_))
  replace HF := HF.less SB
  replace XLW := fun k h => XLW k (SB k h)
  clear SB
  replace E := Ext.refl (Mut [(some gb9)]) w11
  replace HF := HF.and (Per.blkN Bb7 (NotIn.cons Db7_b9 NotIn.nil))
  clear Bb7
  refine rs_op0 (ow_storeM sz24 rfl rfl Bb9 rfl rfl (Nat.le_of_ble_eq_true rfl) ?_)
  intro w12 Bx Eb9
  replace Bb9 := Bx
  clear Bx
  replace E := E.step1 Eb9 Mut.head
  clear Eb9
  replace HF := HF.on E
  replace LW := LW.step E XLW
  have SB : ∀ q9, No q9 → Mut [(some gb9)] q9 := (Mut.skip Mut.nil_)
  replace HF := HF.less SB
  replace XLW := fun k h => XLW k (SB k h)
  clear SB
  replace E := Ext.refl (No) w12
  replace HF := HF.and (Per.blkN Bb9 NotIn.nil)
  clear Bb9
  refine rs_op rfl (ow_assign rfl ?_)
  refine rs_nil ?_
  refine ew_next ?_
  refine cw_seq ?_
  refine cw_seq ?_
  refine cw_region ?_
  refine rs_op rfl (ow_move rfl ?_)
  refine rs_op rfl (ow_neq rfl rfl ?_)
  refine rs_nil ?_
  refine ew_next ?_
  refine cw_else rfl ?_
  refine cw_skip ?_
  refine ew_next ?_
  refine cw_seq ?_
  refine cw_region ?_
  refine rs_op rfl (ow_loadB Tryd.underlying24 rfl sz24 rfl (HF.on E).here.1.2 rfl ?_)
  refine rs_op rfl (ow_loadB Tryd.underlying24 rfl sz24 rfl (HF.on E).here.1.1.1.1.2 rfl ?_)
  refine rs_op rfl (ow_enter en36 rfl ((mulI A1 B c1 d _ hq hj (HF.on E).here.1.1.1.2 (HF.on E).here.1.1.1.1.1.1.2).mono ?_))
  rintro e w13 ⟨A3, c3, rfl, o3, hb⟩
  refine ⟨_, rfl, ?_⟩
  have XC : ∀ q9, (No) q9 → q9 < w12.heap.size := Mut.none_
  have SC := Nat.le_trans LW.size E.size
  have SE := E.size
  have Ec := Ext.of_below hb No
  replace E := E.trans Ec.no
  clear hb Ec
  replace HF := HF.on E
  replace LW := LW.step E XLW
  replace E := Ext.refl (No) w13
  replace HF := HF.and (Per.nums0 o3.nums)
  refine rs_op rfl (ow_move rfl ?_)
  refine rs_op rfl (ow_extract rfl rfl ?_)
  refine rs_op rfl (ow_extract rfl rfl ?_)
  refine rs_op rfl (ow_allocB zr24 ?_)
  intro gb14 w15 Bb14 Eb14 Gb14
  have Gb14 : _ ≤ gb14 := Nat.le_trans E.size Gb14
  have GLb14 := Nat.le_trans LW.size Gb14
  replace E := E.trans Eb14.no
  clear Eb14
  replace HF := HF.cons (some_ge Gb14)
  replace E := E.cons (some gb14)
  replace XLW := Mut.grow XLW (fun k e => Or.inr (Nat.le_trans LW.size ((some_ge Gb14) k e)))
  refine rs_op0 (ow_storeM sz24 rfl rfl Bb14 rfl rfl (Nat.le_of_ble_eq_true rfl) ?_)
  intro w16 Bx Eb14
  replace Bb14 := Bx
  clear Bx
  replace E := E.step1 Eb14 Mut.head
  clear Eb14
  replace HF := HF.on E
  replace LW := LW.step E XLW
  have SB : ∀ q9, No q9 → Mut [(some gb14)] q9 := (Mut.skip Mut.nil_)
  replace HF := HF.less SB
  replace XLW := fun k h => XLW k (SB k h)
  clear SB
  replace E := Ext.refl (No) w16
  replace HF := HF.and (Per.blkN Bb14 NotIn.nil)
  clear Bb14
  refine rs_op rfl (ow_assign rfl ?_)
  refine rs_nil ?_
  refine ew_next ?_
  refine cw_seq ?_
  refine cw_seq ?_
  refine cw_region ?_
  refine rs_op rfl (ow_move rfl ?_)
  refine rs_op rfl (ow_neq rfl rfl ?_)
  refine rs_nil ?_
  refine ew_next ?_
  refine cw_cond rfl (fun h => ?_) (fun h => ?_)
  · have _way := True.intro
    have h7 : outE true (q * j) = 7 := by
      unfold outE at h ⊢
      rw [if_pos rfl] at h ⊢
      split
      · rename_i h9; rw [if_pos h9] at h; exact absurd h (by decide)
      · rfl
    refine cw_seq ?_
    refine cw_region ?_
    refine rs_op rfl (ow_move rfl ?_)
    refine rs_op rfl (ow_eql rfl rfl ?_)
    refine rs_op rfl (ow_assign rfl ?_)
    refine rs_nil ?_
    refine ew_next ?_
    refine cw_ret ?_
    refine ew_then_ret ?_
    refine ew_ret (rs := [.tmp 4]) (vs := [_]) rfl ⟨rfl, trivial⟩ ?_
    exact ⟨by rw [h7]; rfl, (LW.step E XLW).toBelow⟩
  · have _way := True.intro
    have h9 : (q * j).natAbs < B18 ^ 30 := outE_zero (by simpa using h)
    have hV : outV true (q * j) = q * j := outV_ok h9
    refine cw_skip ?_
    refine ew_next ?_
    refine cw_seq ?_
    refine cw_region ?_
    refine rs_op rfl (ow_loadB Tryd.underlying24 rfl sz24 rfl (HF.on E).here.2 rfl ?_)
    refine rs_op rfl (ow_loadB Tryd.underlying24 rfl sz24 rfl (HF.on E).here.1.1.2 rfl ?_)
    refine rs_op rfl (ow_enter en27 rfl ((addI A3 A2 c3 c2 _ outV_lt hr (HF.on E).here.1.2 (HF.on E).here.1.1.1.1.2).mono ?_))
    rintro e w17 ⟨A4, c4, rfl, o4, hb⟩
    refine ⟨_, rfl, ?_⟩
    have XC : ∀ q9, (No) q9 → q9 < w16.heap.size := Mut.none_
    have SC := Nat.le_trans LW.size E.size
    have SE := E.size
    have Ec := Ext.of_below hb No
    replace E := E.trans Ec.no
    clear hb Ec
    replace HF := HF.on E
    replace LW := LW.step E XLW
    replace E := Ext.refl (No) w17
    replace HF := HF.and (Per.nums0 o4.nums)
    have hV2 : outV true (q * j) + r = i := by rw [hV]; exact hm
    refine rs_op rfl (ow_move rfl ?_)
    refine rs_op rfl (ow_extract rfl rfl ?_)
    refine rs_op rfl (ow_extract rfl rfl ?_)
    refine rs_op rfl (ow_allocB zr24 ?_)
    intro gb18 w19 Bb18 Eb18 Gb18
    have Gb18 : _ ≤ gb18 := Nat.le_trans E.size Gb18
    have GLb18 := Nat.le_trans LW.size Gb18
    replace E := E.trans Eb18.no
    clear Eb18
    replace HF := HF.cons (some_ge Gb18)
    replace E := E.cons (some gb18)
    replace XLW := Mut.grow XLW (fun k e => Or.inr (Nat.le_trans LW.size ((some_ge Gb18) k e)))
    refine rs_op0 (ow_storeM sz24 rfl rfl Bb18 rfl rfl (Nat.le_of_ble_eq_true rfl) ?_)
    intro w20 Bx Eb18
    replace Bb18 := Bx
    clear Bx
    replace E := E.step1 Eb18 Mut.head
    clear Eb18
    replace HF := HF.on E
    replace LW := LW.step E XLW
    have SB : ∀ q9, No q9 → Mut [(some gb18)] q9 := (Mut.skip Mut.nil_)
    replace HF := HF.less SB
    replace XLW := fun k h => XLW k (SB k h)
    clear SB
    replace E := Ext.refl (No) w20
    replace HF := HF.and (Per.blkN Bb18 NotIn.nil)
    clear Bb18
    refine rs_op rfl (ow_assign rfl ?_)
    refine rs_nil ?_
    refine ew_next ?_
    refine cw_seq ?_
    refine cw_seq ?_
    refine cw_region ?_
    refine rs_op rfl (ow_move rfl ?_)
    refine rs_op rfl (ow_neq rfl rfl ?_)
    refine rs_op rfl (ow_move rfl ?_)
    refine rs_set 63 (.bool false) rfl ((by rw [hV2, outE_ok hi]; rfl : (.bool ((outE true (outV true (q * j) + r)) != 0) : Value) = _)) ?_
    refine rs_op rfl (ow_on rfl (ow_loadB Tryd.underlying24 rfl sz24 rfl (HF.on E).here.2 rfl ?_))
    refine rs_op rfl (ow_on rfl (ow_loadB Tryd.underlying24 rfl sz24 rfl (HF.on E).here.1.1.1.1.1.1.1.1.1.2 rfl ?_))
    refine rs_op rfl (ow_on rfl (ow_enter en21 rfl ((sameI A4 A c4 c _ outV_lt hi (HF.on E).here.1.2 (HF.on E).here.1.1.1.1.1.1.1.1.1.1.1.2 (by rw [hV2, outV_ok hi])).mono ?_)))
    rintro e w21 ⟨rfl, hb⟩
    refine ⟨_, rfl, ?_⟩
    have XC : ∀ q9, (No) q9 → q9 < w20.heap.size := Mut.none_
    have SC := Nat.le_trans LW.size E.size
    have SE := E.size
    have Ec := Ext.of_below hb No
    replace E := E.trans Ec.no
    clear hb Ec
    refine rs_op rfl (ow_on rfl (ow_not rfl ?_))
    refine rs_op rfl (ow_pickF rfl rfl ?_)
    refine rs_nil ?_
    refine ew_next ?_
    refine cw_else rfl ?_
    refine cw_skip ?_
    refine ew_next ?_
    refine cw_seq ?_
    refine cw_seq ?_
    refine cw_region ?_
    refine rs_op rfl (ow_loadB Tryd.underlying24 rfl sz24 rfl (HF.on E).here.1.1.1.1.2 rfl ?_)
    refine rs_op rfl (ow_enter en30 rfl ((signI A2 c2 _ hr (HF.on E).here.1.1.1.1.1.1.2).mono ?_))
    rintro e w22 ⟨rfl, hb⟩
    refine ⟨_, rfl, ?_⟩
    have XC : ∀ q9, (No) q9 → q9 < w21.heap.size := Mut.none_
    have SC := Nat.le_trans LW.size E.size
    have SE := E.size
    have Ec := Ext.of_below hb No
    replace E := E.trans Ec.no
    clear hb Ec
    refine rs_op rfl (ow_eql rfl rfl ?_)
    refine rs_nil ?_
    refine ew_next ?_
    refine cw_cond rfl (fun h5 => ?_) (fun h5 => ?_)
    · have _way := True.intro
      refine cw_seq ?_
      refine cw_region ?_
      refine rs_op rfl (ow_assign rfl ?_)
      refine rs_nil ?_
      refine ew_next ?_
      refine cw_ret ?_
      refine ew_then_ret ?_
      refine ew_ret (rs := [.tmp 4]) (vs := [_]) rfl ⟨rfl, trivial⟩ ?_
      exact ⟨rfl, (LW.step E XLW).toBelow⟩
    · have _way := True.intro
      have hs := hs.resolve_left (fun e => by subst e; simp [cmpI] at h5)
      have hsb := cmpI_b j 0
      refine cw_skip ?_
      refine ew_next ?_
      refine cw_seq ?_
      have OY : ∀ q9, (Mut (outM [])) q9 → q9 < (World.drew w22).heap.size → (No) q9 := fun k h _ => (Mut.none_) k h
      refine cw_drawn (No) Mut.none_ [] [] (fxAt [Fx.of (.agg #[.bool (decide (r < 0)), .slice A2 (limbs r).length c2]),
          Fx.of (.int .i64 (cmpI r 0)),
          Fx.of (.agg #[.bool (decide (j < 0)), .slice B (limbs j).length d]),
          Fx.of (.int .i64 (cmpI j 0)),
          Fx.of (.bool true),
          Fx.of (.bool true),
          Fx.of (.agg #[.bool (decide (r < 0)), .slice A2 (limbs r).length c2]),
          Fx.of (.agg #[.bool (decide (j < 0)), .slice B (limbs j).length d]),
          Fx.of (.int .i64 (cmpI r j)),
          Fx.of (.agg #[.bool (decide (j < 0)), .slice B (limbs j).length d]),
          Fx.of (.int .i64 (cmpI j 0)),
          Fx.of (.int .i64 (0 - (cmpI j 0))),
          Fx.of (.bool true),
          Fx.of (.bool true),
          Fx.of (.bool true)]) mixed rfl trivial (fun _ h => by cases h) ?_ ?_
      · refine ⟨?_, ?_, ?_, ?_, ?_, ?_, ?_, ?_, ?_, ?_, ?_, ?_, ?_, ?_, ?_, trivial⟩
        · intro vs X wq K
          have LE := K.1
          have XN := K.2.1
          have SQ := Nat.le_trans LW.size (Nat.le_trans E.size LE.size)
          exact ow_loadB Tryd.underlying24 rfl sz24 rfl (HF.on (E.drew.trans (LE.mono OY))).here.1.1.1.1.2 rfl ⟨Below.refl _ _, Left.of rfl⟩
        · intro vs X wq K
          have LE := K.1
          have XN := K.2.1
          have SQ := Nat.le_trans LW.size (Nat.le_trans E.size LE.size)
          obtain ⟨_, e0, k0⟩ := K.dep 0 rfl rfl rfl
          refine ow_set 72 (.agg #[.bool (decide (r < 0)), .slice A2 (limbs r).length c2]) rfl e0 ?_
          refine ow_enter en30 rfl ((signI A2 c2 _ hr (HF.on (E.drew.trans (LE.mono OY))).here.1.1.1.1.1.1.2).mono ?_)
          rintro e w2 ⟨rfl, hb⟩
          exact ⟨_, rfl, hb, Left.of rfl⟩
        · intro vs X wq K
          have LE := K.1
          have XN := K.2.1
          have SQ := Nat.le_trans LW.size (Nat.le_trans E.size LE.size)
          exact ow_loadB Tryd.underlying24 rfl sz24 rfl (HF.on (E.drew.trans (LE.mono OY))).here.1.1.1.1.1.1.1.1.2 rfl ⟨Below.refl _ _, Left.of rfl⟩
        · intro vs X wq K
          have LE := K.1
          have XN := K.2.1
          have SQ := Nat.le_trans LW.size (Nat.le_trans E.size LE.size)
          obtain ⟨_, e2, k2⟩ := K.dep 2 rfl rfl rfl
          refine ow_set 74 (.agg #[.bool (decide (j < 0)), .slice B (limbs j).length d]) rfl e2 ?_
          refine ow_enter en30 rfl ((signI B d _ hj (HF.on (E.drew.trans (LE.mono OY))).here.1.1.1.1.1.1.1.1.1.1.2).mono ?_)
          rintro e w2 ⟨rfl, hb⟩
          exact ⟨_, rfl, hb, Left.of rfl⟩
        · intro vs X wq K
          have LE := K.1
          have XN := K.2.1
          have SQ := Nat.le_trans LW.size (Nat.le_trans E.size LE.size)
          obtain ⟨_, e1, k1⟩ := K.dep 1 rfl rfl rfl
          refine ow_set 73 (.int .i64 (cmpI r 0)) rfl e1 ?_
          obtain ⟨_, e3, k3⟩ := K.dep 3 rfl rfl rfl
          refine ow_set 75 (.int .i64 (cmpI j 0)) rfl e3 ?_
          exact ow_eql rfl rfl ⟨Below.refl _ _, Left.of ((by rw [hs.1]; simp : (.bool ((cmpI r 0) == (cmpI j 0)) : Value) = _))⟩
        · intro vs X wq K
          have LE := K.1
          have XN := K.2.1
          have SQ := Nat.le_trans LW.size (Nat.le_trans E.size LE.size)
          obtain ⟨_, e4, k4⟩ := K.dep 4 rfl rfl rfl
          refine ow_set 76 (.bool true) rfl e4 ?_
          exact ow_move rfl ⟨Below.refl _ _, Left.of rfl⟩
        · intro vs X wq K
          have LE := K.1
          have XN := K.2.1
          have SQ := Nat.le_trans LW.size (Nat.le_trans E.size LE.size)
          obtain ⟨_, e5, k5⟩ := K.dep 5 rfl rfl rfl
          refine ow_set 77 (.bool true) rfl e5 ?_
          exact ow_on rfl (ow_loadB Tryd.underlying24 rfl sz24 rfl (HF.on (E.drew.trans (LE.mono OY))).here.1.1.1.1.2 rfl ⟨Below.refl _ _, Left.of rfl⟩)
        · intro vs X wq K
          have LE := K.1
          have XN := K.2.1
          have SQ := Nat.le_trans LW.size (Nat.le_trans E.size LE.size)
          obtain ⟨_, e5, k5⟩ := K.dep 5 rfl rfl rfl
          refine ow_set 77 (.bool true) rfl e5 ?_
          exact ow_on rfl (ow_loadB Tryd.underlying24 rfl sz24 rfl (HF.on (E.drew.trans (LE.mono OY))).here.1.1.1.1.1.1.1.1.2 rfl ⟨Below.refl _ _, Left.of rfl⟩)
        · intro vs X wq K
          have LE := K.1
          have XN := K.2.1
          have SQ := Nat.le_trans LW.size (Nat.le_trans E.size LE.size)
          obtain ⟨_, e6, k6⟩ := K.dep 6 rfl rfl rfl
          refine ow_set 78 (.agg #[.bool (decide (r < 0)), .slice A2 (limbs r).length c2]) rfl e6 ?_
          obtain ⟨_, e7, k7⟩ := K.dep 7 rfl rfl rfl
          refine ow_set 79 (.agg #[.bool (decide (j < 0)), .slice B (limbs j).length d]) rfl e7 ?_
          obtain ⟨_, e5, k5⟩ := K.dep 5 rfl rfl rfl
          refine ow_set 77 (.bool true) rfl e5 ?_
          refine ow_on rfl (ow_enter en29 rfl ((cmpI_ A2 B c2 d _ hr hj (HF.on (E.drew.trans (LE.mono OY))).here.1.1.1.1.1.1.2 (HF.on (E.drew.trans (LE.mono OY))).here.1.1.1.1.1.1.1.1.1.1.2).mono ?_))
          rintro e w2 ⟨rfl, hb⟩
          exact ⟨_, rfl, hb, Left.of rfl⟩
        · intro vs X wq K
          have LE := K.1
          have XN := K.2.1
          have SQ := Nat.le_trans LW.size (Nat.le_trans E.size LE.size)
          obtain ⟨_, e5, k5⟩ := K.dep 5 rfl rfl rfl
          refine ow_set 77 (.bool true) rfl e5 ?_
          exact ow_on rfl (ow_loadB Tryd.underlying24 rfl sz24 rfl (HF.on (E.drew.trans (LE.mono OY))).here.1.1.1.1.1.1.1.1.2 rfl ⟨Below.refl _ _, Left.of rfl⟩)
        · intro vs X wq K
          have LE := K.1
          have XN := K.2.1
          have SQ := Nat.le_trans LW.size (Nat.le_trans E.size LE.size)
          obtain ⟨_, e9, k9⟩ := K.dep 9 rfl rfl rfl
          refine ow_set 81 (.agg #[.bool (decide (j < 0)), .slice B (limbs j).length d]) rfl e9 ?_
          obtain ⟨_, e5, k5⟩ := K.dep 5 rfl rfl rfl
          refine ow_set 77 (.bool true) rfl e5 ?_
          refine ow_on rfl (ow_enter en30 rfl ((signI B d _ hj (HF.on (E.drew.trans (LE.mono OY))).here.1.1.1.1.1.1.1.1.1.1.2).mono ?_))
          rintro e w2 ⟨rfl, hb⟩
          exact ⟨_, rfl, hb, Left.of rfl⟩
        · intro vs X wq K
          have LE := K.1
          have XN := K.2.1
          have SQ := Nat.le_trans LW.size (Nat.le_trans E.size LE.size)
          obtain ⟨_, e10, k10⟩ := K.dep 10 rfl rfl rfl
          refine ow_set 82 (.int .i64 (cmpI j 0)) rfl e10 ?_
          obtain ⟨_, e5, k5⟩ := K.dep 5 rfl rfl rfl
          refine ow_set 77 (.bool true) rfl e5 ?_
          exact ow_on rfl (ow_neg rfl (wrap_i64 (by omega)) ⟨Below.refl _ _, Left.of rfl⟩)
        · intro vs X wq K
          have LE := K.1
          have XN := K.2.1
          have SQ := Nat.le_trans LW.size (Nat.le_trans E.size LE.size)
          obtain ⟨_, e8, k8⟩ := K.dep 8 rfl rfl rfl
          refine ow_set 80 (.int .i64 (cmpI r j)) rfl e8 ?_
          obtain ⟨_, e11, k11⟩ := K.dep 11 rfl rfl rfl
          refine ow_set 83 (.int .i64 (0 - (cmpI j 0))) rfl e11 ?_
          obtain ⟨_, e5, k5⟩ := K.dep 5 rfl rfl rfl
          refine ow_set 77 (.bool true) rfl e5 ?_
          exact ow_on rfl (ow_eql rfl rfl ⟨Below.refl _ _, Left.of ((by rw [hs.2]; simp : (.bool ((cmpI r j) == (0 - (cmpI j 0))) : Value) = _))⟩)
        · intro vs X wq K
          have LE := K.1
          have XN := K.2.1
          have SQ := Nat.le_trans LW.size (Nat.le_trans E.size LE.size)
          obtain ⟨_, e5, k5⟩ := K.dep 5 rfl rfl rfl
          refine ow_set 77 (.bool true) rfl e5 ?_
          obtain ⟨_, e12, k12⟩ := K.dep 12 rfl rfl rfl
          refine ow_set 84 (.bool true) rfl e12 ?_
          exact ow_pickT rfl rfl ⟨Below.refl _ _, Left.of rfl⟩
        · intro vs X wq K
          have LE := K.1
          have XN := K.2.1
          have SQ := Nat.le_trans LW.size (Nat.le_trans E.size LE.size)
          obtain ⟨_, e13, k13⟩ := K.dep 13 rfl rfl rfl
          refine ow_set 85 (.bool true) rfl e13 ?_
          exact ow_assign rfl ⟨Below.refl _ _, Left.of rfl⟩
      intro vs w23 LE AO AL AF AA
      replace E := E.drew.trans (LE.mono OY)
      obtain ⟨_, e14, k14⟩ := AL.2.2.2.2.2.2.2.2.2.2.2.2.2.2.1
      refine ew_sub (τ := [(4, .bool true)]) ⟨congrArg some e14, trivial⟩ ?_
      clear AL AF AA LE AO OY e14 k14
      refine ew_next ?_
      refine cw_ret ?_
      refine ew_ret (rs := [.tmp 4]) (vs := [_]) rfl ⟨rfl, trivial⟩ ?_
      exact ⟨rfl, (LW.step E XLW).toBelow⟩
end
/-- WholeEuclid answers true at every two numbers. -/
theorem euclid_law (n1 : Bool) (A : Option Addr) (c : Nat) (xs : List Nat) (n2 : Bool) (B : Option Addr) (d : Nat) (ys : List Nat) (w : World) (hx : Nums w A xs) (hl : xs.length ≤ 9223372036854775807) (hy : Nums w B ys) (hl' : ys.length ≤ 9223372036854775807) :
    Calls Tryd.prog 10 #[.agg #[.bool n1, .slice A xs.length c], .agg #[.bool n2, .slice B ys.length d]] w fun e w' => e = .returned (.bool true) ∧ Below w.heap.size w w' := by
  cases hok : (goodB n1 xs && goodB n2 ys)
  · exact euclid_bad n1 n2 A B c d xs ys w hx hy hl hl' hok
  · obtain ⟨hg, hk⟩ := Bool.and_eq_true_iff.1 hok
    by_cases h0 : ys = []
    · subst h0
      exact euclid_zero n1 n2 A B c d xs w hx hy hg hk
    · obtain ⟨i, rfl, rfl, hi⟩ := good_is hg
      obtain ⟨j, rfl, rfl, hj⟩ := good_is hk
      exact euclid_good i j A B c d w hi hj (fun e => by subst e; exact h0 limbs_zero) hx hy
end Go.Proofs.YteggjfmcpodepaaDoor
namespace Go.Proofs.YteggjfmcpodepaaDoor
open Go.RowKit
set_option maxRecDepth 100000
theorem pow30 : 0 < B18 ^ 30 := Nat.pow_pos (by unfold B18; omega)
theorem zero30 : (0 : Int).natAbs < B18 ^ 30 := pow30
/-- A call on two numbers, whatever they are. -/
def Two2 (f : FuncId) (n1 : Bool) (xs : List Nat) (n2 : Bool) (ys : List Nat) (V E : Int) : Prop :=
  V.natAbs < B18 ^ 30 ∧ ∀ (w : World) (A : Option Addr) (c : Nat) (B : Option Addr) (d : Nat), Nums w A xs → Nums w B ys →
    Calls Tryd.prog f #[.agg #[.bool n1, .slice A xs.length c], .agg #[.bool n2, .slice B ys.length d]] w (RetBigErr w V E)
theorem outV_le (ok : Bool) (s : Int) : (outV ok s).natAbs < B18 ^ 30 := by
  cases ok
  · rw [outV_bad]; exact pow30
  · exact outV_lt
section
variable (n1 n2 : Bool) (xs ys : List Nat) (hl : xs.length ≤ 9223372036854775807) (hl' : ys.length ≤ 9223372036854775807)
include hl hl'
theorem two_add : ∃ V E, Two2 27 n1 xs n2 ys V E := ⟨_, _, outV_le _ _, fun w A c B d hx hy => add_any A B c d xs ys w n1 n2 hx hy hl hl'⟩
theorem two_sub : ∃ V E, Two2 28 n1 xs n2 ys V E := ⟨_, _, outV_le _ _, fun w A c B d hx hy => sub_any A B c d xs ys w n1 n2 hx hy hl hl'⟩
theorem two_mul : ∃ V E, Two2 36 n1 xs n2 ys V E := ⟨_, _, outV_le _ _, fun w A c B d hx hy => mul_any n1 n2 A B c d xs ys w hx hy hl hl'⟩
theorem two_div : ∃ U V E, U.natAbs < B18 ^ 30 ∧ V.natAbs < B18 ^ 30 ∧ ∀ (w : World) (A : Option Addr) (c : Nat) (B : Option Addr) (d : Nat), Nums w A xs → Nums w B ys →
    Calls Tryd.prog 14 #[.agg #[.bool n1, .slice A xs.length c], .agg #[.bool n2, .slice B ys.length d]] w (RetTwo w U V E) := by
  cases h1 : goodB n1 xs
  · exact ⟨0, 0, 3, pow30, pow30, fun w A c B d hx _ => divmod_bad_x A B c d xs ys w n1 n2 hx hl h1⟩
  · cases h2 : goodB n2 ys
    · exact ⟨0, 0, 3, pow30, pow30, fun w A c B d hx hy => divmod_bad_y A B c d xs ys w n1 n2 hx hy hl' h1 h2⟩
    · obtain ⟨hs, _, _, _⟩ := good_parts h1
      obtain ⟨ht, hm, _, _⟩ := good_parts h2
      rcases Nat.eq_zero_or_pos ys.length with h0 | h0
      · exact ⟨0, 0, 6, pow30, pow30, fun w A c B d hx hy => divmod_zero A B c d xs ys w n1 n2 hx hy h1 h2 h0⟩
      · have hy0 : 0 < val B18 ys := Nat.pos_of_ne_zero (val_ne_zero B18_two hm (by omega))
        have e1 : ∀ {n : Bool} {zs : List Nat}, goodB n zs = true → val B18 zs < B18 ^ 30 := fun {n zs} h => by
          have h3 := num_lt h
          rw [num_natAbs] at h3
          exact h3
        exact ⟨_, _, 0, dqI (e1 h1) hy0, dr_lt (e1 h2) hy0, fun w A c B d hx hy => divmod_ok A B c d xs ys w n1 n2 hx hy h1 h2 h0⟩
end
theorem one_pow (n1 : Bool) (xs : List Nat) (hl : xs.length ≤ 9223372036854775807) : ∃ V E, Two2 38 n1 xs (decide ((1 : Int) < 0)) (limbs 1) V E := by
  cases h1 : goodB n1 xs
  · exact ⟨0, 3, pow30, fun w A c B d hx _ => pow_bad1 n1 _ A B c d xs (limbs 1) w hx hl h1⟩
  · obtain ⟨i, rfl, rfl, hi⟩ := good_is h1
    exact ⟨_, _, outV_le _ _, fun w A c B d hx hy => powI i 1 A B c d w hi (by show 1 < B18 ^ 30; exact Nat.one_lt_pow (by decide) (by unfold B18; omega)) hx hy (by decide)⟩
theorem one_neg (n1 : Bool) (xs : List Nat) (hl : xs.length ≤ 9223372036854775807) : ∃ V : Int, V.natAbs < B18 ^ 30 ∧ ∀ (w : World) (A : Option Addr) (c : Nat), Nums w A xs → Calls Tryd.prog 31 #[.agg #[.bool n1, .slice A xs.length c]] w (RetBig w V) := by
  refine ⟨if goodB n1 xs then - num n1 xs else 0, ?_, fun w A c hx => neg_any A c xs w n1 hx hl⟩
  split
  · rename_i h; rw [Int.natAbs_neg]; exact num_lt h
  · exact pow30
theorem fill8x2 (a0 a1 a2 a3 a4 a5 a6 a7 a8 a9 a10 a11 a12 a13 a14 a15 : Value) : Instr.fill (fun i => some (i * 2, 2)) ((Array.range (8 * 2)).map ((if 8 * 2 = 0 then #[] else (Value.agg #[.bool false, .slice none 0 0]).cells)[· % (if 8 * 2 = 0 then #[] else (Value.agg #[.bool false, .slice none 0 0]).cells).size]!)) [(0, .agg #[a0, a1]), (1, .agg #[a2, a3]), (2, .agg #[a4, a5]), (3, .agg #[a6, a7]), (4, .agg #[a8, a9]), (5, .agg #[a10, a11]), (6, .agg #[a12, a13]), (7, .agg #[a14, a15])] = some #[a0, a1, a2, a3, a4, a5, a6, a7, a8, a9, a10, a11, a12, a13, a14, a15] := by
  rw [map_range_]
  kernel_rfl
/-! ### lists of answers -/
/-- An answer: its value, where its limbs lie, their room. -/
abbrev Ans := Int × Option Addr × Nat
def ansS (a : Ans) : Value := .slice a.2.1 (limbs a.1).length a.2.2
def ansB (a : Ans) : List Value := [.bool (decide (a.1 < 0)), .slice a.2.1 (limbs a.1).length a.2.2]
def AnsOK (Z : List Int) (B3 : Nat) (zs : List Ans) (w : World) : Prop := ∀ j a, zs[j]? = some a → Z[j % 8]? = some a.1 ∧ Own w B3 a.2.1 a.2.2 (limbs a.1)
def blkOf (a : Ans) : Option Nat := a.2.1.map (·.block)
def Sep (l : List (Option Nat)) : Prop := ∀ (i j g : Nat), l[i]? = some (some g) → l[j]? = some (some g) → i = j
def Lts (l : List (Option Nat)) (n : Nat) : Prop := ∀ g, some g ∈ l → g < n
theorem Sep.snoc {l : List (Option Nat)} (h : Sep l) {r : Option Nat} (hr : ∀ g, r = some g → some g ∉ l) : Sep (l ++ [r]) := by
  intro i j g hi hj
  have key : ∀ k, (l ++ [r])[k]? = some (some g) → (k < l.length ∧ l[k]? = some (some g)) ∨ (k = l.length ∧ r = some g) := fun k hk => by
    rcases Nat.lt_or_ge k l.length with h1 | h1
    · rw [List.getElem?_append_left h1] at hk; exact .inl ⟨h1, hk⟩
    · rw [List.getElem?_append_right h1] at hk
      obtain ⟨d, hd⟩ : ∃ d, k - l.length = d := ⟨_, rfl⟩
      rw [hd] at hk
      rcases d with _ | d
      · simp at hk; exact .inr ⟨by omega, hk⟩
      · simp at hk
  rcases key i hi with ⟨_, h1⟩ | ⟨h1, h2⟩ <;> rcases key j hj with ⟨_, h3⟩ | ⟨h3, h4⟩
  · exact h i j g h1 h3
  · exact absurd (List.mem_of_getElem? h1) (hr g h4)
  · exact absurd (List.mem_of_getElem? h3) (hr g h2)
  · omega
theorem Sep.one (r : Option Nat) : Sep [r] := fun i j g hi hj => by
  rcases i with _ | i <;> rcases j with _ | j <;> simp at hi hj <;> rfl
theorem Sep.new {l : List (Option Nat)} (h : Sep l) {n : Nat} (hl : Lts l n) {w : World} {c : Nat} {A : Option Addr} {xs : List Nat} (o : Own w n A c xs) : Sep (l ++ [A.map (·.block)]) :=
  h.snoc fun g hg hm => by
    obtain ⟨q, hq, rfl⟩ := Option.map_eq_some_iff.1 hg
    have h1 := hl _ hm
    have h2 := (o.ge q hq).1
    omega
theorem Sep.new2 {l : List (Option Nat)} (h : Sep l) {n : Nat} (hl : Lts l n) {w : World} {c d : Nat} {A B : Option Addr} {xs ys : List Nat} (o : Own w n A c xs) (p : Own w n B d ys) (hne : ∀ p q, A = some p → B = some q → p.block ≠ q.block) : Sep (l ++ [A.map (·.block)] ++ [B.map (·.block)]) :=
  (h.new hl o).snoc fun g hg hm => by
    obtain ⟨q, hq, rfl⟩ := Option.map_eq_some_iff.1 hg
    have h2 := (p.ge q hq).1
    rcases List.mem_append.1 hm with hm | hm
    · have h1 := hl _ hm; omega
    · simp only [List.mem_singleton] at hm
      obtain ⟨q', hq', e⟩ := Option.map_eq_some_iff.1 hm.symm
      exact hne q' q hq' hq e
theorem lts_ans {Z : List Int} {B3 ga : Nat} {zs : List Ans} {w : World} (h : AnsOK Z B3 zs w) (hg : ga < w.heap.size) : Lts (some ga :: zs.map blkOf) w.heap.size := fun g hm => by
  rcases List.mem_cons.1 hm with e | hm
  · cases e; exact hg
  · obtain ⟨a, ha, e⟩ := List.mem_map.1 hm
    obtain ⟨j, hj⟩ := List.getElem?_of_mem ha
    obtain ⟨q, hq, rfl⟩ := Option.map_eq_some_iff.1 e
    exact ((h j a hj).2.ge q hq).2
theorem Lts.mono {l : List (Option Nat)} {n m : Nat} (h : Lts l n) (hm : n ≤ m) : Lts l m := fun g hg => Nat.lt_of_lt_of_le (h g hg) hm
theorem ans_snoc {Z : List Int} {B3 S : Nat} {zs : List Ans} {w w' : World} {V : Int} {A : Option Addr} {c k : Nat} (h : AnsOK Z B3 zs w) (hl : zs.length = k) (hz : Z[k % 8]? = some V) (o : Own w S A c (limbs V)) (hS : B3 ≤ S) (_e : w' = w) : AnsOK Z B3 (zs ++ [(V, A, c)]) w := by
  intro j a hj
  rcases Nat.lt_or_ge j zs.length with h1 | h1
  · rw [List.getElem?_append_left h1] at hj; exact h j a hj
  · rw [List.getElem?_append_right h1] at hj
    obtain ⟨d, hd⟩ : ∃ d, j - zs.length = d := ⟨_, rfl⟩
    rw [hd] at hj
    rcases d with _ | d
    · simp at hj; subst hj
      rw [show j = k by omega]
      exact ⟨hz, o.mono hS⟩
    · simp at hj
theorem blk_not {w : World} {base n size : Nat} {e : TypeId} {v : Value} {xs : List Value} (h : w.ownsRow base e size v n xs) (he : e ≠ 63) {base' c : Nat} {A : Option Addr} {ys : List Nat} (o : Own w base' A c ys) : ∀ q, A = some q → v.ownBlock ≠ some q.block := fun q hq hv => by
  subst hq
  rcases o.1.2 with ⟨h1, _⟩ | ⟨g, cap, cur, h1, _, h3, _⟩
  · cases h1
  · cases h1
    exact own_blk_ne h (show Blk w g 63 cur from h3) he hv
theorem Per.ans {Z : List Int} {B3 : Nat} {zs : List Ans} {w : World} {r s : Option Nat} (h : AnsOK Z B3 zs w) (hr : ∀ {base' c : Nat} {A : Option Addr} {ys : List Nat}, Own w base' A c ys → ∀ q, A = some q → r ≠ some q.block)
    (hs : ∀ {base' c : Nat} {A : Option Addr} {ys : List Nat}, Own w base' A c ys → ∀ q, A = some q → s ≠ some q.block) : Per (Mut [r, s]) w (AnsOK Z B3 zs) := fun b hb j a hj => by
  obtain ⟨h1, h2⟩ := h j a hj
  refine ⟨h1, Ext.ownsX hb h2.1 (fun g hg hX => ?_), h2.2⟩
  cases hA : a.2.1 with
  | none => rw [hA] at hg; cases hg
  | some q =>
    rw [hA] at hg
    obtain rfl : q.block = g := Option.some.inj hg
    rcases hX with hX | hX | hX
    · exact hr h2 q hA hX.symm
    · exact hs h2 q hA hX.symm
    · exact hX.elim
/-- The pairs of a row of numbers. -/
theorem flat_len (l : List Ans) : (l.flatMap ansB).length = 2 * l.length := by
  induction l with
  | nil => rfl
  | cons a l ih => rw [List.flatMap_cons, List.length_append, ih]; show 2 + _ = _; simp only [List.length_cons]; omega
theorem flat_at {a : Ans} : ∀ {l : List Ans} {j : Nat}, l[j]? = some a → (l.flatMap ansB)[2 * j]? = some (.bool (decide (a.1 < 0))) ∧ (l.flatMap ansB)[2 * j + 1]? = some (ansS a) := by
  intro l
  induction l with
  | nil => intro j h; simp at h
  | cons b l ih =>
    intro j h
    rcases j with _ | j
    · simp at h; subst h; exact ⟨rfl, rfl⟩
    · obtain ⟨h1, h2⟩ := ih (by simpa using h : l[j]? = some a)
      rw [List.flatMap_cons, show 2 * (j + 1) = 2 * j + 1 + 1 by omega]
      exact ⟨h1, h2⟩
end Go.Proofs.YteggjfmcpodepaaDoor
namespace Go.Proofs.YteggjfmcpodepaaDoor
open Go.RowKit
set_option maxRecDepth 100000
section
variable (n1 n2 n3 : Bool) (A B C : Option Addr) (c d f : Nat) (xs ys zs : List Nat) (w : World)
theorem ring_bad1 (hx : Nums w A xs) (hy : Nums w B ys) (hz : Nums w C zs) (hl : xs.length ≤ 9223372036854775807) (hl' : ys.length ≤ 9223372036854775807) (hg : goodB n1 xs = false) :
    Calls Tryd.prog 9 #[.agg #[.bool n1, .slice A xs.length c], .agg #[.bool n2, .slice B ys.length d], .agg #[.bool n3, .slice C zs.length f]] w (LawTrue w) := by
  have hgood := fun w hx => good_any n1 c w A xs hl hx
  have hrgood := fun w hx => rgood_any n1 c w A xs hl hx
  have hform := fun w hx hy => lform_any n1 n2 A B c d xs ys w hx hy hl hl'
  rw [hg] at hgood hrgood hform
  refine calls_cw Tryd.func9 rfl Tryd.ntmps9 rfl ?_
  have HF : Per (No) w (fun _ => True) := Per.true_
  have LW := Ext.refl (No) w
  have XLW : ∀ q9, (No) q9 → (No) q9 ∨ w.heap.size ≤ q9 := fun _ h => Or.inl h
  have E := Ext.refl (No) w
  replace HF := HF.on E
  replace LW := LW.step E XLW
  replace E := Ext.refl (No) w
  replace HF := HF.and (Per.nums0 hx)
  replace HF := HF.on E
  replace LW := LW.step E XLW
  replace E := Ext.refl (No) w
  replace HF := HF.and (Per.nums0 hy)
  replace HF := HF.on E
  replace LW := LW.step E XLW
  replace E := Ext.refl (No) w
  replace HF := HF.and (Per.nums0 hz)
  refine cw_seq ?_
  refine cw_region ?_
  refine rs_op rfl (ow_boxB rfl ?_)
  intro gb1 w2 Bb1 Eb1 Gb1
  have Gb1 : _ ≤ gb1 := Nat.le_trans E.size Gb1
  have GLb1 := Nat.le_trans LW.size Gb1
  replace E := E.trans Eb1.no
  clear Eb1
  replace HF := HF.cons (some_ge Gb1)
  replace E := E.cons (some gb1)
  replace XLW := Mut.grow XLW (fun k e => Or.inr (Nat.le_trans LW.size ((some_ge Gb1) k e)))
  replace HF := HF.on E
  replace LW := LW.step E XLW
  have SB : ∀ q9, No q9 → Mut [(some gb1)] q9 := (Mut.skip Mut.nil_)
  replace HF := HF.less SB
  replace XLW := fun k h => XLW k (SB k h)
  clear SB
  replace E := Ext.refl (No) w2
  replace HF := HF.and (Per.blkN Bb1 NotIn.nil)
  clear Bb1
  refine rs_op rfl (ow_boxB rfl ?_)
  intro gb3 w4 Bb3 Eb3 Gb3
  have Gb3 : _ ≤ gb3 := Nat.le_trans E.size Gb3
  have GLb3 := Nat.le_trans LW.size Gb3
  replace E := E.trans Eb3.no
  clear Eb3
  replace HF := HF.cons (some_ge Gb3)
  replace E := E.cons (some gb3)
  replace XLW := Mut.grow XLW (fun k e => Or.inr (Nat.le_trans LW.size ((some_ge Gb3) k e)))
  replace HF := HF.on E
  replace LW := LW.step E XLW
  have SB : ∀ q9, No q9 → Mut [(some gb3)] q9 := (Mut.skip Mut.nil_)
  replace HF := HF.less SB
  replace XLW := fun k h => XLW k (SB k h)
  clear SB
  replace E := Ext.refl (No) w4
  replace HF := HF.and (Per.blkN Bb3 NotIn.nil)
  clear Bb3
  refine rs_op rfl (ow_boxB rfl ?_)
  intro gb5 w6 Bb5 Eb5 Gb5
  have Gb5 : _ ≤ gb5 := Nat.le_trans E.size Gb5
  have GLb5 := Nat.le_trans LW.size Gb5
  replace E := E.trans Eb5.no
  clear Eb5
  replace HF := HF.cons (some_ge Gb5)
  replace E := E.cons (some gb5)
  replace XLW := Mut.grow XLW (fun k e => Or.inr (Nat.le_trans LW.size ((some_ge Gb5) k e)))
  replace HF := HF.on E
  replace LW := LW.step E XLW
  have SB : ∀ q9, No q9 → Mut [(some gb5)] q9 := (Mut.skip Mut.nil_)
  replace HF := HF.less SB
  replace XLW := fun k h => XLW k (SB k h)
  clear SB
  replace E := Ext.refl (No) w6
  replace HF := HF.and (Per.blkN Bb5 NotIn.nil)
  clear Bb5
  refine rs_op rfl (ow_assign rfl ?_)
  refine rs_nil ?_
  refine ew_next ?_
  refine cw_seq ?_
  refine cw_seq ?_
  refine cw_region ?_
  refine rs_op rfl (ow_enter en13 rfl ((known_any _).mono ?_))
  rintro e w7 ⟨rfl, hb⟩
  refine ⟨_, rfl, ?_⟩
  have XC : ∀ q9, (No) q9 → q9 < w6.heap.size := Mut.none_
  have SC := Nat.le_trans LW.size E.size
  have SE := E.size
  have Ec := Ext.of_below hb No
  replace E := E.trans Ec.no
  clear hb Ec
  refine rs_op rfl (ow_not rfl ?_)
  refine rs_nil ?_
  refine ew_next ?_
  refine cw_else rfl ?_
  refine cw_skip ?_
  refine ew_next ?_
  refine cw_seq ?_
  refine cw_seq ?_
  refine cw_region ?_
  refine rs_op rfl (ow_loadB Tryd.underlying24 rfl sz24 rfl (HF.on E).here.1.1.2 rfl ?_)
  refine rs_op rfl (ow_enter en19 rfl ((hgood _ (HF.on E).here.1.1.1.1.1.2).mono ?_))
  rintro e w8 ⟨rfl, hb⟩
  refine ⟨_, rfl, ?_⟩
  have XC : ∀ q9, (No) q9 → q9 < w7.heap.size := Mut.none_
  have SC := Nat.le_trans LW.size E.size
  have SE := E.size
  have Ec := Ext.of_below hb No
  replace E := E.trans Ec.no
  clear hb Ec
  refine rs_op rfl (ow_not rfl ?_)
  refine rs_op rfl (ow_move rfl ?_)
  refine rs_op rfl (ow_off rfl ?_)
  refine rs_op rfl (ow_off rfl ?_)
  refine rs_op rfl (ow_off rfl ?_)
  refine rs_op rfl (ow_pickT rfl rfl ?_)
  refine rs_op rfl (ow_move rfl ?_)
  refine rs_op rfl (ow_off rfl ?_)
  refine rs_op rfl (ow_off rfl ?_)
  refine rs_op rfl (ow_off rfl ?_)
  refine rs_op rfl (ow_pickT rfl rfl ?_)
  refine rs_nil ?_
  refine ew_next ?_
  refine cw_then rfl ?_
  refine cw_seq ?_
  have OY : ∀ q9, (Mut (outM [])) q9 → q9 < (World.drew w8).heap.size → (No) q9 := fun k h _ => (Mut.none_) k h
  refine cw_drawn (No) Mut.none_ [] [] (fxAt [Fx.of (.agg #[.bool n1, .slice A xs.length c]),
      Fx.of (.bool false),
      Fx.of (.agg #[.bool n1, .slice A xs.length c]),
      Fx.of (.bool false),
      Fx.of (.bool false),
      Fx.of (.bool false),
      Fx.of (.agg #[.bool n1, .slice A xs.length c]),
      Fx.of (.agg #[.bool n2, .slice B ys.length d]),
      Fx.of (.int .i64 3),
      Fx.of (.bool true),
      Fx.of (.bool true),
      Fx.of (.bool true),
      Fx.of undef,
      Fx.of undef,
      Fx.of undef,
      Fx.of undef,
      Fx.of (.bool true),
      Fx.of (.bool true)]) mixed rfl trivial (fun _ h => by cases h) ?_ ?_
  · refine ⟨?_, ?_, ?_, ?_, ?_, ?_, ?_, ?_, ?_, ?_, ?_, ?_, ?_, ?_, ?_, ?_, ?_, ?_, trivial⟩
    · intro vs X wq K
      have LE := K.1
      have XN := K.2.1
      have SQ := Nat.le_trans LW.size (Nat.le_trans E.size LE.size)
      exact ow_loadB Tryd.underlying24 rfl sz24 rfl (HF.on (E.drew.trans (LE.mono OY))).here.1.1.2 rfl ⟨Below.refl _ _, Left.of rfl⟩
    · intro vs X wq K
      have LE := K.1
      have XN := K.2.1
      have SQ := Nat.le_trans LW.size (Nat.le_trans E.size LE.size)
      obtain ⟨_, e0, k0⟩ := K.dep 0 rfl rfl rfl
      refine ow_set 38 (.agg #[.bool n1, .slice A xs.length c]) rfl e0 ?_
      refine ow_enter en20 rfl ((hrgood _ (HF.on (E.drew.trans (LE.mono OY))).here.1.1.1.1.1.2).mono ?_)
      rintro e w2 ⟨rfl, hb⟩
      exact ⟨_, rfl, hb, Left.of rfl⟩
    · intro vs X wq K
      have LE := K.1
      have XN := K.2.1
      have SQ := Nat.le_trans LW.size (Nat.le_trans E.size LE.size)
      exact ow_loadB Tryd.underlying24 rfl sz24 rfl (HF.on (E.drew.trans (LE.mono OY))).here.1.1.2 rfl ⟨Below.refl _ _, Left.of rfl⟩
    · intro vs X wq K
      have LE := K.1
      have XN := K.2.1
      have SQ := Nat.le_trans LW.size (Nat.le_trans E.size LE.size)
      obtain ⟨_, e2, k2⟩ := K.dep 2 rfl rfl rfl
      refine ow_set 40 (.agg #[.bool n1, .slice A xs.length c]) rfl e2 ?_
      refine ow_enter en19 rfl ((hgood _ (HF.on (E.drew.trans (LE.mono OY))).here.1.1.1.1.1.2).mono ?_)
      rintro e w2 ⟨rfl, hb⟩
      exact ⟨_, rfl, hb, Left.of rfl⟩
    · intro vs X wq K
      have LE := K.1
      have XN := K.2.1
      have SQ := Nat.le_trans LW.size (Nat.le_trans E.size LE.size)
      obtain ⟨_, e1, k1⟩ := K.dep 1 rfl rfl rfl
      refine ow_set 39 (.bool false) rfl e1 ?_
      obtain ⟨_, e3, k3⟩ := K.dep 3 rfl rfl rfl
      refine ow_set 41 (.bool false) rfl e3 ?_
      exact ow_neqB Tryd.underlying4 rfl rfl ⟨Below.refl _ _, Left.of (rfl)⟩
    · intro vs X wq K
      have LE := K.1
      have XN := K.2.1
      have SQ := Nat.le_trans LW.size (Nat.le_trans E.size LE.size)
      obtain ⟨_, e4, k4⟩ := K.dep 4 rfl rfl rfl
      refine ow_set 42 (.bool false) rfl e4 ?_
      exact ow_move rfl ⟨Below.refl _ _, Left.of rfl⟩
    · intro vs X wq K
      have LE := K.1
      have XN := K.2.1
      have SQ := Nat.le_trans LW.size (Nat.le_trans E.size LE.size)
      obtain ⟨_, e5, k5⟩ := K.dep 5 rfl rfl rfl
      refine ow_set 43 (.bool false) rfl e5 ?_
      exact ow_on rfl (ow_loadB Tryd.underlying24 rfl sz24 rfl (HF.on (E.drew.trans (LE.mono OY))).here.1.1.2 rfl ⟨Below.refl _ _, Left.of rfl⟩)
    · intro vs X wq K
      have LE := K.1
      have XN := K.2.1
      have SQ := Nat.le_trans LW.size (Nat.le_trans E.size LE.size)
      obtain ⟨_, e5, k5⟩ := K.dep 5 rfl rfl rfl
      refine ow_set 43 (.bool false) rfl e5 ?_
      exact ow_on rfl (ow_loadB Tryd.underlying24 rfl sz24 rfl (HF.on (E.drew.trans (LE.mono OY))).here.1.2 rfl ⟨Below.refl _ _, Left.of rfl⟩)
    · intro vs X wq K
      have LE := K.1
      have XN := K.2.1
      have SQ := Nat.le_trans LW.size (Nat.le_trans E.size LE.size)
      obtain ⟨_, e6, k6⟩ := K.dep 6 rfl rfl rfl
      refine ow_set 44 (.agg #[.bool n1, .slice A xs.length c]) rfl e6 ?_
      obtain ⟨_, e7, k7⟩ := K.dep 7 rfl rfl rfl
      refine ow_set 45 (.agg #[.bool n2, .slice B ys.length d]) rfl e7 ?_
      obtain ⟨_, e5, k5⟩ := K.dep 5 rfl rfl rfl
      refine ow_set 43 (.bool false) rfl e5 ?_
      refine ow_on rfl (ow_enter en15 rfl ((hform _ (HF.on (E.drew.trans (LE.mono OY))).here.1.1.1.1.1.2 (HF.on (E.drew.trans (LE.mono OY))).here.1.1.1.1.2).mono ?_))
      rintro e w2 ⟨rfl, hb⟩
      exact ⟨_, rfl, hb, Left.of rfl⟩
    · intro vs X wq K
      have LE := K.1
      have XN := K.2.1
      have SQ := Nat.le_trans LW.size (Nat.le_trans E.size LE.size)
      obtain ⟨_, e8, k8⟩ := K.dep 8 rfl rfl rfl
      refine ow_set 46 (.int .i64 3) rfl e8 ?_
      obtain ⟨_, e5, k5⟩ := K.dep 5 rfl rfl rfl
      refine ow_set 43 (.bool false) rfl e5 ?_
      exact ow_on rfl (ow_neq rfl rfl ⟨Below.refl _ _, Left.of (rfl)⟩)
    · intro vs X wq K
      have LE := K.1
      have XN := K.2.1
      have SQ := Nat.le_trans LW.size (Nat.le_trans E.size LE.size)
      obtain ⟨_, e5, k5⟩ := K.dep 5 rfl rfl rfl
      refine ow_set 43 (.bool false) rfl e5 ?_
      obtain ⟨_, e9, k9⟩ := K.dep 9 rfl rfl rfl
      refine ow_set 47 (.bool true) rfl e9 ?_
      exact ow_pickF rfl rfl ⟨Below.refl _ _, Left.of rfl⟩
    · intro vs X wq K
      have LE := K.1
      have XN := K.2.1
      have SQ := Nat.le_trans LW.size (Nat.le_trans E.size LE.size)
      obtain ⟨_, e10, k10⟩ := K.dep 10 rfl rfl rfl
      refine ow_set 48 (.bool true) rfl e10 ?_
      exact ow_move rfl ⟨Below.refl _ _, Left.of rfl⟩
    · intro vs X wq K
      have LE := K.1
      have XN := K.2.1
      have SQ := Nat.le_trans LW.size (Nat.le_trans E.size LE.size)
      obtain ⟨_, e11, k11⟩ := K.dep 11 rfl rfl rfl
      refine ow_set 49 (.bool true) rfl e11 ?_
      exact ow_off rfl ⟨Below.refl _ _, Left.of rfl⟩
    · intro vs X wq K
      have LE := K.1
      have XN := K.2.1
      have SQ := Nat.le_trans LW.size (Nat.le_trans E.size LE.size)
      obtain ⟨_, e11, k11⟩ := K.dep 11 rfl rfl rfl
      refine ow_set 49 (.bool true) rfl e11 ?_
      exact ow_off rfl ⟨Below.refl _ _, Left.of rfl⟩
    · intro vs X wq K
      have LE := K.1
      have XN := K.2.1
      have SQ := Nat.le_trans LW.size (Nat.le_trans E.size LE.size)
      obtain ⟨_, e12, k12⟩ := K.dep 12 rfl rfl rfl
      refine ow_set 50 (undef) rfl e12 ?_
      obtain ⟨_, e13, k13⟩ := K.dep 13 rfl rfl rfl
      refine ow_set 51 (undef) rfl e13 ?_
      obtain ⟨_, e11, k11⟩ := K.dep 11 rfl rfl rfl
      refine ow_set 49 (.bool true) rfl e11 ?_
      exact ow_off rfl ⟨Below.refl _ _, Left.of rfl⟩
    · intro vs X wq K
      have LE := K.1
      have XN := K.2.1
      have SQ := Nat.le_trans LW.size (Nat.le_trans E.size LE.size)
      obtain ⟨_, e14, k14⟩ := K.dep 14 rfl rfl rfl
      refine ow_set 52 (undef) rfl e14 ?_
      obtain ⟨_, e11, k11⟩ := K.dep 11 rfl rfl rfl
      refine ow_set 49 (.bool true) rfl e11 ?_
      exact ow_off rfl ⟨Below.refl _ _, Left.of rfl⟩
    · intro vs X wq K
      have LE := K.1
      have XN := K.2.1
      have SQ := Nat.le_trans LW.size (Nat.le_trans E.size LE.size)
      obtain ⟨_, e11, k11⟩ := K.dep 11 rfl rfl rfl
      refine ow_set 49 (.bool true) rfl e11 ?_
      obtain ⟨_, e15, k15⟩ := K.dep 15 rfl rfl rfl
      refine ow_set 53 (undef) rfl e15 ?_
      exact ow_pickT rfl rfl ⟨Below.refl _ _, Left.of rfl⟩
    · intro vs X wq K
      have LE := K.1
      have XN := K.2.1
      have SQ := Nat.le_trans LW.size (Nat.le_trans E.size LE.size)
      obtain ⟨_, e16, k16⟩ := K.dep 16 rfl rfl rfl
      refine ow_set 54 (.bool true) rfl e16 ?_
      exact ow_assign rfl ⟨Below.refl _ _, Left.of rfl⟩
  intro vs w9 LE AO AL AF AA
  replace E := E.drew.trans (LE.mono OY)
  obtain ⟨_, e17, k17⟩ := AL.2.2.2.2.2.2.2.2.2.2.2.2.2.2.2.2.2.1
  refine ew_sub (τ := [(3, _), (4, _), (5, _), (6, .bool true)]) ⟨rfl, rfl, rfl, congrArg some e17, trivial⟩ ?_
  clear AL AF AA LE AO OY e17 k17
  refine ew_next ?_
  refine cw_ret ?_
  refine ew_then_ret ?_
  refine ew_ret (rs := [.tmp 6]) (vs := [_]) rfl ⟨rfl, trivial⟩ ?_
  exact ⟨rfl, (LW.step E XLW).toBelow⟩
theorem ring_bad2 (hx : Nums w A xs) (hy : Nums w B ys) (hz : Nums w C zs) (hl : xs.length ≤ 9223372036854775807) (hl' : ys.length ≤ 9223372036854775807) (hg : goodB n1 xs = true) (hk : goodB n2 ys = false) :
    Calls Tryd.prog 9 #[.agg #[.bool n1, .slice A xs.length c], .agg #[.bool n2, .slice B ys.length d], .agg #[.bool n3, .slice C zs.length f]] w (LawTrue w) := by
  have hgood := fun w hx => good_any n1 c w A xs hl hx
  have hgood2 := fun w hx => good_any n2 d w B ys hl' hx
  have hrgood := fun w hx => rgood_any n1 c w A xs hl hx
  have hform := fun w hx hy => lform_any n1 n2 A B c d xs ys w hx hy hl hl'
  rw [hg] at hgood hrgood hform
  rw [hk] at hgood2 hform
  refine calls_cw Tryd.func9 rfl Tryd.ntmps9 rfl ?_
  have HF : Per (No) w (fun _ => True) := Per.true_
  have LW := Ext.refl (No) w
  have XLW : ∀ q9, (No) q9 → (No) q9 ∨ w.heap.size ≤ q9 := fun _ h => Or.inl h
  have E := Ext.refl (No) w
  replace HF := HF.on E
  replace LW := LW.step E XLW
  replace E := Ext.refl (No) w
  replace HF := HF.and (Per.nums0 hx)
  replace HF := HF.on E
  replace LW := LW.step E XLW
  replace E := Ext.refl (No) w
  replace HF := HF.and (Per.nums0 hy)
  replace HF := HF.on E
  replace LW := LW.step E XLW
  replace E := Ext.refl (No) w
  replace HF := HF.and (Per.nums0 hz)
  refine cw_seq ?_
  refine cw_region ?_
  refine rs_op rfl (ow_boxB rfl ?_)
  intro gb1 w2 Bb1 Eb1 Gb1
  have Gb1 : _ ≤ gb1 := Nat.le_trans E.size Gb1
  have GLb1 := Nat.le_trans LW.size Gb1
  replace E := E.trans Eb1.no
  clear Eb1
  replace HF := HF.cons (some_ge Gb1)
  replace E := E.cons (some gb1)
  replace XLW := Mut.grow XLW (fun k e => Or.inr (Nat.le_trans LW.size ((some_ge Gb1) k e)))
  replace HF := HF.on E
  replace LW := LW.step E XLW
  have SB : ∀ q9, No q9 → Mut [(some gb1)] q9 := (Mut.skip Mut.nil_)
  replace HF := HF.less SB
  replace XLW := fun k h => XLW k (SB k h)
  clear SB
  replace E := Ext.refl (No) w2
  replace HF := HF.and (Per.blkN Bb1 NotIn.nil)
  clear Bb1
  refine rs_op rfl (ow_boxB rfl ?_)
  intro gb3 w4 Bb3 Eb3 Gb3
  have Gb3 : _ ≤ gb3 := Nat.le_trans E.size Gb3
  have GLb3 := Nat.le_trans LW.size Gb3
  replace E := E.trans Eb3.no
  clear Eb3
  replace HF := HF.cons (some_ge Gb3)
  replace E := E.cons (some gb3)
  replace XLW := Mut.grow XLW (fun k e => Or.inr (Nat.le_trans LW.size ((some_ge Gb3) k e)))
  replace HF := HF.on E
  replace LW := LW.step E XLW
  have SB : ∀ q9, No q9 → Mut [(some gb3)] q9 := (Mut.skip Mut.nil_)
  replace HF := HF.less SB
  replace XLW := fun k h => XLW k (SB k h)
  clear SB
  replace E := Ext.refl (No) w4
  replace HF := HF.and (Per.blkN Bb3 NotIn.nil)
  clear Bb3
  refine rs_op rfl (ow_boxB rfl ?_)
  intro gb5 w6 Bb5 Eb5 Gb5
  have Gb5 : _ ≤ gb5 := Nat.le_trans E.size Gb5
  have GLb5 := Nat.le_trans LW.size Gb5
  replace E := E.trans Eb5.no
  clear Eb5
  replace HF := HF.cons (some_ge Gb5)
  replace E := E.cons (some gb5)
  replace XLW := Mut.grow XLW (fun k e => Or.inr (Nat.le_trans LW.size ((some_ge Gb5) k e)))
  replace HF := HF.on E
  replace LW := LW.step E XLW
  have SB : ∀ q9, No q9 → Mut [(some gb5)] q9 := (Mut.skip Mut.nil_)
  replace HF := HF.less SB
  replace XLW := fun k h => XLW k (SB k h)
  clear SB
  replace E := Ext.refl (No) w6
  replace HF := HF.and (Per.blkN Bb5 NotIn.nil)
  clear Bb5
  refine rs_op rfl (ow_assign rfl ?_)
  refine rs_nil ?_
  refine ew_next ?_
  refine cw_seq ?_
  refine cw_seq ?_
  refine cw_region ?_
  refine rs_op rfl (ow_enter en13 rfl ((known_any _).mono ?_))
  rintro e w7 ⟨rfl, hb⟩
  refine ⟨_, rfl, ?_⟩
  have XC : ∀ q9, (No) q9 → q9 < w6.heap.size := Mut.none_
  have SC := Nat.le_trans LW.size E.size
  have SE := E.size
  have Ec := Ext.of_below hb No
  replace E := E.trans Ec.no
  clear hb Ec
  refine rs_op rfl (ow_not rfl ?_)
  refine rs_nil ?_
  refine ew_next ?_
  refine cw_else rfl ?_
  refine cw_skip ?_
  refine ew_next ?_
  refine cw_seq ?_
  refine cw_seq ?_
  refine cw_region ?_
  refine rs_op rfl (ow_loadB Tryd.underlying24 rfl sz24 rfl (HF.on E).here.1.1.2 rfl ?_)
  refine rs_op rfl (ow_enter en19 rfl ((hgood _ (HF.on E).here.1.1.1.1.1.2).mono ?_))
  rintro e w8 ⟨rfl, hb⟩
  refine ⟨_, rfl, ?_⟩
  have XC : ∀ q9, (No) q9 → q9 < w7.heap.size := Mut.none_
  have SC := Nat.le_trans LW.size E.size
  have SE := E.size
  have Ec := Ext.of_below hb No
  replace E := E.trans Ec.no
  clear hb Ec
  refine rs_op rfl (ow_not rfl ?_)
  refine rs_op rfl (ow_move rfl ?_)
  refine rs_op rfl (ow_on rfl (ow_loadB Tryd.underlying24 rfl sz24 rfl (HF.on E).here.1.2 rfl ?_))
  refine rs_op rfl (ow_on rfl (ow_enter en19 rfl ((hgood2 _ (HF.on E).here.1.1.1.1.2).mono ?_)))
  rintro e w9 ⟨rfl, hb⟩
  refine ⟨_, rfl, ?_⟩
  have XC : ∀ q9, (No) q9 → q9 < w8.heap.size := Mut.none_
  have SC := Nat.le_trans LW.size E.size
  have SE := E.size
  have Ec := Ext.of_below hb No
  replace E := E.trans Ec.no
  clear hb Ec
  refine rs_op rfl (ow_on rfl (ow_not rfl ?_))
  refine rs_op rfl (ow_pickF rfl rfl ?_)
  refine rs_op rfl (ow_move rfl ?_)
  refine rs_op rfl (ow_off rfl ?_)
  refine rs_op rfl (ow_off rfl ?_)
  refine rs_op rfl (ow_off rfl ?_)
  refine rs_op rfl (ow_pickT rfl rfl ?_)
  refine rs_nil ?_
  refine ew_next ?_
  refine cw_then rfl ?_
  refine cw_seq ?_
  have OY : ∀ q9, (Mut (outM [])) q9 → q9 < (World.drew w9).heap.size → (No) q9 := fun k h _ => (Mut.none_) k h
  refine cw_drawn (No) Mut.none_ [] [] (fxAt [Fx.of (.agg #[.bool n1, .slice A xs.length c]),
      Fx.of (.bool true),
      Fx.of (.agg #[.bool n1, .slice A xs.length c]),
      Fx.of (.bool true),
      Fx.of (.bool false),
      Fx.of (.bool false),
      Fx.of (.agg #[.bool n1, .slice A xs.length c]),
      Fx.of (.agg #[.bool n2, .slice B ys.length d]),
      Fx.of (.int .i64 3),
      Fx.of (.bool true),
      Fx.of (.bool true),
      Fx.of (.bool true),
      Fx.of undef,
      Fx.of undef,
      Fx.of undef,
      Fx.of undef,
      Fx.of (.bool true),
      Fx.of (.bool true)]) mixed rfl trivial (fun _ h => by cases h) ?_ ?_
  · refine ⟨?_, ?_, ?_, ?_, ?_, ?_, ?_, ?_, ?_, ?_, ?_, ?_, ?_, ?_, ?_, ?_, ?_, ?_, trivial⟩
    · intro vs X wq K
      have LE := K.1
      have XN := K.2.1
      have SQ := Nat.le_trans LW.size (Nat.le_trans E.size LE.size)
      exact ow_loadB Tryd.underlying24 rfl sz24 rfl (HF.on (E.drew.trans (LE.mono OY))).here.1.1.2 rfl ⟨Below.refl _ _, Left.of rfl⟩
    · intro vs X wq K
      have LE := K.1
      have XN := K.2.1
      have SQ := Nat.le_trans LW.size (Nat.le_trans E.size LE.size)
      obtain ⟨_, e0, k0⟩ := K.dep 0 rfl rfl rfl
      refine ow_set 38 (.agg #[.bool n1, .slice A xs.length c]) rfl e0 ?_
      refine ow_enter en20 rfl ((hrgood _ (HF.on (E.drew.trans (LE.mono OY))).here.1.1.1.1.1.2).mono ?_)
      rintro e w2 ⟨rfl, hb⟩
      exact ⟨_, rfl, hb, Left.of rfl⟩
    · intro vs X wq K
      have LE := K.1
      have XN := K.2.1
      have SQ := Nat.le_trans LW.size (Nat.le_trans E.size LE.size)
      exact ow_loadB Tryd.underlying24 rfl sz24 rfl (HF.on (E.drew.trans (LE.mono OY))).here.1.1.2 rfl ⟨Below.refl _ _, Left.of rfl⟩
    · intro vs X wq K
      have LE := K.1
      have XN := K.2.1
      have SQ := Nat.le_trans LW.size (Nat.le_trans E.size LE.size)
      obtain ⟨_, e2, k2⟩ := K.dep 2 rfl rfl rfl
      refine ow_set 40 (.agg #[.bool n1, .slice A xs.length c]) rfl e2 ?_
      refine ow_enter en19 rfl ((hgood _ (HF.on (E.drew.trans (LE.mono OY))).here.1.1.1.1.1.2).mono ?_)
      rintro e w2 ⟨rfl, hb⟩
      exact ⟨_, rfl, hb, Left.of rfl⟩
    · intro vs X wq K
      have LE := K.1
      have XN := K.2.1
      have SQ := Nat.le_trans LW.size (Nat.le_trans E.size LE.size)
      obtain ⟨_, e1, k1⟩ := K.dep 1 rfl rfl rfl
      refine ow_set 39 (.bool true) rfl e1 ?_
      obtain ⟨_, e3, k3⟩ := K.dep 3 rfl rfl rfl
      refine ow_set 41 (.bool true) rfl e3 ?_
      exact ow_neqB Tryd.underlying4 rfl rfl ⟨Below.refl _ _, Left.of (rfl)⟩
    · intro vs X wq K
      have LE := K.1
      have XN := K.2.1
      have SQ := Nat.le_trans LW.size (Nat.le_trans E.size LE.size)
      obtain ⟨_, e4, k4⟩ := K.dep 4 rfl rfl rfl
      refine ow_set 42 (.bool false) rfl e4 ?_
      exact ow_move rfl ⟨Below.refl _ _, Left.of rfl⟩
    · intro vs X wq K
      have LE := K.1
      have XN := K.2.1
      have SQ := Nat.le_trans LW.size (Nat.le_trans E.size LE.size)
      obtain ⟨_, e5, k5⟩ := K.dep 5 rfl rfl rfl
      refine ow_set 43 (.bool false) rfl e5 ?_
      exact ow_on rfl (ow_loadB Tryd.underlying24 rfl sz24 rfl (HF.on (E.drew.trans (LE.mono OY))).here.1.1.2 rfl ⟨Below.refl _ _, Left.of rfl⟩)
    · intro vs X wq K
      have LE := K.1
      have XN := K.2.1
      have SQ := Nat.le_trans LW.size (Nat.le_trans E.size LE.size)
      obtain ⟨_, e5, k5⟩ := K.dep 5 rfl rfl rfl
      refine ow_set 43 (.bool false) rfl e5 ?_
      exact ow_on rfl (ow_loadB Tryd.underlying24 rfl sz24 rfl (HF.on (E.drew.trans (LE.mono OY))).here.1.2 rfl ⟨Below.refl _ _, Left.of rfl⟩)
    · intro vs X wq K
      have LE := K.1
      have XN := K.2.1
      have SQ := Nat.le_trans LW.size (Nat.le_trans E.size LE.size)
      obtain ⟨_, e6, k6⟩ := K.dep 6 rfl rfl rfl
      refine ow_set 44 (.agg #[.bool n1, .slice A xs.length c]) rfl e6 ?_
      obtain ⟨_, e7, k7⟩ := K.dep 7 rfl rfl rfl
      refine ow_set 45 (.agg #[.bool n2, .slice B ys.length d]) rfl e7 ?_
      obtain ⟨_, e5, k5⟩ := K.dep 5 rfl rfl rfl
      refine ow_set 43 (.bool false) rfl e5 ?_
      refine ow_on rfl (ow_enter en15 rfl ((hform _ (HF.on (E.drew.trans (LE.mono OY))).here.1.1.1.1.1.2 (HF.on (E.drew.trans (LE.mono OY))).here.1.1.1.1.2).mono ?_))
      rintro e w2 ⟨rfl, hb⟩
      exact ⟨_, rfl, hb, Left.of rfl⟩
    · intro vs X wq K
      have LE := K.1
      have XN := K.2.1
      have SQ := Nat.le_trans LW.size (Nat.le_trans E.size LE.size)
      obtain ⟨_, e8, k8⟩ := K.dep 8 rfl rfl rfl
      refine ow_set 46 (.int .i64 3) rfl e8 ?_
      obtain ⟨_, e5, k5⟩ := K.dep 5 rfl rfl rfl
      refine ow_set 43 (.bool false) rfl e5 ?_
      exact ow_on rfl (ow_neq rfl rfl ⟨Below.refl _ _, Left.of (rfl)⟩)
    · intro vs X wq K
      have LE := K.1
      have XN := K.2.1
      have SQ := Nat.le_trans LW.size (Nat.le_trans E.size LE.size)
      obtain ⟨_, e5, k5⟩ := K.dep 5 rfl rfl rfl
      refine ow_set 43 (.bool false) rfl e5 ?_
      obtain ⟨_, e9, k9⟩ := K.dep 9 rfl rfl rfl
      refine ow_set 47 (.bool true) rfl e9 ?_
      exact ow_pickF rfl rfl ⟨Below.refl _ _, Left.of rfl⟩
    · intro vs X wq K
      have LE := K.1
      have XN := K.2.1
      have SQ := Nat.le_trans LW.size (Nat.le_trans E.size LE.size)
      obtain ⟨_, e10, k10⟩ := K.dep 10 rfl rfl rfl
      refine ow_set 48 (.bool true) rfl e10 ?_
      exact ow_move rfl ⟨Below.refl _ _, Left.of rfl⟩
    · intro vs X wq K
      have LE := K.1
      have XN := K.2.1
      have SQ := Nat.le_trans LW.size (Nat.le_trans E.size LE.size)
      obtain ⟨_, e11, k11⟩ := K.dep 11 rfl rfl rfl
      refine ow_set 49 (.bool true) rfl e11 ?_
      exact ow_off rfl ⟨Below.refl _ _, Left.of rfl⟩
    · intro vs X wq K
      have LE := K.1
      have XN := K.2.1
      have SQ := Nat.le_trans LW.size (Nat.le_trans E.size LE.size)
      obtain ⟨_, e11, k11⟩ := K.dep 11 rfl rfl rfl
      refine ow_set 49 (.bool true) rfl e11 ?_
      exact ow_off rfl ⟨Below.refl _ _, Left.of rfl⟩
    · intro vs X wq K
      have LE := K.1
      have XN := K.2.1
      have SQ := Nat.le_trans LW.size (Nat.le_trans E.size LE.size)
      obtain ⟨_, e12, k12⟩ := K.dep 12 rfl rfl rfl
      refine ow_set 50 (undef) rfl e12 ?_
      obtain ⟨_, e13, k13⟩ := K.dep 13 rfl rfl rfl
      refine ow_set 51 (undef) rfl e13 ?_
      obtain ⟨_, e11, k11⟩ := K.dep 11 rfl rfl rfl
      refine ow_set 49 (.bool true) rfl e11 ?_
      exact ow_off rfl ⟨Below.refl _ _, Left.of rfl⟩
    · intro vs X wq K
      have LE := K.1
      have XN := K.2.1
      have SQ := Nat.le_trans LW.size (Nat.le_trans E.size LE.size)
      obtain ⟨_, e14, k14⟩ := K.dep 14 rfl rfl rfl
      refine ow_set 52 (undef) rfl e14 ?_
      obtain ⟨_, e11, k11⟩ := K.dep 11 rfl rfl rfl
      refine ow_set 49 (.bool true) rfl e11 ?_
      exact ow_off rfl ⟨Below.refl _ _, Left.of rfl⟩
    · intro vs X wq K
      have LE := K.1
      have XN := K.2.1
      have SQ := Nat.le_trans LW.size (Nat.le_trans E.size LE.size)
      obtain ⟨_, e11, k11⟩ := K.dep 11 rfl rfl rfl
      refine ow_set 49 (.bool true) rfl e11 ?_
      obtain ⟨_, e15, k15⟩ := K.dep 15 rfl rfl rfl
      refine ow_set 53 (undef) rfl e15 ?_
      exact ow_pickT rfl rfl ⟨Below.refl _ _, Left.of rfl⟩
    · intro vs X wq K
      have LE := K.1
      have XN := K.2.1
      have SQ := Nat.le_trans LW.size (Nat.le_trans E.size LE.size)
      obtain ⟨_, e16, k16⟩ := K.dep 16 rfl rfl rfl
      refine ow_set 54 (.bool true) rfl e16 ?_
      exact ow_assign rfl ⟨Below.refl _ _, Left.of rfl⟩
  intro vs w10 LE AO AL AF AA
  replace E := E.drew.trans (LE.mono OY)
  obtain ⟨_, e17, k17⟩ := AL.2.2.2.2.2.2.2.2.2.2.2.2.2.2.2.2.2.1
  refine ew_sub (τ := [(3, _), (4, _), (5, _), (6, .bool true)]) ⟨rfl, rfl, rfl, congrArg some e17, trivial⟩ ?_
  clear AL AF AA LE AO OY e17 k17
  refine ew_next ?_
  refine cw_ret ?_
  refine ew_then_ret ?_
  refine ew_ret (rs := [.tmp 6]) (vs := [_]) rfl ⟨rfl, trivial⟩ ?_
  exact ⟨rfl, (LW.step E XLW).toBelow⟩
theorem ring_bad3 (hx : Nums w A xs) (hy : Nums w B ys) (hz : Nums w C zs) (hl : xs.length ≤ 9223372036854775807) (hl' : ys.length ≤ 9223372036854775807) (hl3 : zs.length ≤ 9223372036854775807) (hg : goodB n1 xs = true) (hk : goodB n2 ys = true) (hm : goodB n3 zs = false) :
    Calls Tryd.prog 9 #[.agg #[.bool n1, .slice A xs.length c], .agg #[.bool n2, .slice B ys.length d], .agg #[.bool n3, .slice C zs.length f]] w (LawTrue w) := by
  have hgood := fun w hx => good_any n1 c w A xs hl hx
  have hgood2 := fun w hx => good_any n2 d w B ys hl' hx
  have hgood3 := fun w hx => good_any n3 f w C zs hl3 hx
  have hrgood := fun w hx => rgood_any n1 c w A xs hl hx
  have hform := fun w hx hy => lform_any n1 n2 A B c d xs ys w hx hy hl hl'
  have hform3 := fun w hx hy => lform_any n3 n3 C C f f zs zs w hx hy hl3 hl3
  rw [hg] at hgood hrgood hform
  rw [hk] at hgood2 hform
  rw [hm] at hgood3 hform3
  refine calls_cw Tryd.func9 rfl Tryd.ntmps9 rfl ?_
  have HF : Per (No) w (fun _ => True) := Per.true_
  have LW := Ext.refl (No) w
  have XLW : ∀ q9, (No) q9 → (No) q9 ∨ w.heap.size ≤ q9 := fun _ h => Or.inl h
  have E := Ext.refl (No) w
  replace HF := HF.on E
  replace LW := LW.step E XLW
  replace E := Ext.refl (No) w
  replace HF := HF.and (Per.nums0 hx)
  replace HF := HF.on E
  replace LW := LW.step E XLW
  replace E := Ext.refl (No) w
  replace HF := HF.and (Per.nums0 hy)
  replace HF := HF.on E
  replace LW := LW.step E XLW
  replace E := Ext.refl (No) w
  replace HF := HF.and (Per.nums0 hz)
  refine cw_seq ?_
  refine cw_region ?_
  refine rs_op rfl (ow_boxB rfl ?_)
  intro gb1 w2 Bb1 Eb1 Gb1
  have Gb1 : _ ≤ gb1 := Nat.le_trans E.size Gb1
  have GLb1 := Nat.le_trans LW.size Gb1
  replace E := E.trans Eb1.no
  clear Eb1
  replace HF := HF.cons (some_ge Gb1)
  replace E := E.cons (some gb1)
  replace XLW := Mut.grow XLW (fun k e => Or.inr (Nat.le_trans LW.size ((some_ge Gb1) k e)))
  replace HF := HF.on E
  replace LW := LW.step E XLW
  have SB : ∀ q9, No q9 → Mut [(some gb1)] q9 := (Mut.skip Mut.nil_)
  replace HF := HF.less SB
  replace XLW := fun k h => XLW k (SB k h)
  clear SB
  replace E := Ext.refl (No) w2
  replace HF := HF.and (Per.blkN Bb1 NotIn.nil)
  clear Bb1
  refine rs_op rfl (ow_boxB rfl ?_)
  intro gb3 w4 Bb3 Eb3 Gb3
  have Gb3 : _ ≤ gb3 := Nat.le_trans E.size Gb3
  have GLb3 := Nat.le_trans LW.size Gb3
  replace E := E.trans Eb3.no
  clear Eb3
  replace HF := HF.cons (some_ge Gb3)
  replace E := E.cons (some gb3)
  replace XLW := Mut.grow XLW (fun k e => Or.inr (Nat.le_trans LW.size ((some_ge Gb3) k e)))
  replace HF := HF.on E
  replace LW := LW.step E XLW
  have SB : ∀ q9, No q9 → Mut [(some gb3)] q9 := (Mut.skip Mut.nil_)
  replace HF := HF.less SB
  replace XLW := fun k h => XLW k (SB k h)
  clear SB
  replace E := Ext.refl (No) w4
  replace HF := HF.and (Per.blkN Bb3 NotIn.nil)
  clear Bb3
  refine rs_op rfl (ow_boxB rfl ?_)
  intro gb5 w6 Bb5 Eb5 Gb5
  have Gb5 : _ ≤ gb5 := Nat.le_trans E.size Gb5
  have GLb5 := Nat.le_trans LW.size Gb5
  replace E := E.trans Eb5.no
  clear Eb5
  replace HF := HF.cons (some_ge Gb5)
  replace E := E.cons (some gb5)
  replace XLW := Mut.grow XLW (fun k e => Or.inr (Nat.le_trans LW.size ((some_ge Gb5) k e)))
  replace HF := HF.on E
  replace LW := LW.step E XLW
  have SB : ∀ q9, No q9 → Mut [(some gb5)] q9 := (Mut.skip Mut.nil_)
  replace HF := HF.less SB
  replace XLW := fun k h => XLW k (SB k h)
  clear SB
  replace E := Ext.refl (No) w6
  replace HF := HF.and (Per.blkN Bb5 NotIn.nil)
  clear Bb5
  refine rs_op rfl (ow_assign rfl ?_)
  refine rs_nil ?_
  refine ew_next ?_
  refine cw_seq ?_
  refine cw_seq ?_
  refine cw_region ?_
  refine rs_op rfl (ow_enter en13 rfl ((known_any _).mono ?_))
  rintro e w7 ⟨rfl, hb⟩
  refine ⟨_, rfl, ?_⟩
  have XC : ∀ q9, (No) q9 → q9 < w6.heap.size := Mut.none_
  have SC := Nat.le_trans LW.size E.size
  have SE := E.size
  have Ec := Ext.of_below hb No
  replace E := E.trans Ec.no
  clear hb Ec
  refine rs_op rfl (ow_not rfl ?_)
  refine rs_nil ?_
  refine ew_next ?_
  refine cw_else rfl ?_
  refine cw_skip ?_
  refine ew_next ?_
  refine cw_seq ?_
  refine cw_seq ?_
  refine cw_region ?_
  refine rs_op rfl (ow_loadB Tryd.underlying24 rfl sz24 rfl (HF.on E).here.1.1.2 rfl ?_)
  refine rs_op rfl (ow_enter en19 rfl ((hgood _ (HF.on E).here.1.1.1.1.1.2).mono ?_))
  rintro e w8 ⟨rfl, hb⟩
  refine ⟨_, rfl, ?_⟩
  have XC : ∀ q9, (No) q9 → q9 < w7.heap.size := Mut.none_
  have SC := Nat.le_trans LW.size E.size
  have SE := E.size
  have Ec := Ext.of_below hb No
  replace E := E.trans Ec.no
  clear hb Ec
  refine rs_op rfl (ow_not rfl ?_)
  refine rs_op rfl (ow_move rfl ?_)
  refine rs_op rfl (ow_on rfl (ow_loadB Tryd.underlying24 rfl sz24 rfl (HF.on E).here.1.2 rfl ?_))
  refine rs_op rfl (ow_on rfl (ow_enter en19 rfl ((hgood2 _ (HF.on E).here.1.1.1.1.2).mono ?_)))
  rintro e w9 ⟨rfl, hb⟩
  refine ⟨_, rfl, ?_⟩
  have XC : ∀ q9, (No) q9 → q9 < w8.heap.size := Mut.none_
  have SC := Nat.le_trans LW.size E.size
  have SE := E.size
  have Ec := Ext.of_below hb No
  replace E := E.trans Ec.no
  clear hb Ec
  refine rs_op rfl (ow_on rfl (ow_not rfl ?_))
  refine rs_op rfl (ow_pickF rfl rfl ?_)
  refine rs_op rfl (ow_move rfl ?_)
  refine rs_op rfl (ow_on rfl (ow_loadB Tryd.underlying24 rfl sz24 rfl (HF.on E).here.2 rfl ?_))
  refine rs_op rfl (ow_on rfl (ow_enter en19 rfl ((hgood3 _ (HF.on E).here.1.1.1.2).mono ?_)))
  rintro e w10 ⟨rfl, hb⟩
  refine ⟨_, rfl, ?_⟩
  have XC : ∀ q9, (No) q9 → q9 < w9.heap.size := Mut.none_
  have SC := Nat.le_trans LW.size E.size
  have SE := E.size
  have Ec := Ext.of_below hb No
  replace E := E.trans Ec.no
  clear hb Ec
  refine rs_op rfl (ow_on rfl (ow_not rfl ?_))
  refine rs_op rfl (ow_pickF rfl rfl ?_)
  refine rs_nil ?_
  refine ew_next ?_
  refine cw_then rfl ?_
  refine cw_seq ?_
  have OY : ∀ q9, (Mut (outM [])) q9 → q9 < (World.drew w10).heap.size → (No) q9 := fun k h _ => (Mut.none_) k h
  refine cw_drawn (No) Mut.none_ [] [] (fxAt [Fx.of (.agg #[.bool n1, .slice A xs.length c]),
      Fx.of (.bool true),
      Fx.of (.agg #[.bool n1, .slice A xs.length c]),
      Fx.of (.bool true),
      Fx.of (.bool false),
      Fx.of (.bool false),
      Fx.of (.agg #[.bool n1, .slice A xs.length c]),
      Fx.of (.agg #[.bool n2, .slice B ys.length d]),
      Fx.of (.int .i64 0),
      Fx.of (.bool false),
      Fx.of (.bool false),
      Fx.of (.bool false),
      Fx.of (.agg #[.bool n3, .slice C zs.length f]),
      Fx.of (.agg #[.bool n3, .slice C zs.length f]),
      Fx.of (.int .i64 3),
      Fx.of (.bool true),
      Fx.of (.bool true),
      Fx.of (.bool true)]) mixed rfl trivial (fun _ h => by cases h) ?_ ?_
  · refine ⟨?_, ?_, ?_, ?_, ?_, ?_, ?_, ?_, ?_, ?_, ?_, ?_, ?_, ?_, ?_, ?_, ?_, ?_, trivial⟩
    · intro vs X wq K
      have LE := K.1
      have XN := K.2.1
      have SQ := Nat.le_trans LW.size (Nat.le_trans E.size LE.size)
      exact ow_loadB Tryd.underlying24 rfl sz24 rfl (HF.on (E.drew.trans (LE.mono OY))).here.1.1.2 rfl ⟨Below.refl _ _, Left.of rfl⟩
    · intro vs X wq K
      have LE := K.1
      have XN := K.2.1
      have SQ := Nat.le_trans LW.size (Nat.le_trans E.size LE.size)
      obtain ⟨_, e0, k0⟩ := K.dep 0 rfl rfl rfl
      refine ow_set 38 (.agg #[.bool n1, .slice A xs.length c]) rfl e0 ?_
      refine ow_enter en20 rfl ((hrgood _ (HF.on (E.drew.trans (LE.mono OY))).here.1.1.1.1.1.2).mono ?_)
      rintro e w2 ⟨rfl, hb⟩
      exact ⟨_, rfl, hb, Left.of rfl⟩
    · intro vs X wq K
      have LE := K.1
      have XN := K.2.1
      have SQ := Nat.le_trans LW.size (Nat.le_trans E.size LE.size)
      exact ow_loadB Tryd.underlying24 rfl sz24 rfl (HF.on (E.drew.trans (LE.mono OY))).here.1.1.2 rfl ⟨Below.refl _ _, Left.of rfl⟩
    · intro vs X wq K
      have LE := K.1
      have XN := K.2.1
      have SQ := Nat.le_trans LW.size (Nat.le_trans E.size LE.size)
      obtain ⟨_, e2, k2⟩ := K.dep 2 rfl rfl rfl
      refine ow_set 40 (.agg #[.bool n1, .slice A xs.length c]) rfl e2 ?_
      refine ow_enter en19 rfl ((hgood _ (HF.on (E.drew.trans (LE.mono OY))).here.1.1.1.1.1.2).mono ?_)
      rintro e w2 ⟨rfl, hb⟩
      exact ⟨_, rfl, hb, Left.of rfl⟩
    · intro vs X wq K
      have LE := K.1
      have XN := K.2.1
      have SQ := Nat.le_trans LW.size (Nat.le_trans E.size LE.size)
      obtain ⟨_, e1, k1⟩ := K.dep 1 rfl rfl rfl
      refine ow_set 39 (.bool true) rfl e1 ?_
      obtain ⟨_, e3, k3⟩ := K.dep 3 rfl rfl rfl
      refine ow_set 41 (.bool true) rfl e3 ?_
      exact ow_neqB Tryd.underlying4 rfl rfl ⟨Below.refl _ _, Left.of (rfl)⟩
    · intro vs X wq K
      have LE := K.1
      have XN := K.2.1
      have SQ := Nat.le_trans LW.size (Nat.le_trans E.size LE.size)
      obtain ⟨_, e4, k4⟩ := K.dep 4 rfl rfl rfl
      refine ow_set 42 (.bool false) rfl e4 ?_
      exact ow_move rfl ⟨Below.refl _ _, Left.of rfl⟩
    · intro vs X wq K
      have LE := K.1
      have XN := K.2.1
      have SQ := Nat.le_trans LW.size (Nat.le_trans E.size LE.size)
      obtain ⟨_, e5, k5⟩ := K.dep 5 rfl rfl rfl
      refine ow_set 43 (.bool false) rfl e5 ?_
      exact ow_on rfl (ow_loadB Tryd.underlying24 rfl sz24 rfl (HF.on (E.drew.trans (LE.mono OY))).here.1.1.2 rfl ⟨Below.refl _ _, Left.of rfl⟩)
    · intro vs X wq K
      have LE := K.1
      have XN := K.2.1
      have SQ := Nat.le_trans LW.size (Nat.le_trans E.size LE.size)
      obtain ⟨_, e5, k5⟩ := K.dep 5 rfl rfl rfl
      refine ow_set 43 (.bool false) rfl e5 ?_
      exact ow_on rfl (ow_loadB Tryd.underlying24 rfl sz24 rfl (HF.on (E.drew.trans (LE.mono OY))).here.1.2 rfl ⟨Below.refl _ _, Left.of rfl⟩)
    · intro vs X wq K
      have LE := K.1
      have XN := K.2.1
      have SQ := Nat.le_trans LW.size (Nat.le_trans E.size LE.size)
      obtain ⟨_, e6, k6⟩ := K.dep 6 rfl rfl rfl
      refine ow_set 44 (.agg #[.bool n1, .slice A xs.length c]) rfl e6 ?_
      obtain ⟨_, e7, k7⟩ := K.dep 7 rfl rfl rfl
      refine ow_set 45 (.agg #[.bool n2, .slice B ys.length d]) rfl e7 ?_
      obtain ⟨_, e5, k5⟩ := K.dep 5 rfl rfl rfl
      refine ow_set 43 (.bool false) rfl e5 ?_
      refine ow_on rfl (ow_enter en15 rfl ((hform _ (HF.on (E.drew.trans (LE.mono OY))).here.1.1.1.1.1.2 (HF.on (E.drew.trans (LE.mono OY))).here.1.1.1.1.2).mono ?_))
      rintro e w2 ⟨rfl, hb⟩
      exact ⟨_, rfl, hb, Left.of rfl⟩
    · intro vs X wq K
      have LE := K.1
      have XN := K.2.1
      have SQ := Nat.le_trans LW.size (Nat.le_trans E.size LE.size)
      obtain ⟨_, e8, k8⟩ := K.dep 8 rfl rfl rfl
      refine ow_set 46 (.int .i64 0) rfl e8 ?_
      obtain ⟨_, e5, k5⟩ := K.dep 5 rfl rfl rfl
      refine ow_set 43 (.bool false) rfl e5 ?_
      exact ow_on rfl (ow_neq rfl rfl ⟨Below.refl _ _, Left.of rfl⟩)
    · intro vs X wq K
      have LE := K.1
      have XN := K.2.1
      have SQ := Nat.le_trans LW.size (Nat.le_trans E.size LE.size)
      obtain ⟨_, e5, k5⟩ := K.dep 5 rfl rfl rfl
      refine ow_set 43 (.bool false) rfl e5 ?_
      obtain ⟨_, e9, k9⟩ := K.dep 9 rfl rfl rfl
      refine ow_set 47 (.bool false) rfl e9 ?_
      exact ow_pickF rfl rfl ⟨Below.refl _ _, Left.of rfl⟩
    · intro vs X wq K
      have LE := K.1
      have XN := K.2.1
      have SQ := Nat.le_trans LW.size (Nat.le_trans E.size LE.size)
      obtain ⟨_, e10, k10⟩ := K.dep 10 rfl rfl rfl
      refine ow_set 48 (.bool false) rfl e10 ?_
      exact ow_move rfl ⟨Below.refl _ _, Left.of rfl⟩
    · intro vs X wq K
      have LE := K.1
      have XN := K.2.1
      have SQ := Nat.le_trans LW.size (Nat.le_trans E.size LE.size)
      obtain ⟨_, e11, k11⟩ := K.dep 11 rfl rfl rfl
      refine ow_set 49 (.bool false) rfl e11 ?_
      exact ow_on rfl (ow_loadB Tryd.underlying24 rfl sz24 rfl (HF.on (E.drew.trans (LE.mono OY))).here.2 rfl ⟨Below.refl _ _, Left.of rfl⟩)
    · intro vs X wq K
      have LE := K.1
      have XN := K.2.1
      have SQ := Nat.le_trans LW.size (Nat.le_trans E.size LE.size)
      obtain ⟨_, e11, k11⟩ := K.dep 11 rfl rfl rfl
      refine ow_set 49 (.bool false) rfl e11 ?_
      exact ow_on rfl (ow_loadB Tryd.underlying24 rfl sz24 rfl (HF.on (E.drew.trans (LE.mono OY))).here.2 rfl ⟨Below.refl _ _, Left.of rfl⟩)
    · intro vs X wq K
      have LE := K.1
      have XN := K.2.1
      have SQ := Nat.le_trans LW.size (Nat.le_trans E.size LE.size)
      obtain ⟨_, e12, k12⟩ := K.dep 12 rfl rfl rfl
      refine ow_set 50 (.agg #[.bool n3, .slice C zs.length f]) rfl e12 ?_
      obtain ⟨_, e13, k13⟩ := K.dep 13 rfl rfl rfl
      refine ow_set 51 (.agg #[.bool n3, .slice C zs.length f]) rfl e13 ?_
      obtain ⟨_, e11, k11⟩ := K.dep 11 rfl rfl rfl
      refine ow_set 49 (.bool false) rfl e11 ?_
      refine ow_on rfl (ow_enter en15 rfl ((hform3 _ (HF.on (E.drew.trans (LE.mono OY))).here.1.1.1.2 (HF.on (E.drew.trans (LE.mono OY))).here.1.1.1.2).mono ?_))
      rintro e w2 ⟨rfl, hb⟩
      exact ⟨_, rfl, hb, Left.of rfl⟩
    · intro vs X wq K
      have LE := K.1
      have XN := K.2.1
      have SQ := Nat.le_trans LW.size (Nat.le_trans E.size LE.size)
      obtain ⟨_, e14, k14⟩ := K.dep 14 rfl rfl rfl
      refine ow_set 52 (.int .i64 3) rfl e14 ?_
      obtain ⟨_, e11, k11⟩ := K.dep 11 rfl rfl rfl
      refine ow_set 49 (.bool false) rfl e11 ?_
      exact ow_on rfl (ow_neq rfl rfl ⟨Below.refl _ _, Left.of rfl⟩)
    · intro vs X wq K
      have LE := K.1
      have XN := K.2.1
      have SQ := Nat.le_trans LW.size (Nat.le_trans E.size LE.size)
      obtain ⟨_, e11, k11⟩ := K.dep 11 rfl rfl rfl
      refine ow_set 49 (.bool false) rfl e11 ?_
      obtain ⟨_, e15, k15⟩ := K.dep 15 rfl rfl rfl
      refine ow_set 53 (.bool true) rfl e15 ?_
      exact ow_pickF rfl rfl ⟨Below.refl _ _, Left.of rfl⟩
    · intro vs X wq K
      have LE := K.1
      have XN := K.2.1
      have SQ := Nat.le_trans LW.size (Nat.le_trans E.size LE.size)
      obtain ⟨_, e16, k16⟩ := K.dep 16 rfl rfl rfl
      refine ow_set 54 (.bool true) rfl e16 ?_
      exact ow_assign rfl ⟨Below.refl _ _, Left.of rfl⟩
  intro vs w11 LE AO AL AF AA
  replace E := E.drew.trans (LE.mono OY)
  obtain ⟨_, e17, k17⟩ := AL.2.2.2.2.2.2.2.2.2.2.2.2.2.2.2.2.2.1
  refine ew_sub (τ := [(3, _), (4, _), (5, _), (6, .bool true)]) ⟨rfl, rfl, rfl, congrArg some e17, trivial⟩ ?_
  clear AL AF AA LE AO OY e17 k17
  refine ew_next ?_
  refine cw_ret ?_
  refine ew_then_ret ?_
  refine ew_ret (rs := [.tmp 6]) (vs := [_]) rfl ⟨rfl, trivial⟩ ?_
  exact ⟨rfl, (LW.step E XLW).toBelow⟩
end
section
variable (i j k : Int) (A B C : Option Addr) (c d f : Nat) (w : World)
theorem ring_good (hi : i.natAbs < B18 ^ 30) (hj : j.natAbs < B18 ^ 30) (hk : k.natAbs < B18 ^ 30) (hx : Nums w A (limbs i)) (hy : Nums w B (limbs j)) (hz : Nums w C (limbs k)) :
    Calls Tryd.prog 9 #[.agg #[.bool (decide (i < 0)), .slice A (limbs i).length c], .agg #[.bool (decide (j < 0)), .slice B (limbs j).length d], .agg #[.bool (decide (k < 0)), .slice C (limbs k).length f]] w (LawTrue w) := by
  refine calls_cw Tryd.func9 rfl Tryd.ntmps9 rfl ?_
  have HF : Per (No) w (fun _ => True) := Per.true_
  have LW := Ext.refl (No) w
  have XLW : ∀ q9, (No) q9 → (No) q9 ∨ w.heap.size ≤ q9 := fun _ h => Or.inl h
  have E := Ext.refl (No) w
  replace HF := HF.on E
  replace LW := LW.step E XLW
  replace E := Ext.refl (No) w
  replace HF := HF.and (Per.nums0 hx)
  replace HF := HF.on E
  replace LW := LW.step E XLW
  replace E := Ext.refl (No) w
  replace HF := HF.and (Per.nums0 hy)
  replace HF := HF.on E
  replace LW := LW.step E XLW
  replace E := Ext.refl (No) w
  replace HF := HF.and (Per.nums0 hz)
  refine cw_seq ?_
  refine cw_region ?_
  refine rs_op rfl (ow_boxB rfl ?_)
  intro gb1 w2 Bb1 Eb1 Gb1
  have Gb1 : _ ≤ gb1 := Nat.le_trans E.size Gb1
  have GLb1 := Nat.le_trans LW.size Gb1
  replace E := E.trans Eb1.no
  clear Eb1
  replace HF := HF.cons (some_ge Gb1)
  replace E := E.cons (some gb1)
  replace XLW := Mut.grow XLW (fun k e => Or.inr (Nat.le_trans LW.size ((some_ge Gb1) k e)))
  replace HF := HF.on E
  replace LW := LW.step E XLW
  have SB : ∀ q9, No q9 → Mut [(some gb1)] q9 := (Mut.skip Mut.nil_)
  replace HF := HF.less SB
  replace XLW := fun k h => XLW k (SB k h)
  clear SB
  replace E := Ext.refl (No) w2
  replace HF := HF.and (Per.blkN Bb1 NotIn.nil)
  clear Bb1
  refine rs_op rfl (ow_boxB rfl ?_)
  intro gb3 w4 Bb3 Eb3 Gb3
  have Gb3 : _ ≤ gb3 := Nat.le_trans E.size Gb3
  have GLb3 := Nat.le_trans LW.size Gb3
  replace E := E.trans Eb3.no
  clear Eb3
  replace HF := HF.cons (some_ge Gb3)
  replace E := E.cons (some gb3)
  replace XLW := Mut.grow XLW (fun k e => Or.inr (Nat.le_trans LW.size ((some_ge Gb3) k e)))
  replace HF := HF.on E
  replace LW := LW.step E XLW
  have SB : ∀ q9, No q9 → Mut [(some gb3)] q9 := (Mut.skip Mut.nil_)
  replace HF := HF.less SB
  replace XLW := fun k h => XLW k (SB k h)
  clear SB
  replace E := Ext.refl (No) w4
  replace HF := HF.and (Per.blkN Bb3 NotIn.nil)
  clear Bb3
  refine rs_op rfl (ow_boxB rfl ?_)
  intro gb5 w6 Bb5 Eb5 Gb5
  have Gb5 : _ ≤ gb5 := Nat.le_trans E.size Gb5
  have GLb5 := Nat.le_trans LW.size Gb5
  replace E := E.trans Eb5.no
  clear Eb5
  replace HF := HF.cons (some_ge Gb5)
  replace E := E.cons (some gb5)
  replace XLW := Mut.grow XLW (fun k e => Or.inr (Nat.le_trans LW.size ((some_ge Gb5) k e)))
  replace HF := HF.on E
  replace LW := LW.step E XLW
  have SB : ∀ q9, No q9 → Mut [(some gb5)] q9 := (Mut.skip Mut.nil_)
  replace HF := HF.less SB
  replace XLW := fun k h => XLW k (SB k h)
  clear SB
  replace E := Ext.refl (No) w6
  replace HF := HF.and (Per.blkN Bb5 NotIn.nil)
  clear Bb5
  refine rs_op rfl (ow_assign rfl ?_)
  refine rs_nil ?_
  refine ew_next ?_
  refine cw_seq ?_
  refine cw_seq ?_
  refine cw_region ?_
  refine rs_op rfl (ow_enter en13 rfl ((known_any _).mono ?_))
  rintro e w7 ⟨rfl, hb⟩
  refine ⟨_, rfl, ?_⟩
  have XC : ∀ q9, (No) q9 → q9 < w6.heap.size := Mut.none_
  have SC := Nat.le_trans LW.size E.size
  have SE := E.size
  have Ec := Ext.of_below hb No
  replace E := E.trans Ec.no
  clear hb Ec
  refine rs_op rfl (ow_not rfl ?_)
  refine rs_nil ?_
  refine ew_next ?_
  refine cw_else rfl ?_
  refine cw_skip ?_
  refine ew_next ?_
  refine cw_seq ?_
  refine cw_seq ?_
  refine cw_region ?_
  refine rs_op rfl (ow_loadB Tryd.underlying24 rfl sz24 rfl (HF.on E).here.1.1.2 rfl ?_)
  refine rs_op rfl (ow_enter en19 rfl ((goodI A c _ hi (HF.on E).here.1.1.1.1.1.2).mono ?_))
  rintro e w8 ⟨rfl, hb⟩
  refine ⟨_, rfl, ?_⟩
  have XC : ∀ q9, (No) q9 → q9 < w7.heap.size := Mut.none_
  have SC := Nat.le_trans LW.size E.size
  have SE := E.size
  have Ec := Ext.of_below hb No
  replace E := E.trans Ec.no
  clear hb Ec
  refine rs_op rfl (ow_not rfl ?_)
  refine rs_op rfl (ow_move rfl ?_)
  refine rs_op rfl (ow_on rfl (ow_loadB Tryd.underlying24 rfl sz24 rfl (HF.on E).here.1.2 rfl ?_))
  refine rs_op rfl (ow_on rfl (ow_enter en19 rfl ((goodI B d _ hj (HF.on E).here.1.1.1.1.2).mono ?_)))
  rintro e w9 ⟨rfl, hb⟩
  refine ⟨_, rfl, ?_⟩
  have XC : ∀ q9, (No) q9 → q9 < w8.heap.size := Mut.none_
  have SC := Nat.le_trans LW.size E.size
  have SE := E.size
  have Ec := Ext.of_below hb No
  replace E := E.trans Ec.no
  clear hb Ec
  refine rs_op rfl (ow_on rfl (ow_not rfl ?_))
  refine rs_op rfl (ow_pickF rfl rfl ?_)
  refine rs_op rfl (ow_move rfl ?_)
  refine rs_op rfl (ow_on rfl (ow_loadB Tryd.underlying24 rfl sz24 rfl (HF.on E).here.2 rfl ?_))
  refine rs_op rfl (ow_on rfl (ow_enter en19 rfl ((goodI C f _ hk (HF.on E).here.1.1.1.2).mono ?_)))
  rintro e w10 ⟨rfl, hb⟩
  refine ⟨_, rfl, ?_⟩
  have XC : ∀ q9, (No) q9 → q9 < w9.heap.size := Mut.none_
  have SC := Nat.le_trans LW.size E.size
  have SE := E.size
  have Ec := Ext.of_below hb No
  replace E := E.trans Ec.no
  clear hb Ec
  refine rs_op rfl (ow_on rfl (ow_not rfl ?_))
  refine rs_op rfl (ow_pickF rfl rfl ?_)
  refine rs_nil ?_
  refine ew_next ?_
  refine cw_else rfl ?_
  refine cw_skip ?_
  refine ew_next ?_
  refine cw_seq ?_
  refine cw_region ?_
  refine rs_op rfl (ow_loadB Tryd.underlying24 rfl sz24 rfl (HF.on E).here.1.1.2 rfl ?_)
  refine rs_op rfl (ow_loadB Tryd.underlying24 rfl sz24 rfl (HF.on E).here.1.2 rfl ?_)
  refine rs_op rfl (ow_enter en27 rfl ((addI A B c d _ hi hj (HF.on E).here.1.1.1.1.1.2 (HF.on E).here.1.1.1.1.2).mono ?_))
  rintro e w11 ⟨A1, c1, rfl, o1, hb⟩
  refine ⟨_, rfl, ?_⟩
  have XC : ∀ q9, (No) q9 → q9 < w10.heap.size := Mut.none_
  have SC := Nat.le_trans LW.size E.size
  have SE := E.size
  have Ec := Ext.of_below hb No
  replace E := E.trans Ec.no
  clear hb Ec
  replace HF := HF.on E
  replace LW := LW.step E XLW
  replace E := Ext.refl (No) w11
  replace HF := HF.and (Per.nums0 o1.nums)
  refine rs_op rfl (ow_move rfl ?_)
  refine rs_op rfl (ow_extract rfl rfl ?_)
  refine rs_op rfl (ow_extract rfl rfl ?_)
  refine rs_op rfl (ow_allocB zr24 ?_)
  intro gb12 w13 Bb12 Eb12 Gb12
  have Gb12 : _ ≤ gb12 := Nat.le_trans E.size Gb12
  have GLb12 := Nat.le_trans LW.size Gb12
  replace E := E.trans Eb12.no
  clear Eb12
  replace HF := HF.cons (some_ge Gb12)
  replace E := E.cons (some gb12)
  replace XLW := Mut.grow XLW (fun k e => Or.inr (Nat.le_trans LW.size ((some_ge Gb12) k e)))
  refine rs_op0 (ow_storeM sz24 rfl rfl Bb12 rfl rfl (Nat.le_of_ble_eq_true rfl) ?_)
  intro w14 Bx Eb12
  replace Bb12 := Bx
  clear Bx
  replace E := E.step1 Eb12 Mut.head
  clear Eb12
  replace HF := HF.on E
  replace LW := LW.step E XLW
  have SB : ∀ q9, No q9 → Mut [(some gb12)] q9 := (Mut.skip Mut.nil_)
  replace HF := HF.less SB
  replace XLW := fun k h => XLW k (SB k h)
  clear SB
  replace E := Ext.refl (No) w14
  replace HF := HF.and (Per.blkN Bb12 NotIn.nil)
  clear Bb12
  refine rs_op rfl (ow_assign rfl ?_)
  refine rs_nil ?_
  refine ew_next ?_
  refine cw_seq ?_
  refine cw_region ?_
  refine rs_op rfl (ow_loadB Tryd.underlying24 rfl sz24 rfl (HF.on E).here.1.1.1.2 rfl ?_)
  refine rs_op rfl (ow_loadB Tryd.underlying24 rfl sz24 rfl (HF.on E).here.1.1.1.1.2 rfl ?_)
  refine rs_op rfl (ow_enter en27 rfl ((addI B A d c _ hj hi (HF.on E).here.1.1.1.1.1.1.2 (HF.on E).here.1.1.1.1.1.1.1.2).mono ?_))
  rintro e w15 ⟨A2, c2, rfl, o2, hb⟩
  refine ⟨_, rfl, ?_⟩
  have XC : ∀ q9, (No) q9 → q9 < w14.heap.size := Mut.none_
  have SC := Nat.le_trans LW.size E.size
  have SE := E.size
  have Ec := Ext.of_below hb No
  replace E := E.trans Ec.no
  clear hb Ec
  replace HF := HF.on E
  replace LW := LW.step E XLW
  replace E := Ext.refl (No) w15
  replace HF := HF.and (Per.nums0 o2.nums)
  refine rs_op rfl (ow_move rfl ?_)
  refine rs_op rfl (ow_extract rfl rfl ?_)
  refine rs_op rfl (ow_extract rfl rfl ?_)
  refine rs_op rfl (ow_allocB zr24 ?_)
  intro gb16 w17 Bb16 Eb16 Gb16
  have Gb16 : _ ≤ gb16 := Nat.le_trans E.size Gb16
  have GLb16 := Nat.le_trans LW.size Gb16
  replace E := E.trans Eb16.no
  clear Eb16
  replace HF := HF.cons (some_ge Gb16)
  replace E := E.cons (some gb16)
  replace XLW := Mut.grow XLW (fun k e => Or.inr (Nat.le_trans LW.size ((some_ge Gb16) k e)))
  refine rs_op0 (ow_storeM sz24 rfl rfl Bb16 rfl rfl (Nat.le_of_ble_eq_true rfl) ?_)
  intro w18 Bx Eb16
  replace Bb16 := Bx
  clear Bx
  replace E := E.step1 Eb16 Mut.head
  clear Eb16
  replace HF := HF.on E
  replace LW := LW.step E XLW
  have SB : ∀ q9, No q9 → Mut [(some gb16)] q9 := (Mut.skip Mut.nil_)
  replace HF := HF.less SB
  replace XLW := fun k h => XLW k (SB k h)
  clear SB
  replace E := Ext.refl (No) w18
  replace HF := HF.and (Per.blkN Bb16 NotIn.nil)
  clear Bb16
  refine rs_op rfl (ow_assign rfl ?_)
  refine rs_nil ?_
  refine ew_next ?_
  refine cw_seq ?_
  refine cw_seq ?_
  refine cw_region ?_
  refine rs_op rfl (ow_move rfl ?_)
  refine rs_op rfl (ow_move rfl ?_)
  refine rs_op rfl (ow_neq rfl rfl ?_)
  refine rs_op rfl (ow_move rfl ?_)
  refine rs_set 70 (.bool false) rfl ((by rw [Int.add_comm j i]; simp : (.bool ((outE true (i + j)) != (outE true (j + i))) : Value) = _)) ?_
  refine rs_op rfl (ow_on rfl (ow_loadB Tryd.underlying24 rfl sz24 rfl (HF.on E).here.1.1.2 rfl ?_))
  refine rs_op rfl (ow_on rfl (ow_loadB Tryd.underlying24 rfl sz24 rfl (HF.on E).here.2 rfl ?_))
  refine rs_op rfl (ow_on rfl (ow_enter en21 rfl ((sameI A1 A2 c1 c2 _ outV_lt outV_lt (HF.on E).here.1.1.1.2 (HF.on E).here.1.2 (by rw [Int.add_comm])).mono ?_)))
  rintro e w19 ⟨rfl, hb⟩
  refine ⟨_, rfl, ?_⟩
  have XC : ∀ q9, (No) q9 → q9 < w18.heap.size := Mut.none_
  have SC := Nat.le_trans LW.size E.size
  have SE := E.size
  have Ec := Ext.of_below hb No
  replace E := E.trans Ec.no
  clear hb Ec
  refine rs_op rfl (ow_on rfl (ow_not rfl ?_))
  refine rs_op rfl (ow_pickF rfl rfl ?_)
  refine rs_nil ?_
  refine ew_next ?_
  refine cw_else rfl ?_
  refine cw_skip ?_
  refine ew_next ?_
  refine cw_seq ?_
  refine cw_seq ?_
  refine cw_region ?_
  refine rs_op rfl (ow_move rfl ?_)
  refine rs_op rfl (ow_eql rfl rfl ?_)
  refine rs_nil ?_
  refine ew_next ?_
  replace HF := HF.on E
  replace LW := LW.step E XLW
  replace E := Ext.refl (No) w19
  refine cw_join (ι := Unit) (fun _ => [(3, .pointer (some ⟨gb1, 0, none⟩)), (4, .pointer (some ⟨gb3, 0, none⟩)), (5, .pointer (some ⟨gb5, 0, none⟩))]) (fun _ w' => Ext (No) w19 w' ∧ (True)) ?_ ?_
  · have _way := True.intro
    have M20 := Ext.refl (No) w19
    have XM20 : ∀ q9, (No) q9 → (No) q9 ∨ w19.heap.size ≤ q9 := fun _ h => Or.inl h
    refine cw_cond rfl (fun h => ?_) (fun h => ?_)
    · have _way := True.intro
      have hij : (i + j).natAbs < B18 ^ 30 := outE_zero (by simpa using h)
      have hV : outV true (i + j) = i + j := outV_ok hij
      refine cw_seq ?_
      refine cw_region ?_
      refine rs_op rfl (ow_loadB Tryd.underlying24 rfl sz24 rfl (HF.on E).here.1.1.2 rfl ?_)
      refine rs_op rfl (ow_loadB Tryd.underlying24 rfl sz24 rfl (HF.on E).here.1.1.1.1.1.2 rfl ?_)
      refine rs_op rfl (ow_enter en28 rfl ((subI A1 B c1 d _ outV_lt hj (HF.on E).here.1.1.1.2 (HF.on E).here.1.1.1.1.1.1.1.1.2).mono ?_))
      rintro e w22 ⟨A3, c3, rfl, o3, hb⟩
      refine ⟨_, rfl, ?_⟩
      have XC : ∀ q9, (No) q9 → q9 < w19.heap.size := Mut.none_
      have SC := Nat.le_trans LW.size E.size
      have SE := E.size
      have Ec := Ext.of_below hb No
      replace E := E.trans Ec.no
      clear hb Ec
      replace HF := HF.on E
      replace LW := LW.step E XLW
      replace M20 := M20.step E XM20
      replace E := Ext.refl (No) w22
      replace HF := HF.and (Per.nums0 o3.nums)
      have e3 : outV true (i + j) - j = i := by rw [hV]; omega
      refine rs_op rfl (ow_move rfl ?_)
      refine rs_op rfl (ow_extract rfl rfl ?_)
      refine rs_op rfl (ow_extract rfl rfl ?_)
      refine rs_op rfl (ow_allocB zr24 ?_)
      intro gb23 w24 Bb23 Eb23 Gb23
      have Gb23 : _ ≤ gb23 := Nat.le_trans E.size Gb23
      have GLb23 := Nat.le_trans LW.size Gb23
      replace E := E.trans Eb23.no
      clear Eb23
      replace HF := HF.cons (some_ge Gb23)
      replace E := E.cons (some gb23)
      replace XLW := Mut.grow XLW (fun k e => Or.inr (Nat.le_trans LW.size ((some_ge Gb23) k e)))
      replace XM20 := Mut.grow XM20 (fun k e => Or.inr (Nat.le_trans M20.size ((some_ge Gb23) k e)))
      refine rs_op0 (ow_storeM sz24 rfl rfl Bb23 rfl rfl (Nat.le_of_ble_eq_true rfl) ?_)
      intro w25 Bx Eb23
      replace Bb23 := Bx
      clear Bx
      replace E := E.step1 Eb23 Mut.head
      clear Eb23
      replace HF := HF.on E
      replace LW := LW.step E XLW
      replace M20 := M20.step E XM20
      have SB : ∀ q9, No q9 → Mut [(some gb23)] q9 := (Mut.skip Mut.nil_)
      replace HF := HF.less SB
      replace XLW := fun k h => XLW k (SB k h)
      replace XM20 := fun k h => XM20 k (SB k h)
      clear SB
      replace E := Ext.refl (No) w25
      replace HF := HF.and (Per.blkN Bb23 NotIn.nil)
      clear Bb23
      refine rs_op rfl (ow_assign rfl ?_)
      refine rs_nil ?_
      refine ew_next ?_
      refine cw_seq ?_
      refine cw_region ?_
      refine rs_op rfl (ow_move rfl ?_)
      refine rs_op rfl (ow_neq rfl rfl ?_)
      refine rs_op rfl (ow_move rfl ?_)
      refine rs_set 86 (.bool false) rfl ((by rw [e3, outE_ok hi]; rfl : (.bool ((outE true (outV true (i + j) - j)) != 0) : Value) = _)) ?_
      refine rs_op rfl (ow_on rfl (ow_loadB Tryd.underlying24 rfl sz24 rfl (HF.on E).here.2 rfl ?_))
      refine rs_op rfl (ow_on rfl (ow_loadB Tryd.underlying24 rfl sz24 rfl (HF.on E).here.1.1.1.1.1.1.1.1.2 rfl ?_))
      refine rs_op rfl (ow_on rfl (ow_enter en21 rfl ((sameI A3 A c3 c _ outV_lt hi (HF.on E).here.1.2 (HF.on E).here.1.1.1.1.1.1.1.1.1.1.1.2 (by rw [e3, outV_ok hi])).mono ?_)))
      rintro e w26 ⟨rfl, hb⟩
      refine ⟨_, rfl, ?_⟩
      have XC : ∀ q9, (No) q9 → q9 < w25.heap.size := Mut.none_
      have SC := Nat.le_trans LW.size E.size
      have SE := E.size
      have Ec := Ext.of_below hb No
      replace E := E.trans Ec.no
      clear hb Ec
      refine rs_op rfl (ow_on rfl (ow_not rfl ?_))
      refine rs_op rfl (ow_pickF rfl rfl ?_)
      refine rs_nil ?_
      refine ew_next ?_
      refine cw_else rfl ?_
      refine cw_skip ?_
      exact ew_mid () ⟨rfl, rfl, rfl, trivial⟩ ⟨M20.step E XM20, trivial⟩
    · have _way := True.intro
      refine cw_skip ?_
      exact ew_mid () ⟨rfl, rfl, rfl, trivial⟩ ⟨M20.step E XM20, trivial⟩
  · have _way := True.intro
    rintro _ w26 ⟨M20, _⟩
    have XM20 : ∀ q9, (No) q9 → (No) q9 ∨ w19.heap.size ≤ q9 := fun _ h => Or.inl h
    replace E := E.trans M20
    replace HF := HF.on E
    replace LW := LW.step E XLW
    replace E := Ext.refl (No) w26
    refine cw_seq ?_
    refine cw_region ?_
    refine rs_op rfl (ow_loadB Tryd.underlying24 rfl sz24 rfl (HF.on E).here.1.1.1.1.1.1.2 rfl ?_)
    refine rs_op rfl (ow_loadB Tryd.underlying24 rfl sz24 rfl (HF.on E).here.1.1.1.1.1.2 rfl ?_)
    refine rs_op rfl (ow_enter en36 rfl ((mulI A B c d _ hi hj (HF.on E).here.1.1.1.1.1.1.1.1.1.2 (HF.on E).here.1.1.1.1.1.1.1.1.2).mono ?_))
    rintro e w27 ⟨A4, c4, rfl, o4, hb⟩
    refine ⟨_, rfl, ?_⟩
    have XC : ∀ q9, (No) q9 → q9 < w26.heap.size := Mut.none_
    have SC := Nat.le_trans LW.size E.size
    have SE := E.size
    have Ec := Ext.of_below hb No
    replace E := E.trans Ec.no
    clear hb Ec
    replace HF := HF.on E
    replace LW := LW.step E XLW
    replace E := Ext.refl (No) w27
    replace HF := HF.and (Per.nums0 o4.nums)
    refine rs_op rfl (ow_move rfl ?_)
    refine rs_op rfl (ow_extract rfl rfl ?_)
    refine rs_op rfl (ow_extract rfl rfl ?_)
    refine rs_op rfl (ow_allocB zr24 ?_)
    intro gb28 w29 Bb28 Eb28 Gb28
    have Gb28 : _ ≤ gb28 := Nat.le_trans E.size Gb28
    have GLb28 := Nat.le_trans LW.size Gb28
    replace E := E.trans Eb28.no
    clear Eb28
    replace HF := HF.cons (some_ge Gb28)
    replace E := E.cons (some gb28)
    replace XLW := Mut.grow XLW (fun k e => Or.inr (Nat.le_trans LW.size ((some_ge Gb28) k e)))
    refine rs_op0 (ow_storeM sz24 rfl rfl Bb28 rfl rfl (Nat.le_of_ble_eq_true rfl) ?_)
    intro w30 Bx Eb28
    replace Bb28 := Bx
    clear Bx
    replace E := E.step1 Eb28 Mut.head
    clear Eb28
    replace HF := HF.on E
    replace LW := LW.step E XLW
    have SB : ∀ q9, No q9 → Mut [(some gb28)] q9 := (Mut.skip Mut.nil_)
    replace HF := HF.less SB
    replace XLW := fun k h => XLW k (SB k h)
    clear SB
    replace E := Ext.refl (No) w30
    replace HF := HF.and (Per.blkN Bb28 NotIn.nil)
    clear Bb28
    refine rs_op rfl (ow_assign rfl ?_)
    refine rs_nil ?_
    refine ew_next ?_
    refine cw_seq ?_
    refine cw_region ?_
    refine rs_op rfl (ow_loadB Tryd.underlying24 rfl sz24 rfl (HF.on E).here.1.1.1.1.1.1.1.2 rfl ?_)
    refine rs_op rfl (ow_loadB Tryd.underlying24 rfl sz24 rfl (HF.on E).here.1.1.1.1.1.1.1.1.2 rfl ?_)
    refine rs_op rfl (ow_enter en36 rfl ((mulI B A d c _ hj hi (HF.on E).here.1.1.1.1.1.1.1.1.1.1.2 (HF.on E).here.1.1.1.1.1.1.1.1.1.1.1.2).mono ?_))
    rintro e w31 ⟨A5, c5, rfl, o5, hb⟩
    refine ⟨_, rfl, ?_⟩
    have XC : ∀ q9, (No) q9 → q9 < w30.heap.size := Mut.none_
    have SC := Nat.le_trans LW.size E.size
    have SE := E.size
    have Ec := Ext.of_below hb No
    replace E := E.trans Ec.no
    clear hb Ec
    replace HF := HF.on E
    replace LW := LW.step E XLW
    replace E := Ext.refl (No) w31
    replace HF := HF.and (Per.nums0 o5.nums)
    refine rs_op rfl (ow_move rfl ?_)
    refine rs_op rfl (ow_extract rfl rfl ?_)
    refine rs_op rfl (ow_extract rfl rfl ?_)
    refine rs_op rfl (ow_allocB zr24 ?_)
    intro gb32 w33 Bb32 Eb32 Gb32
    have Gb32 : _ ≤ gb32 := Nat.le_trans E.size Gb32
    have GLb32 := Nat.le_trans LW.size Gb32
    replace E := E.trans Eb32.no
    clear Eb32
    replace HF := HF.cons (some_ge Gb32)
    replace E := E.cons (some gb32)
    replace XLW := Mut.grow XLW (fun k e => Or.inr (Nat.le_trans LW.size ((some_ge Gb32) k e)))
    refine rs_op0 (ow_storeM sz24 rfl rfl Bb32 rfl rfl (Nat.le_of_ble_eq_true rfl) ?_)
    intro w34 Bx Eb32
    replace Bb32 := Bx
    clear Bx
    replace E := E.step1 Eb32 Mut.head
    clear Eb32
    replace HF := HF.on E
    replace LW := LW.step E XLW
    have SB : ∀ q9, No q9 → Mut [(some gb32)] q9 := (Mut.skip Mut.nil_)
    replace HF := HF.less SB
    replace XLW := fun k h => XLW k (SB k h)
    clear SB
    replace E := Ext.refl (No) w34
    replace HF := HF.and (Per.blkN Bb32 NotIn.nil)
    clear Bb32
    refine rs_op rfl (ow_assign rfl ?_)
    refine rs_nil ?_
    refine ew_next ?_
    refine cw_seq ?_
    refine cw_seq ?_
    refine cw_region ?_
    refine rs_op rfl (ow_move rfl ?_)
    refine rs_op rfl (ow_move rfl ?_)
    refine rs_op rfl (ow_neq rfl rfl ?_)
    refine rs_op rfl (ow_move rfl ?_)
    refine rs_set 107 (.bool false) rfl ((by rw [Int.mul_comm j i]; simp : (.bool ((outE true (i * j)) != (outE true (j * i))) : Value) = _)) ?_
    refine rs_op rfl (ow_on rfl (ow_loadB Tryd.underlying24 rfl sz24 rfl (HF.on E).here.1.1.2 rfl ?_))
    refine rs_op rfl (ow_on rfl (ow_loadB Tryd.underlying24 rfl sz24 rfl (HF.on E).here.2 rfl ?_))
    refine rs_op rfl (ow_on rfl (ow_enter en21 rfl ((sameI A4 A5 c4 c5 _ outV_lt outV_lt (HF.on E).here.1.1.1.2 (HF.on E).here.1.2 (by rw [Int.mul_comm])).mono ?_)))
    rintro e w35 ⟨rfl, hb⟩
    refine ⟨_, rfl, ?_⟩
    have XC : ∀ q9, (No) q9 → q9 < w34.heap.size := Mut.none_
    have SC := Nat.le_trans LW.size E.size
    have SE := E.size
    have Ec := Ext.of_below hb No
    replace E := E.trans Ec.no
    clear hb Ec
    refine rs_op rfl (ow_on rfl (ow_not rfl ?_))
    refine rs_op rfl (ow_pickF rfl rfl ?_)
    refine rs_nil ?_
    refine ew_next ?_
    refine cw_else rfl ?_
    refine cw_skip ?_
    refine ew_next ?_
    refine cw_seq ?_
    refine cw_region ?_
    refine rs_op rfl (ow_loadB Tryd.underlying24 rfl sz24 rfl (HF.on E).here.1.1.1.1.1.1.1.1.1.2 rfl ?_)
    refine rs_op rfl (ow_loadB Tryd.underlying24 rfl sz24 rfl (HF.on E).here.1.1.1.1.1.1.1.1.2 rfl ?_)
    refine rs_op rfl (ow_enter en27 rfl ((addI B C d f _ hj hk (HF.on E).here.1.1.1.1.1.1.1.1.1.1.1.1.2 (HF.on E).here.1.1.1.1.1.1.1.1.1.1.1.2).mono ?_))
    rintro e w36 ⟨A6, c6, rfl, o6, hb⟩
    refine ⟨_, rfl, ?_⟩
    have XC : ∀ q9, (No) q9 → q9 < w35.heap.size := Mut.none_
    have SC := Nat.le_trans LW.size E.size
    have SE := E.size
    have Ec := Ext.of_below hb No
    replace E := E.trans Ec.no
    clear hb Ec
    replace HF := HF.on E
    replace LW := LW.step E XLW
    replace E := Ext.refl (No) w36
    replace HF := HF.and (Per.nums0 o6.nums)
    refine rs_op rfl (ow_move rfl ?_)
    refine rs_op rfl (ow_extract rfl rfl ?_)
    refine rs_op rfl (ow_extract rfl rfl ?_)
    refine rs_op rfl (ow_allocB zr24 ?_)
    intro gb37 w38 Bb37 Eb37 Gb37
    have Gb37 : _ ≤ gb37 := Nat.le_trans E.size Gb37
    have GLb37 := Nat.le_trans LW.size Gb37
    replace E := E.trans Eb37.no
    clear Eb37
    replace HF := HF.cons (some_ge Gb37)
    replace E := E.cons (some gb37)
    replace XLW := Mut.grow XLW (fun k e => Or.inr (Nat.le_trans LW.size ((some_ge Gb37) k e)))
    refine rs_op0 (ow_storeM sz24 rfl rfl Bb37 rfl rfl (Nat.le_of_ble_eq_true rfl) ?_)
    intro w39 Bx Eb37
    replace Bb37 := Bx
    clear Bx
    replace E := E.step1 Eb37 Mut.head
    clear Eb37
    replace HF := HF.on E
    replace LW := LW.step E XLW
    have SB : ∀ q9, No q9 → Mut [(some gb37)] q9 := (Mut.skip Mut.nil_)
    replace HF := HF.less SB
    replace XLW := fun k h => XLW k (SB k h)
    clear SB
    replace E := Ext.refl (No) w39
    replace HF := HF.and (Per.blkN Bb37 NotIn.nil)
    clear Bb37
    refine rs_op rfl (ow_assign rfl ?_)
    refine rs_nil ?_
    refine ew_next ?_
    refine cw_seq ?_
    refine cw_region ?_
    refine rs_op rfl (ow_loadB Tryd.underlying24 rfl sz24 rfl (HF.on E).here.1.1.1.1.1.1.1.1.1.1.1.1.2 rfl ?_)
    refine rs_op rfl (ow_loadB Tryd.underlying24 rfl sz24 rfl (HF.on E).here.2 rfl ?_)
    refine rs_op rfl (ow_enter en36 rfl ((mulI A A6 c c6 _ hi outV_lt (HF.on E).here.1.1.1.1.1.1.1.1.1.1.1.1.1.1.1.2 (HF.on E).here.1.2).mono ?_))
    rintro e w40 ⟨A7, c7, rfl, o7, hb⟩
    refine ⟨_, rfl, ?_⟩
    have XC : ∀ q9, (No) q9 → q9 < w39.heap.size := Mut.none_
    have SC := Nat.le_trans LW.size E.size
    have SE := E.size
    have Ec := Ext.of_below hb No
    replace E := E.trans Ec.no
    clear hb Ec
    replace HF := HF.on E
    replace LW := LW.step E XLW
    replace E := Ext.refl (No) w40
    replace HF := HF.and (Per.nums0 o7.nums)
    refine rs_op rfl (ow_move rfl ?_)
    refine rs_op rfl (ow_extract rfl rfl ?_)
    refine rs_op rfl (ow_extract rfl rfl ?_)
    refine rs_op rfl (ow_allocB zr24 ?_)
    intro gb41 w42 Bb41 Eb41 Gb41
    have Gb41 : _ ≤ gb41 := Nat.le_trans E.size Gb41
    have GLb41 := Nat.le_trans LW.size Gb41
    replace E := E.trans Eb41.no
    clear Eb41
    replace HF := HF.cons (some_ge Gb41)
    replace E := E.cons (some gb41)
    replace XLW := Mut.grow XLW (fun k e => Or.inr (Nat.le_trans LW.size ((some_ge Gb41) k e)))
    refine rs_op0 (ow_storeM sz24 rfl rfl Bb41 rfl rfl (Nat.le_of_ble_eq_true rfl) ?_)
    intro w43 Bx Eb41
    replace Bb41 := Bx
    clear Bx
    replace E := E.step1 Eb41 Mut.head
    clear Eb41
    replace HF := HF.on E
    replace LW := LW.step E XLW
    have SB : ∀ q9, No q9 → Mut [(some gb41)] q9 := (Mut.skip Mut.nil_)
    replace HF := HF.less SB
    replace XLW := fun k h => XLW k (SB k h)
    clear SB
    replace E := Ext.refl (No) w43
    replace HF := HF.and (Per.blkN Bb41 NotIn.nil)
    clear Bb41
    refine rs_op rfl (ow_assign rfl ?_)
    refine rs_nil ?_
    refine ew_next ?_
    refine cw_seq ?_
    refine cw_region ?_
    refine rs_op rfl (ow_loadB Tryd.underlying24 rfl sz24 rfl (HF.on E).here.1.1.1.1.1.1.1.1.1.1.1.1.1.1.2 rfl ?_)
    refine rs_op rfl (ow_loadB Tryd.underlying24 rfl sz24 rfl (HF.on E).here.1.1.1.1.1.1.1.1.1.1.1.1.2 rfl ?_)
    refine rs_op rfl (ow_enter en36 rfl ((mulI A C c f _ hi hk (HF.on E).here.1.1.1.1.1.1.1.1.1.1.1.1.1.1.1.1.1.2 (HF.on E).here.1.1.1.1.1.1.1.1.1.1.1.1.1.1.1.2).mono ?_))
    rintro e w44 ⟨A8, c8, rfl, o8, hb⟩
    refine ⟨_, rfl, ?_⟩
    have XC : ∀ q9, (No) q9 → q9 < w43.heap.size := Mut.none_
    have SC := Nat.le_trans LW.size E.size
    have SE := E.size
    have Ec := Ext.of_below hb No
    replace E := E.trans Ec.no
    clear hb Ec
    replace HF := HF.on E
    replace LW := LW.step E XLW
    replace E := Ext.refl (No) w44
    replace HF := HF.and (Per.nums0 o8.nums)
    refine rs_op rfl (ow_move rfl ?_)
    refine rs_op rfl (ow_extract rfl rfl ?_)
    refine rs_op rfl (ow_extract rfl rfl ?_)
    refine rs_op rfl (ow_allocB zr24 ?_)
    intro gb45 w46 Bb45 Eb45 Gb45
    have Gb45 : _ ≤ gb45 := Nat.le_trans E.size Gb45
    have GLb45 := Nat.le_trans LW.size Gb45
    replace E := E.trans Eb45.no
    clear Eb45
    replace HF := HF.cons (some_ge Gb45)
    replace E := E.cons (some gb45)
    replace XLW := Mut.grow XLW (fun k e => Or.inr (Nat.le_trans LW.size ((some_ge Gb45) k e)))
    refine rs_op0 (ow_storeM sz24 rfl rfl Bb45 rfl rfl (Nat.le_of_ble_eq_true rfl) ?_)
    intro w47 Bx Eb45
    replace Bb45 := Bx
    clear Bx
    replace E := E.step1 Eb45 Mut.head
    clear Eb45
    replace HF := HF.on E
    replace LW := LW.step E XLW
    have SB : ∀ q9, No q9 → Mut [(some gb45)] q9 := (Mut.skip Mut.nil_)
    replace HF := HF.less SB
    replace XLW := fun k h => XLW k (SB k h)
    clear SB
    replace E := Ext.refl (No) w47
    replace HF := HF.and (Per.blkN Bb45 NotIn.nil)
    clear Bb45
    refine rs_op rfl (ow_assign rfl ?_)
    refine rs_nil ?_
    refine ew_next ?_
    refine cw_seq ?_
    refine cw_region ?_
    refine rs_op rfl (ow_loadB Tryd.underlying24 rfl sz24 rfl (HF.on E).here.1.1.1.1.1.1.1.1.1.1.1.1.1.1.1.1.2 rfl ?_)
    refine rs_op rfl (ow_loadB Tryd.underlying24 rfl sz24 rfl (HF.on E).here.1.1.1.1.1.1.1.1.1.1.1.1.1.1.1.2 rfl ?_)
    refine rs_op rfl (ow_enter en36 rfl ((mulI A B c d _ hi hj (HF.on E).here.1.1.1.1.1.1.1.1.1.1.1.1.1.1.1.1.1.1.1.2 (HF.on E).here.1.1.1.1.1.1.1.1.1.1.1.1.1.1.1.1.1.1.2).mono ?_))
    rintro e w48 ⟨A9, c9, rfl, o9, hb⟩
    refine ⟨_, rfl, ?_⟩
    have XC : ∀ q9, (No) q9 → q9 < w47.heap.size := Mut.none_
    have SC := Nat.le_trans LW.size E.size
    have SE := E.size
    have Ec := Ext.of_below hb No
    replace E := E.trans Ec.no
    clear hb Ec
    replace HF := HF.on E
    replace LW := LW.step E XLW
    replace E := Ext.refl (No) w48
    replace HF := HF.and (Per.nums0 o9.nums)
    refine rs_op rfl (ow_move rfl ?_)
    refine rs_op rfl (ow_extract rfl rfl ?_)
    refine rs_op rfl (ow_extract rfl rfl ?_)
    refine rs_op rfl (ow_allocB zr24 ?_)
    intro gb49 w50 Bb49 Eb49 Gb49
    have Gb49 : _ ≤ gb49 := Nat.le_trans E.size Gb49
    have GLb49 := Nat.le_trans LW.size Gb49
    replace E := E.trans Eb49.no
    clear Eb49
    replace HF := HF.cons (some_ge Gb49)
    replace E := E.cons (some gb49)
    replace XLW := Mut.grow XLW (fun k e => Or.inr (Nat.le_trans LW.size ((some_ge Gb49) k e)))
    refine rs_op0 (ow_storeM sz24 rfl rfl Bb49 rfl rfl (Nat.le_of_ble_eq_true rfl) ?_)
    intro w51 Bx Eb49
    replace Bb49 := Bx
    clear Bx
    replace E := E.step1 Eb49 Mut.head
    clear Eb49
    replace HF := HF.on E
    replace LW := LW.step E XLW
    have SB : ∀ q9, No q9 → Mut [(some gb49)] q9 := (Mut.skip Mut.nil_)
    replace HF := HF.less SB
    replace XLW := fun k h => XLW k (SB k h)
    clear SB
    replace E := Ext.refl (No) w51
    replace HF := HF.and (Per.blkN Bb49 NotIn.nil)
    clear Bb49
    refine rs_op rfl (ow_assign rfl ?_)
    refine rs_nil ?_
    refine ew_next ?_
    refine cw_seq ?_
    refine cw_region ?_
    refine rs_op rfl (ow_loadB Tryd.underlying24 rfl sz24 rfl (HF.on E).here.2 rfl ?_)
    refine rs_op rfl (ow_loadB Tryd.underlying24 rfl sz24 rfl (HF.on E).here.1.1.2 rfl ?_)
    refine rs_op rfl (ow_enter en27 rfl ((addI A9 A8 c9 c8 _ outV_lt outV_lt (HF.on E).here.1.2 (HF.on E).here.1.1.1.2).mono ?_))
    rintro e w52 ⟨A10, c10, rfl, o10, hb⟩
    refine ⟨_, rfl, ?_⟩
    have XC : ∀ q9, (No) q9 → q9 < w51.heap.size := Mut.none_
    have SC := Nat.le_trans LW.size E.size
    have SE := E.size
    have Ec := Ext.of_below hb No
    replace E := E.trans Ec.no
    clear hb Ec
    replace HF := HF.on E
    replace LW := LW.step E XLW
    replace E := Ext.refl (No) w52
    replace HF := HF.and (Per.nums0 o10.nums)
    refine rs_op rfl (ow_move rfl ?_)
    refine rs_op rfl (ow_extract rfl rfl ?_)
    refine rs_op rfl (ow_extract rfl rfl ?_)
    refine rs_op rfl (ow_allocB zr24 ?_)
    intro gb53 w54 Bb53 Eb53 Gb53
    have Gb53 : _ ≤ gb53 := Nat.le_trans E.size Gb53
    have GLb53 := Nat.le_trans LW.size Gb53
    replace E := E.trans Eb53.no
    clear Eb53
    replace HF := HF.cons (some_ge Gb53)
    replace E := E.cons (some gb53)
    replace XLW := Mut.grow XLW (fun k e => Or.inr (Nat.le_trans LW.size ((some_ge Gb53) k e)))
    refine rs_op0 (ow_storeM sz24 rfl rfl Bb53 rfl rfl (Nat.le_of_ble_eq_true rfl) ?_)
    intro w55 Bx Eb53
    replace Bb53 := Bx
    clear Bx
    replace E := E.step1 Eb53 Mut.head
    clear Eb53
    replace HF := HF.on E
    replace LW := LW.step E XLW
    have SB : ∀ q9, No q9 → Mut [(some gb53)] q9 := (Mut.skip Mut.nil_)
    replace HF := HF.less SB
    replace XLW := fun k h => XLW k (SB k h)
    clear SB
    replace E := Ext.refl (No) w55
    replace HF := HF.and (Per.blkN Bb53 NotIn.nil)
    clear Bb53
    refine rs_op rfl (ow_assign rfl ?_)
    refine rs_nil ?_
    refine ew_next ?_
    refine cw_seq ?_
    refine cw_seq ?_
    refine cw_region ?_
    refine rs_op rfl (ow_move rfl ?_)
    refine rs_op rfl (ow_neq rfl rfl ?_)
    refine rs_op rfl (ow_move rfl ?_)
    refine rs_split 145 rfl (fun q1 => ?_) (fun q1 => ?_)
    · have _way := True.intro
      refine rs_op rfl (ow_off rfl ?_)
      refine rs_op rfl (ow_off rfl ?_)
      refine rs_op rfl (ow_pickT rfl rfl ?_)
      refine rs_op rfl (ow_move rfl ?_)
      refine rs_op rfl (ow_off rfl ?_)
      refine rs_op rfl (ow_off rfl ?_)
      refine rs_op rfl (ow_pickT rfl rfl ?_)
      refine rs_op rfl (ow_move rfl ?_)
      refine rs_op rfl (ow_off rfl ?_)
      refine rs_op rfl (ow_off rfl ?_)
      refine rs_op rfl (ow_pickT rfl rfl ?_)
      refine rs_op rfl (ow_move rfl ?_)
      refine rs_op rfl (ow_off rfl ?_)
      refine rs_op rfl (ow_off rfl ?_)
      refine rs_op rfl (ow_pickT rfl rfl ?_)
      refine rs_nil ?_
      refine ew_next ?_
      refine cw_then rfl ?_
      refine cw_seq ?_
      refine cw_region ?_
      refine rs_op rfl (ow_assign rfl ?_)
      refine rs_nil ?_
      refine ew_next ?_
      refine cw_ret ?_
      refine ew_then_ret ?_
      refine ew_ret (rs := [.tmp 6]) (vs := [_]) rfl ⟨rfl, trivial⟩ ?_
      exact ⟨rfl, (LW.step E XLW).toBelow⟩
    · have _way := True.intro
      refine rs_op rfl (ow_on rfl (ow_move rfl ?_))
      refine rs_op rfl (ow_on rfl (ow_neq rfl rfl ?_))
      refine rs_op rfl (ow_pickF rfl rfl ?_)
      refine rs_op rfl (ow_move rfl ?_)
      refine rs_split 149 rfl (fun q2 => ?_) (fun q2 => ?_)
      · have _way := True.intro
        refine rs_op rfl (ow_off rfl ?_)
        refine rs_op rfl (ow_off rfl ?_)
        refine rs_op rfl (ow_pickT rfl rfl ?_)
        refine rs_op rfl (ow_move rfl ?_)
        refine rs_op rfl (ow_off rfl ?_)
        refine rs_op rfl (ow_off rfl ?_)
        refine rs_op rfl (ow_pickT rfl rfl ?_)
        refine rs_op rfl (ow_move rfl ?_)
        refine rs_op rfl (ow_off rfl ?_)
        refine rs_op rfl (ow_off rfl ?_)
        refine rs_op rfl (ow_pickT rfl rfl ?_)
        refine rs_nil ?_
        refine ew_next ?_
        refine cw_then rfl ?_
        refine cw_seq ?_
        refine cw_region ?_
        refine rs_op rfl (ow_assign rfl ?_)
        refine rs_nil ?_
        refine ew_next ?_
        refine cw_ret ?_
        refine ew_then_ret ?_
        refine ew_ret (rs := [.tmp 6]) (vs := [_]) rfl ⟨rfl, trivial⟩ ?_
        exact ⟨rfl, (LW.step E XLW).toBelow⟩
      · have _way := True.intro
        refine rs_op rfl (ow_on rfl (ow_move rfl ?_))
        refine rs_op rfl (ow_on rfl (ow_neq rfl rfl ?_))
        refine rs_op rfl (ow_pickF rfl rfl ?_)
        refine rs_op rfl (ow_move rfl ?_)
        refine rs_split 153 rfl (fun q3 => ?_) (fun q3 => ?_)
        · have _way := True.intro
          refine rs_op rfl (ow_off rfl ?_)
          refine rs_op rfl (ow_off rfl ?_)
          refine rs_op rfl (ow_pickT rfl rfl ?_)
          refine rs_op rfl (ow_move rfl ?_)
          refine rs_op rfl (ow_off rfl ?_)
          refine rs_op rfl (ow_off rfl ?_)
          refine rs_op rfl (ow_pickT rfl rfl ?_)
          refine rs_nil ?_
          refine ew_next ?_
          refine cw_then rfl ?_
          refine cw_seq ?_
          refine cw_region ?_
          refine rs_op rfl (ow_assign rfl ?_)
          refine rs_nil ?_
          refine ew_next ?_
          refine cw_ret ?_
          refine ew_then_ret ?_
          refine ew_ret (rs := [.tmp 6]) (vs := [_]) rfl ⟨rfl, trivial⟩ ?_
          exact ⟨rfl, (LW.step E XLW).toBelow⟩
        · have _way := True.intro
          refine rs_op rfl (ow_on rfl (ow_move rfl ?_))
          refine rs_op rfl (ow_on rfl (ow_neq rfl rfl ?_))
          refine rs_op rfl (ow_pickF rfl rfl ?_)
          refine rs_op rfl (ow_move rfl ?_)
          refine rs_split 157 rfl (fun q4 => ?_) (fun q4 => ?_)
          · have _way := True.intro
            refine rs_op rfl (ow_off rfl ?_)
            refine rs_op rfl (ow_off rfl ?_)
            refine rs_op rfl (ow_pickT rfl rfl ?_)
            refine rs_nil ?_
            refine ew_next ?_
            refine cw_then rfl ?_
            refine cw_seq ?_
            refine cw_region ?_
            refine rs_op rfl (ow_assign rfl ?_)
            refine rs_nil ?_
            refine ew_next ?_
            refine cw_ret ?_
            refine ew_then_ret ?_
            refine ew_ret (rs := [.tmp 6]) (vs := [_]) rfl ⟨rfl, trivial⟩ ?_
            exact ⟨rfl, (LW.step E XLW).toBelow⟩
          · have _way := True.intro
            refine rs_op rfl (ow_on rfl (ow_move rfl ?_))
            refine rs_op rfl (ow_on rfl (ow_neq rfl rfl ?_))
            refine rs_op rfl (ow_pickF rfl rfl ?_)
            refine rs_nil ?_
            refine ew_next ?_
            refine cw_cond rfl (fun q5 => ?_) (fun q5 => ?_)
            · have _way := True.intro
              refine cw_seq ?_
              refine cw_region ?_
              refine rs_op rfl (ow_assign rfl ?_)
              refine rs_nil ?_
              refine ew_next ?_
              refine cw_ret ?_
              refine ew_then_ret ?_
              refine ew_ret (rs := [.tmp 6]) (vs := [_]) rfl ⟨rfl, trivial⟩ ?_
              exact ⟨rfl, (LW.step E XLW).toBelow⟩
            · have _way := True.intro
              have r1 := outE_zero (i := j + k) (by simpa using q1)
              have r2 := outE_zero (i := i * outV true (j + k)) (by simpa using q2)
              have r3 := outE_zero (i := i * k) (by simpa using q3)
              have r4 := outE_zero (i := i * j) (by simpa using q4)
              have r5 := outE_zero (i := outV true (i * j) + outV true (i * k)) (by simpa using q5)
              have e1 : outV true (outV true (i * j) + outV true (i * k)) = outV true (i * outV true (j + k)) := by
                rw [outV_ok r5, outV_ok r2, outV_ok r4, outV_ok r3, outV_ok r1, Int.mul_add]
              refine cw_skip ?_
              refine ew_next ?_
              refine cw_seq ?_
              refine cw_region ?_
              refine rs_op rfl (ow_loadB Tryd.underlying24 rfl sz24 rfl (HF.on E).here.1.1.1.1.1.1.2 rfl ?_)
              refine rs_op rfl (ow_loadB Tryd.underlying24 rfl sz24 rfl (HF.on E).here.2 rfl ?_)
              refine rs_op rfl (ow_enter en21 rfl ((sameI A7 A10 c7 c10 _ outV_lt outV_lt (HF.on E).here.1.1.1.1.1.1.1.2 (HF.on E).here.1.2 e1).mono ?_))
              rintro e w56 ⟨rfl, hb⟩
              refine ⟨_, rfl, ?_⟩
              have XC : ∀ q9, (No) q9 → q9 < w55.heap.size := Mut.none_
              have SC := Nat.le_trans LW.size E.size
              have SE := E.size
              have Ec := Ext.of_below hb No
              replace E := E.trans Ec.no
              clear hb Ec
              refine rs_op rfl (ow_assign rfl ?_)
              refine rs_nil ?_
              refine ew_next ?_
              refine cw_ret ?_
              refine ew_ret (rs := [.tmp 6]) (vs := [_]) rfl ⟨rfl, trivial⟩ ?_
              exact ⟨rfl, (LW.step E XLW).toBelow⟩
end
/-- WholeRing answers true at every three numbers. -/
theorem ring_law (n1 : Bool) (A : Option Addr) (c : Nat) (xs : List Nat) (n2 : Bool) (B : Option Addr) (d : Nat) (ys : List Nat) (n3 : Bool) (C : Option Addr) (f : Nat) (zs : List Nat) (w : World) (hx : Nums w A xs) (hl : xs.length ≤ 9223372036854775807) (hy : Nums w B ys) (hl' : ys.length ≤ 9223372036854775807) (hz : Nums w C zs) (hl3 : zs.length ≤ 9223372036854775807) :
    Calls Tryd.prog 9 #[.agg #[.bool n1, .slice A xs.length c], .agg #[.bool n2, .slice B ys.length d], .agg #[.bool n3, .slice C zs.length f]] w fun e w' => e = .returned (.bool true) ∧ Below w.heap.size w w' := by
  cases hg : goodB n1 xs
  · exact ring_bad1 n1 n2 n3 A B C c d f xs ys zs w hx hy hz hl hl' hg
  · cases hk : goodB n2 ys
    · exact ring_bad2 n1 n2 n3 A B C c d f xs ys zs w hx hy hz hl hl' hg hk
    · cases hm : goodB n3 zs
      · exact ring_bad3 n1 n2 n3 A B C c d f xs ys zs w hx hy hz hl hl' hl3 hg hk hm
      · obtain ⟨i, rfl, rfl, hi⟩ := good_is hg
        obtain ⟨j, rfl, rfl, hj⟩ := good_is hk
        obtain ⟨k, rfl, rfl, hk'⟩ := good_is hm
        exact ring_good i j k A B C c d f w hi hj hk' hx hy hz
end Go.Proofs.YteggjfmcpodepaaDoor

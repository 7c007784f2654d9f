/- The walk of screeref02.Pow. The walk of screeref02.Read: a text as a number. The walk of the law WholePowers: every Pow. -/
import Derived.Test.YteggjfmcpodepaaDoorWT12
namespace Go.Proofs.YteggjfmcpodepaaDoor
open Go.RowKit
set_option maxRecDepth 100000
theorem Per.nums8N {X : Nat → Prop} {w : World} {A : Option Addr} {xs : List Nat} (h : Nums8 w A xs) (hx : ∀ q, A = some q → ¬ X q.block) : Per X w (fun b => Nums8 b A xs) := fun b hb =>
  ⟨h.1, fun h0 => by
    obtain ⟨g, o, rfl, hg, hc⟩ := h.2 h0
    exact ⟨g, o, rfl, Nat.lt_of_lt_of_le hg hb.size, fun k hk => (hb.cell (p := ⟨g, o + k, none⟩) hg (hx ⟨g, o, none⟩ rfl)).trans (hc k hk)⟩⟩
theorem Per.nums80 {w : World} {A : Option Addr} {xs : List Nat} (h : Nums8 w A xs) : Per No w (fun b => Nums8 b A xs) := Per.nums8N h (fun _ _ => id)
theorem Per.own8X {X : Nat → Prop} {w : World} {base c : Nat} {A : Option Addr} {xs : List Nat} (h : Own8 w base A c xs) (hx : ∀ k, X k → k < base) : Per X w (fun b => Nums8 b A xs) := Per.nums8N h.nums (fun q hq e => by have := hx _ e; have := (h.ge q hq).1; omega)
/-- What a power leaves: a number in digits, new or the first argument's own, and an error's number. -/
def RetNumE (W : World) (A0 : Option Addr) (xs0 : List Nat) (v f : Int) (e : Ending) (w' : World) : Prop := ∃ A c, e = .returned (.tuple #[.agg #[.bool (decide (v < 0)), .slice A (tens v).length c], .int .i64 f]) ∧ Nums8 w' A (tens v) ∧ ((∀ q, A = some q → W.heap.size ≤ q.block) ∨ (A = A0 ∧ tens v = xs0)) ∧ Below W.heap.size W w'
theorem per_pow {X : Nat → Prop} {W w' : World} {A0 A : Option Addr} {xs0 : List Nat} {v : Int} (o : Nums8 w' A (tens v)) (p : (∀ q, A = some q → W.heap.size ≤ q.block) ∨ (A = A0 ∧ tens v = xs0)) (hX : ∀ k, X k → k < W.heap.size) (k : Per X W (fun b => Nums8 b A0 xs0)) (hb : Below W.heap.size W w') : Per X w' (fun b => Nums8 b A (tens v)) := by
  rcases p with p | ⟨rfl, e⟩
  · exact Per.nums8N o (fun q hq h => by have h1 := p q hq; have h2 := hX _ h; omega)
  · rw [e]; exact k.on (Ext.of_below hb X)
theorem nums8_nil (w : World) (A : Option Addr) : Nums8 w A [] := ⟨fun k => by rw [nth_nil]; decide, fun h => absurd h (by decide)⟩
theorem nums8_one {w : World} {g : Nat} (h : Blk w g 5 #[.int .u8 1]) : Nums8 w (some ⟨g, 0, none⟩) [1] :=
  ⟨fun k => by unfold nth; cases k <;> simp, fun _ => ⟨g, 0, rfl, h.lt, fun k hk => by
    obtain rfl : k = 0 := by simp at hk; omega
    rw [h.cell]; simp [nth]⟩⟩
theorem retNumE_zero {W w' : World} {A0 : Option Addr} {xs0 : List Nat} {f : Int} (hb : Below W.heap.size W w') : RetNumE W A0 xs0 0 f (.returned (.tuple #[.agg #[.bool false, .slice none 0 0], .int .i64 f])) w' :=
  ⟨none, 0, by rw [tens_zero]; rfl, by rw [tens_zero]; exact nums8_nil _ _, Or.inl (fun q hq => by cases hq), hb⟩
theorem nth_ten0 {j : Int} (h0 : j ≠ 0) : nth (tens j) 0 = ((j.natAbs % 10 : Nat) : Int) := by
  unfold nth
  rw [tens_eq, digs_step (by decide) (by omega)]
  rfl
theorem ten_pos {j : Int} (h0 : j ≠ 0) : 0 < (tens j).length := by rw [tens_eq]; exact digs_pos (by decide) (by omega)
theorem ten_len1 {j : Int} (h0 : j ≠ 0) (h : j.natAbs < 10) : (tens j).length = 1 := by
  rw [tens_eq, digs_step (by decide) (by omega), Nat.div_eq_of_lt h]; rfl
theorem ten_len2 {j : Int} (h : 10 ≤ j.natAbs) : 1 < (tens j).length := by
  rcases Nat.lt_or_ge 1 (tens j).length with h1 | h1
  · exact h1
  · have := (digs_length_le (b := 10) (by decide) j.natAbs 1).1 (by rw [← tens_eq]; exact h1)
    omega
theorem ten_par {j : Int} (h0 : 0 < j) : (((j.natAbs % 10 : Nat) : Int).tmod 2 == 1) = decide (j.toNat % 2 = 1) := by
  have hpar : ((j.natAbs % 10 : Nat) : Int).tmod 2 = ((j.toNat % 2 : Nat) : Int) := by
    rw [Int.tmod_eq_emod_of_nonneg (by omega)]
    omega
  rw [hpar, Bool.eq_iff_iff]
  simp
  omega
section
variable (i j : Int) (A B : Option Addr) (c d : Nat) (w : World) (hi : i.natAbs < B18 ^ 30) (hj : j.natAbs < B18 ^ 30) (hx : Nums8 w A (tens i)) (hy : Nums8 w B (tens j))
include hi hj hx hy
theorem rpow_neg (h0 : j < 0) : Calls Tryd.prog 39 #[.agg #[.bool (decide (i < 0)), .slice A (tens i).length c], .agg #[.bool (decide (j < 0)), .slice B (tens j).length d]] w (RetNumE w A (tens i) 0 1) := by
  have _ := And.intro hi (And.intro hj (And.intro hx hy))
  refine calls_cw Tryd.func39 rfl Tryd.ntmps39 rfl ?_
  have HF : Per No w (fun _ => True) := Per.true_
  have LW := Ext.refl (No) w
  have XLW : ∀ q9, (No) q9 → (No) q9 ∨ w.heap.size ≤ q9 := fun _ h => Or.inl h
  have E := Ext.refl No w
  refine cw_seq ?_
  refine cw_region ?_
  refine rs_op rfl (ow_boxB rfl ?_)
  intro gb1 w2 Bb1 Eb1 Gb1
  have Gb1 : _ ≤ gb1 := Nat.le_trans E.size Gb1
  have GLb1 := Nat.le_trans LW.size Gb1
  replace E := E.trans Eb1.no
  clear Eb1
  replace HF := HF.cons (some_ge Gb1)
  replace E := E.cons (some gb1)
  replace XLW := Mut.grow XLW (fun k e => Or.inr (Nat.le_trans LW.size ((some_ge Gb1) k e)))
  replace HF := HF.on E
  replace LW := LW.step E XLW
  have SB : ∀ q9, No q9 → Mut [(some gb1)] q9 := (Mut.skip Mut.nil_)
  replace HF := HF.less SB
  replace XLW := fun k h => XLW k (SB k h)
  clear SB
  replace E := Ext.refl (No) w2
  replace HF := HF.and (Per.blkN Bb1 NotIn.nil)
  clear Bb1
  refine rs_op rfl (ow_boxB rfl ?_)
  intro gb3 w4 Bb3 Eb3 Gb3
  have Gb3 : _ ≤ gb3 := Nat.le_trans E.size Gb3
  have GLb3 := Nat.le_trans LW.size Gb3
  replace E := E.trans Eb3.no
  clear Eb3
  replace HF := HF.cons (some_ge Gb3)
  replace E := E.cons (some gb3)
  replace XLW := Mut.grow XLW (fun k e => Or.inr (Nat.le_trans LW.size ((some_ge Gb3) k e)))
  replace HF := HF.on E
  replace LW := LW.step E XLW
  have SB : ∀ q9, No q9 → Mut [(some gb3)] q9 := (Mut.skip Mut.nil_)
  replace HF := HF.less SB
  replace XLW := fun k h => XLW k (SB k h)
  clear SB
  replace E := Ext.refl (No) w4
  replace HF := HF.and (Per.blkN Bb3 NotIn.nil)
  clear Bb3
  refine rs_op rfl (ow_allocB zr33 ?_)
  intro gb5 w6 Bb5 Eb5 Gb5
  have Gb5 : _ ≤ gb5 := Nat.le_trans E.size Gb5
  have GLb5 := Nat.le_trans LW.size Gb5
  replace E := E.trans Eb5.no
  clear Eb5
  replace HF := HF.cons (some_ge Gb5)
  replace E := E.cons (some gb5)
  replace XLW := Mut.grow XLW (fun k e => Or.inr (Nat.le_trans LW.size ((some_ge Gb5) k e)))
  refine rs_op rfl (ow_assign rfl ?_)
  refine rs_nil ?_
  refine ew_next ?_
  refine cw_seq ?_
  refine cw_seq ?_
  refine cw_region ?_
  refine rs_op rfl (ow_fieldAddr Tryd.underlying33 rfl sz4 (by decide) rfl ?_)
  refine rs_op rfl (ow_loadF Tryd.underlying4 rfl rfl (HF.on E).here.2 rfl ?_)
  refine rs_nil ?_
  refine ew_next ?_
  refine cw_set 11 (.bool true) rfl ((by rw [decide_eq_true h0] : (.bool (decide (j < 0)) : Value) = _)) ?_
  refine cw_then rfl ?_
  refine cw_seq ?_
  refine cw_region ?_
  refine rs_op rfl (ow_build (cs := #[.bool false, .slice none 0 0]) pl33 zr33 rfl rfl ?_)
  refine rs_op0 (ow_storeM sz33 rfl rfl Bb5 rfl rfl (Nat.le_of_ble_eq_true rfl) ?_)
  intro w7 Bx Eb5
  replace Bb5 := Bx
  clear Bx
  replace E := E.step1 Eb5 Mut.head
  clear Eb5
  refine rs_op rfl (ow_assign rfl ?_)
  refine rs_nil ?_
  refine ew_next ?_
  refine cw_ret ?_
  refine ew_then_ret ?_
  refine ew_ret (rs := [.cell 4 33, .tmp 5]) (vs := [_, _]) rfl ⟨⟨_, rfl, res_box Tryd.underlying33 rfl sz33 Bb5 rfl⟩, rfl, trivial⟩ ?_
  exact retNumE_zero (LW.step E XLW).toBelow
theorem rpow_zero (h0 : j = 0) : Calls Tryd.prog 39 #[.agg #[.bool (decide (i < 0)), .slice A (tens i).length c], .agg #[.bool (decide (j < 0)), .slice B (tens j).length d]] w (RetNumE w A (tens i) 1 0) := by
  have _ := And.intro hi (And.intro hj (And.intro hx hy))
  have hd : decide (j < 0) = false := by rw [h0]; rfl
  have hlen : ((tens j).length : Int) = 0 := by rw [h0, tens_zero]; rfl
  refine calls_cw Tryd.func39 rfl Tryd.ntmps39 rfl ?_
  have HF : Per No w (fun _ => True) := Per.true_
  have LW := Ext.refl (No) w
  have XLW : ∀ q9, (No) q9 → (No) q9 ∨ w.heap.size ≤ q9 := fun _ h => Or.inl h
  have E := Ext.refl No w
  refine cw_seq ?_
  refine cw_region ?_
  refine rs_op rfl (ow_boxB rfl ?_)
  intro gb1 w2 Bb1 Eb1 Gb1
  have Gb1 : _ ≤ gb1 := Nat.le_trans E.size Gb1
  have GLb1 := Nat.le_trans LW.size Gb1
  replace E := E.trans Eb1.no
  clear Eb1
  replace HF := HF.cons (some_ge Gb1)
  replace E := E.cons (some gb1)
  replace XLW := Mut.grow XLW (fun k e => Or.inr (Nat.le_trans LW.size ((some_ge Gb1) k e)))
  replace HF := HF.on E
  replace LW := LW.step E XLW
  have SB : ∀ q9, No q9 → Mut [(some gb1)] q9 := (Mut.skip Mut.nil_)
  replace HF := HF.less SB
  replace XLW := fun k h => XLW k (SB k h)
  clear SB
  replace E := Ext.refl (No) w2
  replace HF := HF.and (Per.blkN Bb1 NotIn.nil)
  clear Bb1
  refine rs_op rfl (ow_boxB rfl ?_)
  intro gb3 w4 Bb3 Eb3 Gb3
  have Gb3 : _ ≤ gb3 := Nat.le_trans E.size Gb3
  have GLb3 := Nat.le_trans LW.size Gb3
  replace E := E.trans Eb3.no
  clear Eb3
  replace HF := HF.cons (some_ge Gb3)
  replace E := E.cons (some gb3)
  replace XLW := Mut.grow XLW (fun k e => Or.inr (Nat.le_trans LW.size ((some_ge Gb3) k e)))
  replace HF := HF.on E
  replace LW := LW.step E XLW
  have SB : ∀ q9, No q9 → Mut [(some gb3)] q9 := (Mut.skip Mut.nil_)
  replace HF := HF.less SB
  replace XLW := fun k h => XLW k (SB k h)
  clear SB
  replace E := Ext.refl (No) w4
  replace HF := HF.and (Per.blkN Bb3 NotIn.nil)
  clear Bb3
  refine rs_op rfl (ow_allocB zr33 ?_)
  intro gb5 w6 Bb5 Eb5 Gb5
  have Gb5 : _ ≤ gb5 := Nat.le_trans E.size Gb5
  have GLb5 := Nat.le_trans LW.size Gb5
  replace E := E.trans Eb5.no
  clear Eb5
  replace HF := HF.cons (some_ge Gb5)
  replace E := E.cons (some gb5)
  replace XLW := Mut.grow XLW (fun k e => Or.inr (Nat.le_trans LW.size ((some_ge Gb5) k e)))
  refine rs_op rfl (ow_assign rfl ?_)
  refine rs_nil ?_
  refine ew_next ?_
  refine cw_seq ?_
  refine cw_seq ?_
  refine cw_region ?_
  refine rs_op rfl (ow_fieldAddr Tryd.underlying33 rfl sz4 (by decide) rfl ?_)
  refine rs_op rfl (ow_loadF Tryd.underlying4 rfl rfl (HF.on E).here.2 rfl ?_)
  refine rs_nil ?_
  refine ew_next ?_
  refine cw_set 11 (.bool false) rfl ((by rw [hd] : (.bool (decide (j < 0)) : Value) = _)) ?_
  refine cw_else rfl ?_
  refine cw_skip ?_
  refine ew_next ?_
  refine cw_seq ?_
  refine cw_seq ?_
  refine cw_region ?_
  refine rs_op rfl (ow_fieldAddr Tryd.underlying33 rfl sz31 (by decide) rfl ?_)
  refine rs_op rfl (ow_loadF Tryd.underlying31 rfl rfl (HF.on E).here.2 rfl ?_)
  refine rs_op rfl (ow_len Tryd.underlying31 rfl ?_)
  refine rs_op rfl (ow_eql rfl rfl ?_)
  refine rs_nil ?_
  refine ew_next ?_
  refine cw_set 16 (.bool true) rfl ((by rw [hlen]; rfl : (.bool (((((tens j).length : Nat)) : Int) == 0) : Value) = _)) ?_
  refine cw_then rfl ?_
  refine cw_seq ?_
  refine cw_region ?_
  refine rs_op rfl (ow_buildSlice (cs := #[.int .u8 1]) Tryd.underlying31 sz5 zr5 (by decide) rfl (by rw [map_range_]; rfl) ?_)
  intro gb7 w8 Bb7 Eb7 Gb7
  have Db7_b5 : Apart (some gb7) (some gb5) := Apart.of_lt (some_lt Bb5.lt) Gb7
  have Db5_b7 := Db7_b5.symm
  have Gb7 : _ ≤ gb7 := Nat.le_trans E.size Gb7
  have GLb7 := Nat.le_trans LW.size Gb7
  replace Bb5 := Bb5.extN Eb7 NotIn.nil
  replace E := E.trans Eb7.no
  clear Eb7
  replace HF := HF.cons (some_ge Gb7)
  replace E := E.cons (some gb7)
  replace XLW := Mut.grow XLW (fun k e => Or.inr (Nat.le_trans LW.size ((some_ge Gb7) k e)))
  replace HF := HF.on E
  replace LW := LW.step E XLW
  have SB : ∀ q9, Mut [(some gb5)] q9 → Mut [(some gb7), (some gb5)] q9 := (Mut.skip (Mut.keep Mut.nil_))
  replace HF := HF.less SB
  replace XLW := fun k h => XLW k (SB k h)
  clear SB
  replace E := Ext.refl (Mut [(some gb5)]) w8
  replace HF := HF.and (Per.blkN Bb7 (NotIn.cons Db7_b5 NotIn.nil))
  clear Bb7
  refine rs_op rfl (ow_build (cs := #[.bool false, .slice (some ⟨gb7, 0, none⟩) 1 1]) pl33 zr33 rfl rfl ?_)
  refine rs_op0 (ow_storeM sz33 rfl rfl Bb5 rfl rfl (Nat.le_of_ble_eq_true rfl) ?_)
  intro w9 Bx Eb5
  replace Bb5 := Bx
  clear Bx
  replace E := E.step1 Eb5 Mut.head
  clear Eb5
  refine rs_op rfl (ow_assign rfl ?_)
  refine rs_nil ?_
  refine ew_next ?_
  refine cw_ret ?_
  refine ew_then_ret ?_
  have e1 : tens 1 = [1] := by rw [tens_eq]; rfl
  have B9 := (HF.on E).here.2
  have GG := GLb7
  refine ew_ret (rs := [.cell 4 33, .tmp 5]) (vs := [_, _]) rfl ⟨⟨_, rfl, res_box Tryd.underlying33 rfl sz33 Bb5 rfl⟩, rfl, trivial⟩ ?_
  exact ⟨some ⟨gb7, 0, none⟩, 1, by rw [e1]; rfl, by rw [e1]; exact nums8_one B9, Or.inl (fun q hq => by obtain rfl := Option.some.inj hq; exact GG), (LW.step E XLW).toBelow⟩
theorem rpow_nought (h0 : 0 < j) (hi0 : i = 0) : Calls Tryd.prog 39 #[.agg #[.bool (decide (i < 0)), .slice A (tens i).length c], .agg #[.bool (decide (j < 0)), .slice B (tens j).length d]] w (RetNumE w A (tens i) 0 0) := by
  have _ := And.intro hi (And.intro hj (And.intro hx hy))
  have hd : decide (j < 0) = false := decide_eq_false (by omega)
  have hlen : ((tens j).length : Int) ≠ 0 := by have := ten_pos (j := j) (by omega); omega
  have hli : ((tens i).length : Int) = 0 := by rw [hi0, tens_zero]; rfl
  refine calls_cw Tryd.func39 rfl Tryd.ntmps39 rfl ?_
  have HF : Per No w (fun _ => True) := Per.true_
  have LW := Ext.refl (No) w
  have XLW : ∀ q9, (No) q9 → (No) q9 ∨ w.heap.size ≤ q9 := fun _ h => Or.inl h
  have E := Ext.refl No w
  refine cw_seq ?_
  refine cw_region ?_
  refine rs_op rfl (ow_boxB rfl ?_)
  intro gb1 w2 Bb1 Eb1 Gb1
  have Gb1 : _ ≤ gb1 := Nat.le_trans E.size Gb1
  have GLb1 := Nat.le_trans LW.size Gb1
  replace E := E.trans Eb1.no
  clear Eb1
  replace HF := HF.cons (some_ge Gb1)
  replace E := E.cons (some gb1)
  replace XLW := Mut.grow XLW (fun k e => Or.inr (Nat.le_trans LW.size ((some_ge Gb1) k e)))
  replace HF := HF.on E
  replace LW := LW.step E XLW
  have SB : ∀ q9, No q9 → Mut [(some gb1)] q9 := (Mut.skip Mut.nil_)
  replace HF := HF.less SB
  replace XLW := fun k h => XLW k (SB k h)
  clear SB
  replace E := Ext.refl (No) w2
  replace HF := HF.and (Per.blkN Bb1 NotIn.nil)
  clear Bb1
  refine rs_op rfl (ow_boxB rfl ?_)
  intro gb3 w4 Bb3 Eb3 Gb3
  have Gb3 : _ ≤ gb3 := Nat.le_trans E.size Gb3
  have GLb3 := Nat.le_trans LW.size Gb3
  replace E := E.trans Eb3.no
  clear Eb3
  replace HF := HF.cons (some_ge Gb3)
  replace E := E.cons (some gb3)
  replace XLW := Mut.grow XLW (fun k e => Or.inr (Nat.le_trans LW.size ((some_ge Gb3) k e)))
  replace HF := HF.on E
  replace LW := LW.step E XLW
  have SB : ∀ q9, No q9 → Mut [(some gb3)] q9 := (Mut.skip Mut.nil_)
  replace HF := HF.less SB
  replace XLW := fun k h => XLW k (SB k h)
  clear SB
  replace E := Ext.refl (No) w4
  replace HF := HF.and (Per.blkN Bb3 NotIn.nil)
  clear Bb3
  refine rs_op rfl (ow_allocB zr33 ?_)
  intro gb5 w6 Bb5 Eb5 Gb5
  have Gb5 : _ ≤ gb5 := Nat.le_trans E.size Gb5
  have GLb5 := Nat.le_trans LW.size Gb5
  replace E := E.trans Eb5.no
  clear Eb5
  replace HF := HF.cons (some_ge Gb5)
  replace E := E.cons (some gb5)
  replace XLW := Mut.grow XLW (fun k e => Or.inr (Nat.le_trans LW.size ((some_ge Gb5) k e)))
  refine rs_op rfl (ow_assign rfl ?_)
  refine rs_nil ?_
  refine ew_next ?_
  refine cw_seq ?_
  refine cw_seq ?_
  refine cw_region ?_
  refine rs_op rfl (ow_fieldAddr Tryd.underlying33 rfl sz4 (by decide) rfl ?_)
  refine rs_op rfl (ow_loadF Tryd.underlying4 rfl rfl (HF.on E).here.2 rfl ?_)
  refine rs_nil ?_
  refine ew_next ?_
  refine cw_set 11 (.bool false) rfl ((by rw [hd] : (.bool (decide (j < 0)) : Value) = _)) ?_
  refine cw_else rfl ?_
  refine cw_skip ?_
  refine ew_next ?_
  refine cw_seq ?_
  refine cw_seq ?_
  refine cw_region ?_
  refine rs_op rfl (ow_fieldAddr Tryd.underlying33 rfl sz31 (by decide) rfl ?_)
  refine rs_op rfl (ow_loadF Tryd.underlying31 rfl rfl (HF.on E).here.2 rfl ?_)
  refine rs_op rfl (ow_len Tryd.underlying31 rfl ?_)
  refine rs_op rfl (ow_eql rfl rfl ?_)
  refine rs_nil ?_
  refine ew_next ?_
  refine cw_set 16 (.bool false) rfl ((by rw [beq_eq_false_iff_ne.2 hlen] : (.bool (((((tens j).length : Nat)) : Int) == 0) : Value) = _)) ?_
  refine cw_else rfl ?_
  refine cw_skip ?_
  refine ew_next ?_
  refine cw_seq ?_
  refine cw_seq ?_
  refine cw_region ?_
  refine rs_op rfl (ow_fieldAddr Tryd.underlying33 rfl sz31 (by decide) rfl ?_)
  refine rs_op rfl (ow_loadF Tryd.underlying31 rfl rfl (HF.on E).here.1.2 rfl ?_)
  refine rs_op rfl (ow_len Tryd.underlying31 rfl ?_)
  refine rs_op rfl (ow_eql rfl rfl ?_)
  refine rs_nil ?_
  refine ew_next ?_
  refine cw_set 22 (.bool true) rfl ((by rw [hli]; rfl : (.bool (((((tens i).length : Nat)) : Int) == 0) : Value) = _)) ?_
  refine cw_then rfl ?_
  refine cw_seq ?_
  refine cw_region ?_
  refine rs_op rfl (ow_build (cs := #[.bool false, .slice none 0 0]) pl33 zr33 rfl rfl ?_)
  refine rs_op0 (ow_storeM sz33 rfl rfl Bb5 rfl rfl (Nat.le_of_ble_eq_true rfl) ?_)
  intro w7 Bx Eb5
  replace Bb5 := Bx
  clear Bx
  replace E := E.step1 Eb5 Mut.head
  clear Eb5
  refine rs_op rfl (ow_assign rfl ?_)
  refine rs_nil ?_
  refine ew_next ?_
  refine cw_ret ?_
  refine ew_then_ret ?_
  refine ew_ret (rs := [.cell 4 33, .tmp 5]) (vs := [_, _]) rfl ⟨⟨_, rfl, res_box Tryd.underlying33 rfl sz33 Bb5 rfl⟩, rfl, trivial⟩ ?_
  exact retNumE_zero (LW.step E XLW).toBelow
theorem rpow_one (h0 : 0 < j) (hi1 : i.natAbs = 1) (hin : decide (i < 0) = false) : Calls Tryd.prog 39 #[.agg #[.bool (decide (i < 0)), .slice A (tens i).length c], .agg #[.bool (decide (j < 0)), .slice B (tens j).length d]] w (RetNumE w A (tens i) (i ^ j.toNat) 0) := by
  have _ := And.intro hi hj
  have hv : i ^ j.toNat = 1 := by rw [pow_one_abs hi1, hin]; rfl
  have ht : tens (i ^ j.toNat) = tens i := by rw [hv, tens_eq, tens_eq, hi1]; rfl
  have hd : decide (j < 0) = false := decide_eq_false (by omega)
  have hip := ten_pos (j := i) (by omega)
  have hjp := ten_pos (j := j) (by omega)
  have hlen : ((tens j).length : Int) ≠ 0 := by omega
  have hleni : ((tens i).length : Int) ≠ 0 := by omega
  obtain ⟨bx, ox, rfl, hbx, hcx⟩ := hx.2 hip
  obtain ⟨by_, oy, rfl, hby, hcy⟩ := hy.2 hjp
  have hc0 : w.cell? ⟨bx, ox + 0, none⟩ = some (.int .u8 ((i.natAbs % 10 : Nat) : Int)) := by rw [hcx 0 hip, nth_ten0 (by omega)]
  have hd0 : w.cell? ⟨by_, oy + 0, none⟩ = some (.int .u8 ((j.natAbs % 10 : Nat) : Int)) := by rw [hcy 0 hjp, nth_ten0 (by omega)]
  refine calls_cw Tryd.func39 rfl Tryd.ntmps39 rfl ?_
  have HF : Per No w (fun _ => True) := Per.true_
  have LW := Ext.refl (No) w
  have XLW : ∀ q9, (No) q9 → (No) q9 ∨ w.heap.size ≤ q9 := fun _ h => Or.inl h
  have E := Ext.refl No w
  replace HF := HF.on E
  replace LW := LW.step E XLW
  replace E := Ext.refl (No) w
  replace HF := HF.and (Per.nums80 hx)
  replace HF := HF.on E
  replace LW := LW.step E XLW
  replace E := Ext.refl (No) w
  replace HF := HF.and (Per.nums80 hy)
  replace HF := HF.on E
  replace LW := LW.step E XLW
  replace E := Ext.refl (No) w
  replace HF := HF.and (Per.cell0 hc0)
  replace HF := HF.on E
  replace LW := LW.step E XLW
  replace E := Ext.refl (No) w
  replace HF := HF.and (Per.cell0 hd0)
  refine cw_seq ?_
  refine cw_region ?_
  refine rs_op rfl (ow_boxB rfl ?_)
  intro gb1 w2 Bb1 Eb1 Gb1
  have Gb1 : _ ≤ gb1 := Nat.le_trans E.size Gb1
  have GLb1 := Nat.le_trans LW.size Gb1
  replace E := E.trans Eb1.no
  clear Eb1
  replace HF := HF.cons (some_ge Gb1)
  replace E := E.cons (some gb1)
  replace XLW := Mut.grow XLW (fun k e => Or.inr (Nat.le_trans LW.size ((some_ge Gb1) k e)))
  replace HF := HF.on E
  replace LW := LW.step E XLW
  have SB : ∀ q9, No q9 → Mut [(some gb1)] q9 := (Mut.skip Mut.nil_)
  replace HF := HF.less SB
  replace XLW := fun k h => XLW k (SB k h)
  clear SB
  replace E := Ext.refl (No) w2
  replace HF := HF.and (Per.blkN Bb1 NotIn.nil)
  clear Bb1
  refine rs_op rfl (ow_boxB rfl ?_)
  intro gb3 w4 Bb3 Eb3 Gb3
  have Gb3 : _ ≤ gb3 := Nat.le_trans E.size Gb3
  have GLb3 := Nat.le_trans LW.size Gb3
  replace E := E.trans Eb3.no
  clear Eb3
  replace HF := HF.cons (some_ge Gb3)
  replace E := E.cons (some gb3)
  replace XLW := Mut.grow XLW (fun k e => Or.inr (Nat.le_trans LW.size ((some_ge Gb3) k e)))
  replace HF := HF.on E
  replace LW := LW.step E XLW
  have SB : ∀ q9, No q9 → Mut [(some gb3)] q9 := (Mut.skip Mut.nil_)
  replace HF := HF.less SB
  replace XLW := fun k h => XLW k (SB k h)
  clear SB
  replace E := Ext.refl (No) w4
  replace HF := HF.and (Per.blkN Bb3 NotIn.nil)
  clear Bb3
  refine rs_op rfl (ow_allocB zr33 ?_)
  intro gb5 w6 Bb5 Eb5 Gb5
  have Gb5 : _ ≤ gb5 := Nat.le_trans E.size Gb5
  have GLb5 := Nat.le_trans LW.size Gb5
  replace E := E.trans Eb5.no
  clear Eb5
  replace HF := HF.cons (some_ge Gb5)
  replace E := E.cons (some gb5)
  replace XLW := Mut.grow XLW (fun k e => Or.inr (Nat.le_trans LW.size ((some_ge Gb5) k e)))
  refine rs_op rfl (ow_assign rfl ?_)
  refine rs_nil ?_
  refine ew_next ?_
  refine cw_seq ?_
  refine cw_seq ?_
  refine cw_region ?_
  refine rs_op rfl (ow_fieldAddr Tryd.underlying33 rfl sz4 (by decide) rfl ?_)
  refine rs_op rfl (ow_loadF Tryd.underlying4 rfl rfl (HF.on E).here.2 rfl ?_)
  refine rs_nil ?_
  refine ew_next ?_
  refine cw_set 11 (.bool false) rfl ((by rw [hd] : (.bool (decide (j < 0)) : Value) = _)) ?_
  refine cw_else rfl ?_
  refine cw_skip ?_
  refine ew_next ?_
  refine cw_seq ?_
  refine cw_seq ?_
  refine cw_region ?_
  refine rs_op rfl (ow_fieldAddr Tryd.underlying33 rfl sz31 (by decide) rfl ?_)
  refine rs_op rfl (ow_loadF Tryd.underlying31 rfl rfl (HF.on E).here.2 rfl ?_)
  refine rs_op rfl (ow_len Tryd.underlying31 rfl ?_)
  refine rs_op rfl (ow_eql rfl rfl ?_)
  refine rs_nil ?_
  refine ew_next ?_
  refine cw_set 16 (.bool false) rfl ((by rw [beq_eq_false_iff_ne.2 hlen] : (.bool (((((tens j).length : Nat)) : Int) == 0) : Value) = _)) ?_
  refine cw_else rfl ?_
  refine cw_skip ?_
  refine ew_next ?_
  refine cw_seq ?_
  refine cw_seq ?_
  refine cw_region ?_
  refine rs_op rfl (ow_fieldAddr Tryd.underlying33 rfl sz31 (by decide) rfl ?_)
  refine rs_op rfl (ow_loadF Tryd.underlying31 rfl rfl (HF.on E).here.1.2 rfl ?_)
  refine rs_op rfl (ow_len Tryd.underlying31 rfl ?_)
  refine rs_op rfl (ow_eql rfl rfl ?_)
  refine rs_nil ?_
  refine ew_next ?_
  refine cw_set 22 (.bool false) rfl ((by rw [beq_eq_false_iff_ne.2 hleni] : (.bool (((((tens i).length : Nat)) : Int) == 0) : Value) = _)) ?_
  refine cw_else rfl ?_
  refine cw_skip ?_
  refine ew_next ?_
  refine cw_seq ?_
  refine cw_seq ?_
  refine cw_region ?_
  refine rs_op rfl (ow_fieldAddr Tryd.underlying33 rfl sz31 (by decide) rfl ?_)
  refine rs_op rfl (ow_loadF Tryd.underlying31 rfl rfl (HF.on E).here.1.2 rfl ?_)
  refine rs_op rfl (ow_len Tryd.underlying31 rfl ?_)
  refine rs_op rfl (ow_eql rfl rfl ?_)
  refine rs_op rfl (ow_move rfl ?_)
  have h1 : ((tens i).length : Int) = 1 := by rw [ten_len1 (by omega) (by omega)]; rfl
  refine rs_set 28 (.bool true) rfl ((by rw [h1]; rfl : (.bool (((((tens i).length : Nat)) : Int) == 1) : Value) = _)) ?_
  refine rs_op rfl (ow_on rfl (ow_fieldAddr Tryd.underlying33 rfl sz31 (by decide) rfl ?_))
  refine rs_op rfl (ow_on rfl (ow_loadF Tryd.underlying31 rfl rfl (HF.on E).here.1.2 rfl ?_))
  refine rs_op rfl (ow_on rfl (ow_indexAddr1 (j := 0) Tryd.underlying31 sz5 rfl rfl rfl hip ?_))
  refine rs_op rfl (ow_on rfl (ow_load1 Tryd.underlying5 rfl rfl (HF.on E).here.1.1.1.2 ?_))
  refine rs_op rfl (ow_on rfl (ow_eql rfl rfl ?_))
  refine rs_op rfl (ow_pickT rfl rfl ?_)
  refine rs_nil ?_
  refine ew_next ?_
  refine cw_set 34 (.bool true) rfl ((by rw [hi1]; rfl : (.bool (((i.natAbs % 10 : Nat) : Int) == 1) : Value) = _)) ?_
  refine cw_then rfl ?_
  refine cw_seq ?_
  have OY : ∀ q9, (Mut (outM [⟨13, gb5, 33, #[.bool false, .slice none 0 0]⟩])) q9 → q9 < (World.drew w6).heap.size → (Mut [(some gb5)]) q9 := fun k h _ => ((Mut.grow Mut.none_ Mut.head)) k h
  refine cw_drawn (Mut [(some gb5)]) (Mut.grow Mut.none_ (some_lt Bb5.lt)) [] [⟨13, gb5, 33, #[.bool false, .slice none 0 0]⟩] (fxAt [Fx.of (.pointer (some ⟨gb1, 0, none⟩)),
      Fx.of (.bool false),
      Fx.of (.bool false),
      Fx.of undef,
      Fx.of undef,
      Fx.of undef,
      Fx.of undef,
      Fx.of undef,
      Fx.of undef,
      Fx.of (.bool false),
      Fx.of (.pointer (some ⟨gb1, 1, none⟩)),
      Fx.of (.slice (some ⟨bx, ox, none⟩) (tens i).length c),
      Fx.of (.agg #[.bool false, .slice (some ⟨bx, ox, none⟩) (tens i).length c]),
      Fx.of undef,
      Fx.of (.int .i64 0)]) mixed rfl ⟨⟨Mut.head _ rfl, Bb5, fun _ h => by cases h⟩, trivial⟩ (by intro o ho; simp at ho; rcases ho with rfl <;> simp) ?_ ?_
  · refine ⟨?_, ?_, ?_, ?_, ?_, ?_, ?_, ?_, ?_, ?_, ?_, ?_, ?_, ?_, ?_, trivial⟩
    · intro vs X wq K
      have LE := K.1
      have XN := K.2.1
      have SQ := Nat.le_trans LW.size (Nat.le_trans E.size LE.size)
      exact ow_fieldAddr Tryd.underlying33 rfl sz4 (by decide) rfl ⟨Below.refl _ _, Left.of rfl⟩
    · intro vs X wq K
      have LE := K.1
      have XN := K.2.1
      have SQ := Nat.le_trans LW.size (Nat.le_trans E.size LE.size)
      obtain ⟨_, e0, k0⟩ := K.dep 0 rfl rfl rfl
      refine ow_set 35 (.pointer (some ⟨gb1, 0, none⟩)) rfl e0 ?_
      exact ow_loadF Tryd.underlying4 rfl rfl (HF.on (E.drew.trans (LE.mono OY))).here.1.2 rfl ⟨Below.refl _ _, Left.of ((by rw [hin] : (.bool (decide (i < 0)) : Value) = _))⟩
    · intro vs X wq K
      have LE := K.1
      have XN := K.2.1
      have SQ := Nat.le_trans LW.size (Nat.le_trans E.size LE.size)
      obtain ⟨_, e1, k1⟩ := K.dep 1 rfl rfl rfl
      refine ow_set 36 (.bool false) rfl e1 ?_
      exact ow_move rfl ⟨Below.refl _ _, Left.of rfl⟩
    · intro vs X wq K
      have LE := K.1
      have XN := K.2.1
      have SQ := Nat.le_trans LW.size (Nat.le_trans E.size LE.size)
      obtain ⟨_, e2, k2⟩ := K.dep 2 rfl rfl rfl
      refine ow_set 37 (.bool false) rfl e2 ?_
      exact ow_off rfl ⟨Below.refl _ _, Left.of rfl⟩
    · intro vs X wq K
      have LE := K.1
      have XN := K.2.1
      have SQ := Nat.le_trans LW.size (Nat.le_trans E.size LE.size)
      obtain ⟨_, e3, k3⟩ := K.dep 3 rfl rfl rfl
      refine ow_set 38 (undef) rfl e3 ?_
      obtain ⟨_, e2, k2⟩ := K.dep 2 rfl rfl rfl
      refine ow_set 37 (.bool false) rfl e2 ?_
      exact ow_off rfl ⟨Below.refl _ _, Left.of rfl⟩
    · intro vs X wq K
      have LE := K.1
      have XN := K.2.1
      have SQ := Nat.le_trans LW.size (Nat.le_trans E.size LE.size)
      obtain ⟨_, e4, k4⟩ := K.dep 4 rfl rfl rfl
      refine ow_set 39 (undef) rfl e4 ?_
      obtain ⟨_, e2, k2⟩ := K.dep 2 rfl rfl rfl
      refine ow_set 37 (.bool false) rfl e2 ?_
      exact ow_off rfl ⟨Below.refl _ _, Left.of rfl⟩
    · intro vs X wq K
      have LE := K.1
      have XN := K.2.1
      have SQ := Nat.le_trans LW.size (Nat.le_trans E.size LE.size)
      obtain ⟨_, e5, k5⟩ := K.dep 5 rfl rfl rfl
      refine ow_set 40 (undef) rfl e5 ?_
      obtain ⟨_, e2, k2⟩ := K.dep 2 rfl rfl rfl
      refine ow_set 37 (.bool false) rfl e2 ?_
      exact ow_off rfl ⟨Below.refl _ _, Left.of rfl⟩
    · intro vs X wq K
      have LE := K.1
      have XN := K.2.1
      have SQ := Nat.le_trans LW.size (Nat.le_trans E.size LE.size)
      obtain ⟨_, e6, k6⟩ := K.dep 6 rfl rfl rfl
      refine ow_set 41 (undef) rfl e6 ?_
      obtain ⟨_, e2, k2⟩ := K.dep 2 rfl rfl rfl
      refine ow_set 37 (.bool false) rfl e2 ?_
      exact ow_off rfl ⟨Below.refl _ _, Left.of rfl⟩
    · intro vs X wq K
      have LE := K.1
      have XN := K.2.1
      have SQ := Nat.le_trans LW.size (Nat.le_trans E.size LE.size)
      obtain ⟨_, e7, k7⟩ := K.dep 7 rfl rfl rfl
      refine ow_set 42 (undef) rfl e7 ?_
      obtain ⟨_, e2, k2⟩ := K.dep 2 rfl rfl rfl
      refine ow_set 37 (.bool false) rfl e2 ?_
      exact ow_off rfl ⟨Below.refl _ _, Left.of rfl⟩
    · intro vs X wq K
      have LE := K.1
      have XN := K.2.1
      have SQ := Nat.le_trans LW.size (Nat.le_trans E.size LE.size)
      obtain ⟨_, e2, k2⟩ := K.dep 2 rfl rfl rfl
      refine ow_set 37 (.bool false) rfl e2 ?_
      obtain ⟨_, e8, k8⟩ := K.dep 8 rfl rfl rfl
      refine ow_set 43 (undef) rfl e8 ?_
      exact ow_pickF rfl rfl ⟨Below.refl _ _, Left.of rfl⟩
    · intro vs X wq K
      have LE := K.1
      have XN := K.2.1
      have SQ := Nat.le_trans LW.size (Nat.le_trans E.size LE.size)
      exact ow_fieldAddr Tryd.underlying33 rfl sz31 (by decide) rfl ⟨Below.refl _ _, Left.of rfl⟩
    · intro vs X wq K
      have LE := K.1
      have XN := K.2.1
      have SQ := Nat.le_trans LW.size (Nat.le_trans E.size LE.size)
      obtain ⟨_, e10, k10⟩ := K.dep 10 rfl rfl rfl
      refine ow_set 45 (.pointer (some ⟨gb1, 1, none⟩)) rfl e10 ?_
      exact ow_loadF Tryd.underlying31 rfl rfl (HF.on (E.drew.trans (LE.mono OY))).here.1.2 rfl ⟨Below.refl _ _, Left.of rfl⟩
    · intro vs X wq K
      have LE := K.1
      have XN := K.2.1
      have SQ := Nat.le_trans LW.size (Nat.le_trans E.size LE.size)
      obtain ⟨_, e9, k9⟩ := K.dep 9 rfl rfl rfl
      refine ow_set 44 (.bool false) rfl e9 ?_
      obtain ⟨_, e11, k11⟩ := K.dep 11 rfl rfl rfl
      refine ow_set 46 (.slice (some ⟨bx, ox, none⟩) (tens i).length c) rfl e11 ?_
      exact ow_build (cs := #[.bool false, .slice (some ⟨bx, ox, none⟩) (tens i).length c]) pl33 zr33 rfl rfl ⟨Below.refl _ _, Left.of rfl⟩
    · refine ⟨_, _, _, _, _, rfl, rfl, sz33, fun vs X wq K => ⟨rfl, ?_⟩⟩
      obtain ⟨_, e0, _⟩ := K.dep 12 rfl rfl rfl
      exact ⟨vs 12, rfl, by rw [e0]; rfl, by rw [e0]; rfl⟩
    · intro vs X wq K
      have LE := K.1
      have XN := K.2.1
      have SQ := Nat.le_trans LW.size (Nat.le_trans E.size LE.size)
      exact ow_assign rfl ⟨Below.refl _ _, Left.of rfl⟩
  intro vs w7 LE AO AL AF AA
  have LBb5 := Bb5
  replace E := E.drew.trans (LE.mono OY)
  obtain ⟨_, e12, k12⟩ := AL.2.2.2.2.2.2.2.2.2.2.2.2.1
  obtain ⟨_, e14, k14⟩ := AL.2.2.2.2.2.2.2.2.2.2.2.2.2.2.1
  obtain ⟨v0, y0, Bx, ey, ev0⟩ := AO.1
  cases ey
  obtain rfl : vs 12 = v0 := Option.some.inj ev0
  rw [e12] at Bx
  replace Bb5 : Blk w7 gb5 33 #[.bool false, .slice (some ⟨bx, ox, none⟩) (tens i).length c] := Bx
  clear Bx
  refine ew_sub (τ := [(2, _), (3, _), (4, _), (5, .int .i64 0)]) ⟨rfl, rfl, rfl, congrArg some e14, trivial⟩ ?_
  clear AL AF AA LE AO OY e12 e14 k12 k14 LBb5
  refine ew_next ?_
  refine cw_ret ?_
  refine ew_then_ret ?_
  refine ew_ret (rs := [.cell 4 33, .tmp 5]) (vs := [_, _]) rfl ⟨⟨_, rfl, res_box Tryd.underlying33 rfl sz33 Bb5 rfl⟩, rfl, trivial⟩ ?_
  exact ⟨some ⟨bx, ox, none⟩, c, by rw [ht, hv]; rfl, by rw [ht]; exact (HF.on E).here.1.1.1.1.1.2, Or.inr ⟨rfl, ht⟩, (LW.step E XLW).toBelow⟩
theorem rpow_mone (h0 : 0 < j) (hi1 : i.natAbs = 1) (hin : decide (i < 0) = true) : Calls Tryd.prog 39 #[.agg #[.bool (decide (i < 0)), .slice A (tens i).length c], .agg #[.bool (decide (j < 0)), .slice B (tens j).length d]] w (RetNumE w A (tens i) (i ^ j.toNat) 0) := by
  have _ := And.intro hi hj
  have hv : decide (i ^ j.toNat < 0) = decide (j.toNat % 2 = 1) := by
    rw [pow_one_abs hi1, hin, Bool.true_and]
    cases decide (j.toNat % 2 = 1) <;> rfl
  have ht : tens (i ^ j.toNat) = tens i := by rw [tens_eq, tens_eq, pow_abs, hi1, Nat.one_pow]
  have hd : decide (j < 0) = false := decide_eq_false (by omega)
  have hip := ten_pos (j := i) (by omega)
  have hjp := ten_pos (j := j) (by omega)
  have hlen : ((tens j).length : Int) ≠ 0 := by omega
  have hleni : ((tens i).length : Int) ≠ 0 := by omega
  obtain ⟨bx, ox, rfl, hbx, hcx⟩ := hx.2 hip
  obtain ⟨by_, oy, rfl, hby, hcy⟩ := hy.2 hjp
  have hc0 : w.cell? ⟨bx, ox + 0, none⟩ = some (.int .u8 ((i.natAbs % 10 : Nat) : Int)) := by rw [hcx 0 hip, nth_ten0 (by omega)]
  have hd0 : w.cell? ⟨by_, oy + 0, none⟩ = some (.int .u8 ((j.natAbs % 10 : Nat) : Int)) := by rw [hcy 0 hjp, nth_ten0 (by omega)]
  refine calls_cw Tryd.func39 rfl Tryd.ntmps39 rfl ?_
  have HF : Per No w (fun _ => True) := Per.true_
  have LW := Ext.refl (No) w
  have XLW : ∀ q9, (No) q9 → (No) q9 ∨ w.heap.size ≤ q9 := fun _ h => Or.inl h
  have E := Ext.refl No w
  replace HF := HF.on E
  replace LW := LW.step E XLW
  replace E := Ext.refl (No) w
  replace HF := HF.and (Per.nums80 hx)
  replace HF := HF.on E
  replace LW := LW.step E XLW
  replace E := Ext.refl (No) w
  replace HF := HF.and (Per.nums80 hy)
  replace HF := HF.on E
  replace LW := LW.step E XLW
  replace E := Ext.refl (No) w
  replace HF := HF.and (Per.cell0 hc0)
  replace HF := HF.on E
  replace LW := LW.step E XLW
  replace E := Ext.refl (No) w
  replace HF := HF.and (Per.cell0 hd0)
  refine cw_seq ?_
  refine cw_region ?_
  refine rs_op rfl (ow_boxB rfl ?_)
  intro gb1 w2 Bb1 Eb1 Gb1
  have Gb1 : _ ≤ gb1 := Nat.le_trans E.size Gb1
  have GLb1 := Nat.le_trans LW.size Gb1
  replace E := E.trans Eb1.no
  clear Eb1
  replace HF := HF.cons (some_ge Gb1)
  replace E := E.cons (some gb1)
  replace XLW := Mut.grow XLW (fun k e => Or.inr (Nat.le_trans LW.size ((some_ge Gb1) k e)))
  replace HF := HF.on E
  replace LW := LW.step E XLW
  have SB : ∀ q9, No q9 → Mut [(some gb1)] q9 := (Mut.skip Mut.nil_)
  replace HF := HF.less SB
  replace XLW := fun k h => XLW k (SB k h)
  clear SB
  replace E := Ext.refl (No) w2
  replace HF := HF.and (Per.blkN Bb1 NotIn.nil)
  clear Bb1
  refine rs_op rfl (ow_boxB rfl ?_)
  intro gb3 w4 Bb3 Eb3 Gb3
  have Gb3 : _ ≤ gb3 := Nat.le_trans E.size Gb3
  have GLb3 := Nat.le_trans LW.size Gb3
  replace E := E.trans Eb3.no
  clear Eb3
  replace HF := HF.cons (some_ge Gb3)
  replace E := E.cons (some gb3)
  replace XLW := Mut.grow XLW (fun k e => Or.inr (Nat.le_trans LW.size ((some_ge Gb3) k e)))
  replace HF := HF.on E
  replace LW := LW.step E XLW
  have SB : ∀ q9, No q9 → Mut [(some gb3)] q9 := (Mut.skip Mut.nil_)
  replace HF := HF.less SB
  replace XLW := fun k h => XLW k (SB k h)
  clear SB
  replace E := Ext.refl (No) w4
  replace HF := HF.and (Per.blkN Bb3 NotIn.nil)
  clear Bb3
  refine rs_op rfl (ow_allocB zr33 ?_)
  intro gb5 w6 Bb5 Eb5 Gb5
  have Gb5 : _ ≤ gb5 := Nat.le_trans E.size Gb5
  have GLb5 := Nat.le_trans LW.size Gb5
  replace E := E.trans Eb5.no
  clear Eb5
  replace HF := HF.cons (some_ge Gb5)
  replace E := E.cons (some gb5)
  replace XLW := Mut.grow XLW (fun k e => Or.inr (Nat.le_trans LW.size ((some_ge Gb5) k e)))
  refine rs_op rfl (ow_assign rfl ?_)
  refine rs_nil ?_
  refine ew_next ?_
  refine cw_seq ?_
  refine cw_seq ?_
  refine cw_region ?_
  refine rs_op rfl (ow_fieldAddr Tryd.underlying33 rfl sz4 (by decide) rfl ?_)
  refine rs_op rfl (ow_loadF Tryd.underlying4 rfl rfl (HF.on E).here.2 rfl ?_)
  refine rs_nil ?_
  refine ew_next ?_
  refine cw_set 11 (.bool false) rfl ((by rw [hd] : (.bool (decide (j < 0)) : Value) = _)) ?_
  refine cw_else rfl ?_
  refine cw_skip ?_
  refine ew_next ?_
  refine cw_seq ?_
  refine cw_seq ?_
  refine cw_region ?_
  refine rs_op rfl (ow_fieldAddr Tryd.underlying33 rfl sz31 (by decide) rfl ?_)
  refine rs_op rfl (ow_loadF Tryd.underlying31 rfl rfl (HF.on E).here.2 rfl ?_)
  refine rs_op rfl (ow_len Tryd.underlying31 rfl ?_)
  refine rs_op rfl (ow_eql rfl rfl ?_)
  refine rs_nil ?_
  refine ew_next ?_
  refine cw_set 16 (.bool false) rfl ((by rw [beq_eq_false_iff_ne.2 hlen] : (.bool (((((tens j).length : Nat)) : Int) == 0) : Value) = _)) ?_
  refine cw_else rfl ?_
  refine cw_skip ?_
  refine ew_next ?_
  refine cw_seq ?_
  refine cw_seq ?_
  refine cw_region ?_
  refine rs_op rfl (ow_fieldAddr Tryd.underlying33 rfl sz31 (by decide) rfl ?_)
  refine rs_op rfl (ow_loadF Tryd.underlying31 rfl rfl (HF.on E).here.1.2 rfl ?_)
  refine rs_op rfl (ow_len Tryd.underlying31 rfl ?_)
  refine rs_op rfl (ow_eql rfl rfl ?_)
  refine rs_nil ?_
  refine ew_next ?_
  refine cw_set 22 (.bool false) rfl ((by rw [beq_eq_false_iff_ne.2 hleni] : (.bool (((((tens i).length : Nat)) : Int) == 0) : Value) = _)) ?_
  refine cw_else rfl ?_
  refine cw_skip ?_
  refine ew_next ?_
  refine cw_seq ?_
  refine cw_seq ?_
  refine cw_region ?_
  refine rs_op rfl (ow_fieldAddr Tryd.underlying33 rfl sz31 (by decide) rfl ?_)
  refine rs_op rfl (ow_loadF Tryd.underlying31 rfl rfl (HF.on E).here.1.2 rfl ?_)
  refine rs_op rfl (ow_len Tryd.underlying31 rfl ?_)
  refine rs_op rfl (ow_eql rfl rfl ?_)
  refine rs_op rfl (ow_move rfl ?_)
  have h1 : ((tens i).length : Int) = 1 := by rw [ten_len1 (by omega) (by omega)]; rfl
  refine rs_set 28 (.bool true) rfl ((by rw [h1]; rfl : (.bool (((((tens i).length : Nat)) : Int) == 1) : Value) = _)) ?_
  refine rs_op rfl (ow_on rfl (ow_fieldAddr Tryd.underlying33 rfl sz31 (by decide) rfl ?_))
  refine rs_op rfl (ow_on rfl (ow_loadF Tryd.underlying31 rfl rfl (HF.on E).here.1.2 rfl ?_))
  refine rs_op rfl (ow_on rfl (ow_indexAddr1 (j := 0) Tryd.underlying31 sz5 rfl rfl rfl hip ?_))
  refine rs_op rfl (ow_on rfl (ow_load1 Tryd.underlying5 rfl rfl (HF.on E).here.1.1.1.2 ?_))
  refine rs_op rfl (ow_on rfl (ow_eql rfl rfl ?_))
  refine rs_op rfl (ow_pickT rfl rfl ?_)
  refine rs_nil ?_
  refine ew_next ?_
  refine cw_set 34 (.bool true) rfl ((by rw [hi1]; rfl : (.bool (((i.natAbs % 10 : Nat) : Int) == 1) : Value) = _)) ?_
  refine cw_then rfl ?_
  refine cw_seq ?_
  have OY : ∀ q9, (Mut (outM [⟨13, gb5, 33, #[.bool false, .slice none 0 0]⟩])) q9 → q9 < (World.drew w6).heap.size → (Mut [(some gb5)]) q9 := fun k h _ => ((Mut.grow Mut.none_ Mut.head)) k h
  refine cw_drawn (Mut [(some gb5)]) (Mut.grow Mut.none_ (some_lt Bb5.lt)) [] [⟨13, gb5, 33, #[.bool false, .slice none 0 0]⟩] (fxAt [Fx.of (.pointer (some ⟨gb1, 0, none⟩)),
      Fx.of (.bool true),
      Fx.of (.bool true),
      Fx.of (.pointer (some ⟨gb3, 1, none⟩)),
      Fx.of (.slice (some ⟨by_, oy, none⟩) (tens j).length d),
      Fx.of (.pointer (some ⟨by_, oy + 0, none⟩)),
      Fx.of (.int .u8 ((j.natAbs % 10 : Nat) : Int)),
      Fx.of (.int .u8 (((j.natAbs % 10 : Nat) : Int).tmod 2)),
      Fx.of (.bool (decide (j.toNat % 2 = 1))),
      Fx.of (.bool (decide (j.toNat % 2 = 1))),
      Fx.of (.pointer (some ⟨gb1, 1, none⟩)),
      Fx.of (.slice (some ⟨bx, ox, none⟩) (tens i).length c),
      Fx.of (.agg #[.bool (decide (j.toNat % 2 = 1)), .slice (some ⟨bx, ox, none⟩) (tens i).length c]),
      Fx.of undef,
      Fx.of (.int .i64 0)]) mixed rfl ⟨⟨Mut.head _ rfl, Bb5, fun _ h => by cases h⟩, trivial⟩ (by intro o ho; simp at ho; rcases ho with rfl <;> simp) ?_ ?_
  · refine ⟨?_, ?_, ?_, ?_, ?_, ?_, ?_, ?_, ?_, ?_, ?_, ?_, ?_, ?_, ?_, trivial⟩
    · intro vs X wq K
      have LE := K.1
      have XN := K.2.1
      have SQ := Nat.le_trans LW.size (Nat.le_trans E.size LE.size)
      exact ow_fieldAddr Tryd.underlying33 rfl sz4 (by decide) rfl ⟨Below.refl _ _, Left.of rfl⟩
    · intro vs X wq K
      have LE := K.1
      have XN := K.2.1
      have SQ := Nat.le_trans LW.size (Nat.le_trans E.size LE.size)
      obtain ⟨_, e0, k0⟩ := K.dep 0 rfl rfl rfl
      refine ow_set 35 (.pointer (some ⟨gb1, 0, none⟩)) rfl e0 ?_
      exact ow_loadF Tryd.underlying4 rfl rfl (HF.on (E.drew.trans (LE.mono OY))).here.1.2 rfl ⟨Below.refl _ _, Left.of ((by rw [hin] : (.bool (decide (i < 0)) : Value) = _))⟩
    · intro vs X wq K
      have LE := K.1
      have XN := K.2.1
      have SQ := Nat.le_trans LW.size (Nat.le_trans E.size LE.size)
      obtain ⟨_, e1, k1⟩ := K.dep 1 rfl rfl rfl
      refine ow_set 36 (.bool true) rfl e1 ?_
      exact ow_move rfl ⟨Below.refl _ _, Left.of rfl⟩
    · intro vs X wq K
      have LE := K.1
      have XN := K.2.1
      have SQ := Nat.le_trans LW.size (Nat.le_trans E.size LE.size)
      obtain ⟨_, e2, k2⟩ := K.dep 2 rfl rfl rfl
      refine ow_set 37 (.bool true) rfl e2 ?_
      exact ow_on rfl (ow_fieldAddr Tryd.underlying33 rfl sz31 (by decide) rfl ⟨Below.refl _ _, Left.of rfl⟩)
    · intro vs X wq K
      have LE := K.1
      have XN := K.2.1
      have SQ := Nat.le_trans LW.size (Nat.le_trans E.size LE.size)
      obtain ⟨_, e3, k3⟩ := K.dep 3 rfl rfl rfl
      refine ow_set 38 (.pointer (some ⟨gb3, 1, none⟩)) rfl e3 ?_
      obtain ⟨_, e2, k2⟩ := K.dep 2 rfl rfl rfl
      refine ow_set 37 (.bool true) rfl e2 ?_
      exact ow_on rfl (ow_loadF Tryd.underlying31 rfl rfl (HF.on (E.drew.trans (LE.mono OY))).here.2 rfl ⟨Below.refl _ _, Left.of rfl⟩)
    · intro vs X wq K
      have LE := K.1
      have XN := K.2.1
      have SQ := Nat.le_trans LW.size (Nat.le_trans E.size LE.size)
      obtain ⟨_, e4, k4⟩ := K.dep 4 rfl rfl rfl
      refine ow_set 39 (.slice (some ⟨by_, oy, none⟩) (tens j).length d) rfl e4 ?_
      obtain ⟨_, e2, k2⟩ := K.dep 2 rfl rfl rfl
      refine ow_set 37 (.bool true) rfl e2 ?_
      exact ow_on rfl (ow_indexAddr1 (j := 0) Tryd.underlying31 sz5 rfl rfl rfl hjp ⟨Below.refl _ _, Left.of rfl⟩)
    · intro vs X wq K
      have LE := K.1
      have XN := K.2.1
      have SQ := Nat.le_trans LW.size (Nat.le_trans E.size LE.size)
      obtain ⟨_, e5, k5⟩ := K.dep 5 rfl rfl rfl
      refine ow_set 40 (.pointer (some ⟨by_, oy + 0, none⟩)) rfl e5 ?_
      obtain ⟨_, e2, k2⟩ := K.dep 2 rfl rfl rfl
      refine ow_set 37 (.bool true) rfl e2 ?_
      exact ow_on rfl (ow_load1 Tryd.underlying5 rfl rfl (HF.on (E.drew.trans (LE.mono OY))).here.1.1.2 ⟨Below.refl _ _, Left.of rfl⟩)
    · intro vs X wq K
      have LE := K.1
      have XN := K.2.1
      have SQ := Nat.le_trans LW.size (Nat.le_trans E.size LE.size)
      obtain ⟨_, e6, k6⟩ := K.dep 6 rfl rfl rfl
      refine ow_set 41 (.int .u8 ((j.natAbs % 10 : Nat) : Int)) rfl e6 ?_
      obtain ⟨_, e2, k2⟩ := K.dep 2 rfl rfl rfl
      refine ow_set 37 (.bool true) rfl e2 ?_
      exact ow_on rfl (ow_rem rfl rfl (by decide) rfl ⟨Below.refl _ _, Left.of rfl⟩)
    · intro vs X wq K
      have LE := K.1
      have XN := K.2.1
      have SQ := Nat.le_trans LW.size (Nat.le_trans E.size LE.size)
      obtain ⟨_, e7, k7⟩ := K.dep 7 rfl rfl rfl
      refine ow_set 42 (.int .u8 (((j.natAbs % 10 : Nat) : Int).tmod 2)) rfl e7 ?_
      obtain ⟨_, e2, k2⟩ := K.dep 2 rfl rfl rfl
      refine ow_set 37 (.bool true) rfl e2 ?_
      exact ow_on rfl (ow_eql rfl rfl ⟨Below.refl _ _, Left.of ((by rw [ten_par h0] : (.bool ((((j.natAbs % 10 : Nat) : Int).tmod 2) == 1) : Value) = _))⟩)
    · intro vs X wq K
      have LE := K.1
      have XN := K.2.1
      have SQ := Nat.le_trans LW.size (Nat.le_trans E.size LE.size)
      obtain ⟨_, e2, k2⟩ := K.dep 2 rfl rfl rfl
      refine ow_set 37 (.bool true) rfl e2 ?_
      obtain ⟨_, e8, k8⟩ := K.dep 8 rfl rfl rfl
      refine ow_set 43 (.bool (decide (j.toNat % 2 = 1))) rfl e8 ?_
      exact ow_pickT rfl rfl ⟨Below.refl _ _, Left.of rfl⟩
    · intro vs X wq K
      have LE := K.1
      have XN := K.2.1
      have SQ := Nat.le_trans LW.size (Nat.le_trans E.size LE.size)
      exact ow_fieldAddr Tryd.underlying33 rfl sz31 (by decide) rfl ⟨Below.refl _ _, Left.of rfl⟩
    · intro vs X wq K
      have LE := K.1
      have XN := K.2.1
      have SQ := Nat.le_trans LW.size (Nat.le_trans E.size LE.size)
      obtain ⟨_, e10, k10⟩ := K.dep 10 rfl rfl rfl
      refine ow_set 45 (.pointer (some ⟨gb1, 1, none⟩)) rfl e10 ?_
      exact ow_loadF Tryd.underlying31 rfl rfl (HF.on (E.drew.trans (LE.mono OY))).here.1.2 rfl ⟨Below.refl _ _, Left.of rfl⟩
    · intro vs X wq K
      have LE := K.1
      have XN := K.2.1
      have SQ := Nat.le_trans LW.size (Nat.le_trans E.size LE.size)
      obtain ⟨_, e9, k9⟩ := K.dep 9 rfl rfl rfl
      refine ow_set 44 (.bool (decide (j.toNat % 2 = 1))) rfl e9 ?_
      obtain ⟨_, e11, k11⟩ := K.dep 11 rfl rfl rfl
      refine ow_set 46 (.slice (some ⟨bx, ox, none⟩) (tens i).length c) rfl e11 ?_
      exact ow_build (cs := #[.bool (decide (j.toNat % 2 = 1)), .slice (some ⟨bx, ox, none⟩) (tens i).length c]) pl33 zr33 rfl rfl ⟨Below.refl _ _, Left.of rfl⟩
    · refine ⟨_, _, _, _, _, rfl, rfl, sz33, fun vs X wq K => ⟨rfl, ?_⟩⟩
      obtain ⟨_, e0, _⟩ := K.dep 12 rfl rfl rfl
      exact ⟨vs 12, rfl, by rw [e0]; rfl, by rw [e0]; rfl⟩
    · intro vs X wq K
      have LE := K.1
      have XN := K.2.1
      have SQ := Nat.le_trans LW.size (Nat.le_trans E.size LE.size)
      exact ow_assign rfl ⟨Below.refl _ _, Left.of rfl⟩
  intro vs w7 LE AO AL AF AA
  have LBb5 := Bb5
  replace E := E.drew.trans (LE.mono OY)
  obtain ⟨_, e12, k12⟩ := AL.2.2.2.2.2.2.2.2.2.2.2.2.1
  obtain ⟨_, e14, k14⟩ := AL.2.2.2.2.2.2.2.2.2.2.2.2.2.2.1
  obtain ⟨v0, y0, Bx, ey, ev0⟩ := AO.1
  cases ey
  obtain rfl : vs 12 = v0 := Option.some.inj ev0
  rw [e12] at Bx
  replace Bb5 : Blk w7 gb5 33 #[.bool (decide (j.toNat % 2 = 1)), .slice (some ⟨bx, ox, none⟩) (tens i).length c] := Bx
  clear Bx
  refine ew_sub (τ := [(2, _), (3, _), (4, _), (5, .int .i64 0)]) ⟨rfl, rfl, rfl, congrArg some e14, trivial⟩ ?_
  clear AL AF AA LE AO OY e12 e14 k12 k14 LBb5
  refine ew_next ?_
  refine cw_ret ?_
  refine ew_then_ret ?_
  refine ew_ret (rs := [.cell 4 33, .tmp 5]) (vs := [_, _]) rfl ⟨⟨_, rfl, res_box Tryd.underlying33 rfl sz33 Bb5 rfl⟩, rfl, trivial⟩ ?_
  exact ⟨some ⟨bx, ox, none⟩, c, by rw [ht, hv]; rfl, by rw [ht]; exact (HF.on E).here.1.1.1.1.1.2, Or.inr ⟨rfl, ht⟩, (LW.step E XLW).toBelow⟩
theorem rpow_g1 (h0 : 1800 < j) (h2i : 2 ≤ i.natAbs) (h : i.natAbs < 10) : Calls Tryd.prog 39 #[.agg #[.bool (decide (i < 0)), .slice A (tens i).length c], .agg #[.bool (decide (j < 0)), .slice B (tens j).length d]] w (RetNumE w A (tens i) 0 7) := by
  have _ := hi
  have hd : decide (j < 0) = false := decide_eq_false (by omega)
  have hip := ten_pos (j := i) (by omega)
  have hjp := ten_pos (j := j) (by omega)
  have hlen : ((tens j).length : Int) ≠ 0 := by omega
  have hleni : ((tens i).length : Int) ≠ 0 := by omega
  obtain ⟨bx, ox, rfl, hbx, hcx⟩ := hx.2 hip
  obtain ⟨by_, oy, rfl, hby, hcy⟩ := hy.2 hjp
  have hc0 : w.cell? ⟨bx, ox + 0, none⟩ = some (.int .u8 ((i.natAbs % 10 : Nat) : Int)) := by rw [hcx 0 hip, nth_ten0 (by omega)]
  have hd0 : w.cell? ⟨by_, oy + 0, none⟩ = some (.int .u8 ((j.natAbs % 10 : Nat) : Int)) := by rw [hcy 0 hjp, nth_ten0 (by omega)]
  refine calls_cw Tryd.func39 rfl Tryd.ntmps39 rfl ?_
  have HF : Per No w (fun _ => True) := Per.true_
  have LW := Ext.refl (No) w
  have XLW : ∀ q9, (No) q9 → (No) q9 ∨ w.heap.size ≤ q9 := fun _ h => Or.inl h
  have E := Ext.refl No w
  replace HF := HF.on E
  replace LW := LW.step E XLW
  replace E := Ext.refl (No) w
  replace HF := HF.and (Per.nums80 hx)
  replace HF := HF.on E
  replace LW := LW.step E XLW
  replace E := Ext.refl (No) w
  replace HF := HF.and (Per.nums80 hy)
  replace HF := HF.on E
  replace LW := LW.step E XLW
  replace E := Ext.refl (No) w
  replace HF := HF.and (Per.cell0 hc0)
  replace HF := HF.on E
  replace LW := LW.step E XLW
  replace E := Ext.refl (No) w
  replace HF := HF.and (Per.cell0 hd0)
  refine cw_seq ?_
  refine cw_region ?_
  refine rs_op rfl (ow_boxB rfl ?_)
  intro gb1 w2 Bb1 Eb1 Gb1
  have Gb1 : _ ≤ gb1 := Nat.le_trans E.size Gb1
  have GLb1 := Nat.le_trans LW.size Gb1
  replace E := E.trans Eb1.no
  clear Eb1
  replace HF := HF.cons (some_ge Gb1)
  replace E := E.cons (some gb1)
  replace XLW := Mut.grow XLW (fun k e => Or.inr (Nat.le_trans LW.size ((some_ge Gb1) k e)))
  replace HF := HF.on E
  replace LW := LW.step E XLW
  have SB : ∀ q9, No q9 → Mut [(some gb1)] q9 := (Mut.skip Mut.nil_)
  replace HF := HF.less SB
  replace XLW := fun k h => XLW k (SB k h)
  clear SB
  replace E := Ext.refl (No) w2
  replace HF := HF.and (Per.blkN Bb1 NotIn.nil)
  clear Bb1
  refine rs_op rfl (ow_boxB rfl ?_)
  intro gb3 w4 Bb3 Eb3 Gb3
  have Gb3 : _ ≤ gb3 := Nat.le_trans E.size Gb3
  have GLb3 := Nat.le_trans LW.size Gb3
  replace E := E.trans Eb3.no
  clear Eb3
  replace HF := HF.cons (some_ge Gb3)
  replace E := E.cons (some gb3)
  replace XLW := Mut.grow XLW (fun k e => Or.inr (Nat.le_trans LW.size ((some_ge Gb3) k e)))
  replace HF := HF.on E
  replace LW := LW.step E XLW
  have SB : ∀ q9, No q9 → Mut [(some gb3)] q9 := (Mut.skip Mut.nil_)
  replace HF := HF.less SB
  replace XLW := fun k h => XLW k (SB k h)
  clear SB
  replace E := Ext.refl (No) w4
  replace HF := HF.and (Per.blkN Bb3 NotIn.nil)
  clear Bb3
  refine rs_op rfl (ow_allocB zr33 ?_)
  intro gb5 w6 Bb5 Eb5 Gb5
  have Gb5 : _ ≤ gb5 := Nat.le_trans E.size Gb5
  have GLb5 := Nat.le_trans LW.size Gb5
  replace E := E.trans Eb5.no
  clear Eb5
  replace HF := HF.cons (some_ge Gb5)
  replace E := E.cons (some gb5)
  replace XLW := Mut.grow XLW (fun k e => Or.inr (Nat.le_trans LW.size ((some_ge Gb5) k e)))
  refine rs_op rfl (ow_assign rfl ?_)
  refine rs_nil ?_
  refine ew_next ?_
  refine cw_seq ?_
  refine cw_seq ?_
  refine cw_region ?_
  refine rs_op rfl (ow_fieldAddr Tryd.underlying33 rfl sz4 (by decide) rfl ?_)
  refine rs_op rfl (ow_loadF Tryd.underlying4 rfl rfl (HF.on E).here.2 rfl ?_)
  refine rs_nil ?_
  refine ew_next ?_
  refine cw_set 11 (.bool false) rfl ((by rw [hd] : (.bool (decide (j < 0)) : Value) = _)) ?_
  refine cw_else rfl ?_
  refine cw_skip ?_
  refine ew_next ?_
  refine cw_seq ?_
  refine cw_seq ?_
  refine cw_region ?_
  refine rs_op rfl (ow_fieldAddr Tryd.underlying33 rfl sz31 (by decide) rfl ?_)
  refine rs_op rfl (ow_loadF Tryd.underlying31 rfl rfl (HF.on E).here.2 rfl ?_)
  refine rs_op rfl (ow_len Tryd.underlying31 rfl ?_)
  refine rs_op rfl (ow_eql rfl rfl ?_)
  refine rs_nil ?_
  refine ew_next ?_
  refine cw_set 16 (.bool false) rfl ((by rw [beq_eq_false_iff_ne.2 hlen] : (.bool (((((tens j).length : Nat)) : Int) == 0) : Value) = _)) ?_
  refine cw_else rfl ?_
  refine cw_skip ?_
  refine ew_next ?_
  refine cw_seq ?_
  refine cw_seq ?_
  refine cw_region ?_
  refine rs_op rfl (ow_fieldAddr Tryd.underlying33 rfl sz31 (by decide) rfl ?_)
  refine rs_op rfl (ow_loadF Tryd.underlying31 rfl rfl (HF.on E).here.1.2 rfl ?_)
  refine rs_op rfl (ow_len Tryd.underlying31 rfl ?_)
  refine rs_op rfl (ow_eql rfl rfl ?_)
  refine rs_nil ?_
  refine ew_next ?_
  refine cw_set 22 (.bool false) rfl ((by rw [beq_eq_false_iff_ne.2 hleni] : (.bool (((((tens i).length : Nat)) : Int) == 0) : Value) = _)) ?_
  refine cw_else rfl ?_
  refine cw_skip ?_
  refine ew_next ?_
  refine cw_seq ?_
  refine cw_seq ?_
  refine cw_region ?_
  refine rs_op rfl (ow_fieldAddr Tryd.underlying33 rfl sz31 (by decide) rfl ?_)
  refine rs_op rfl (ow_loadF Tryd.underlying31 rfl rfl (HF.on E).here.1.2 rfl ?_)
  refine rs_op rfl (ow_len Tryd.underlying31 rfl ?_)
  refine rs_op rfl (ow_eql rfl rfl ?_)
  refine rs_op rfl (ow_move rfl ?_)
  have h1 : ((tens i).length : Int) = 1 := by rw [ten_len1 (by omega) (by omega)]; rfl
  refine rs_set 28 (.bool true) rfl ((by rw [h1]; rfl : (.bool (((((tens i).length : Nat)) : Int) == 1) : Value) = _)) ?_
  refine rs_op rfl (ow_on rfl (ow_fieldAddr Tryd.underlying33 rfl sz31 (by decide) rfl ?_))
  refine rs_op rfl (ow_on rfl (ow_loadF Tryd.underlying31 rfl rfl (HF.on E).here.1.2 rfl ?_))
  refine rs_op rfl (ow_on rfl (ow_indexAddr1 (j := 0) Tryd.underlying31 sz5 rfl rfl rfl hip ?_))
  refine rs_op rfl (ow_on rfl (ow_load1 Tryd.underlying5 rfl rfl (HF.on E).here.1.1.1.2 ?_))
  refine rs_op rfl (ow_on rfl (ow_eql rfl rfl ?_))
  refine rs_op rfl (ow_pickT rfl rfl ?_)
  refine rs_nil ?_
  refine ew_next ?_
  refine cw_set 34 (.bool false) rfl ((by rw [Nat.mod_eq_of_lt h, beq_eq_false_iff_ne.2 (by omega)] : (.bool (((i.natAbs % 10 : Nat) : Int) == 1) : Value) = _)) ?_
  refine cw_else rfl ?_
  refine cw_skip ?_
  refine ew_next ?_
  refine cw_seq ?_
  refine cw_region ?_
  refine rs_op rfl (ow_loadB Tryd.underlying33 rfl sz33 rfl (HF.on E).here.2 rfl ?_)
  refine rs_op rfl (ow_enter en26 rfl ((rsmall_any _ d j _ (HF.on E).here.1.1.1.1.2 (by have := tens_length hj; omega)).mono ?_))
  rintro e w7 ⟨rfl, hb⟩
  refine ⟨_, rfl, ?_⟩
  have XC : ∀ q9, (Mut [(some gb5)]) q9 → q9 < w6.heap.size := (Mut.grow Mut.none_ (some_lt Bb5.lt))
  have SC := Nat.le_trans LW.size E.size
  have SE := E.size
  have Ec := Ext.of_below hb No
  replace Bb5 := Bb5.extN Ec NotIn.nil
  replace E := E.trans Ec.no
  clear hb Ec
  refine rs_op rfl (ow_move rfl ?_)
  refine rs_op rfl (ow_extract rfl rfl ?_)
  refine rs_op rfl (ow_extract rfl rfl ?_)
  refine rs_op rfl (ow_assign rfl ?_)
  refine rs_op rfl (ow_assign rfl ?_)
  refine rs_nil ?_
  refine ew_next ?_
  refine cw_seq ?_
  refine cw_seq ?_
  refine cw_region ?_
  refine rs_op rfl (ow_move rfl ?_)
  refine rs_op rfl (ow_not rfl ?_)
  refine rs_op rfl (ow_move rfl ?_)
  refine rs_split 55 rfl (fun q => ?_) (fun q => ?_)
  · have _way := True.intro
    refine rs_op rfl (ow_off rfl ?_)
    refine rs_op rfl (ow_off rfl ?_)
    refine rs_op rfl (ow_pickT rfl rfl ?_)
    refine rs_nil ?_
    refine ew_next ?_
    refine cw_then rfl ?_
    refine cw_seq ?_
    refine cw_region ?_
    refine rs_op rfl (ow_build (cs := #[.bool false, .slice none 0 0]) pl33 zr33 rfl rfl ?_)
    refine rs_op0 (ow_storeM sz33 rfl rfl Bb5 rfl rfl (Nat.le_of_ble_eq_true rfl) ?_)
    intro w8 Bx Eb5
    replace Bb5 := Bx
    clear Bx
    replace E := E.step1 Eb5 Mut.head
    clear Eb5
    refine rs_op rfl (ow_assign rfl ?_)
    refine rs_nil ?_
    refine ew_next ?_
    refine cw_ret ?_
    refine ew_then_ret ?_
    refine ew_ret (rs := [.cell 4 33, .tmp 5]) (vs := [_, _]) rfl ⟨⟨_, rfl, res_box Tryd.underlying33 rfl sz33 Bb5 rfl⟩, rfl, trivial⟩ ?_
    exact retNumE_zero (LW.step E XLW).toBelow
  · have _way := True.intro
    have hin : inR j := by simpa using q
    have hs : (1800 : Int) < smV j := by unfold smV; rw [if_pos hin]; omega
    refine rs_op rfl (ow_on rfl (ow_move rfl ?_))
    refine rs_op rfl (ow_on rfl (ow_gtr rfl rfl ?_))
    refine rs_op rfl (ow_pickF rfl rfl ?_)
    refine rs_nil ?_
    refine ew_next ?_
    refine cw_set 58 (.bool true) rfl ((by rw [decide_eq_true hs] : (.bool (decide (1800 < (smV j))) : Value) = _)) ?_
    refine cw_then rfl ?_
    refine cw_seq ?_
    refine cw_region ?_
    refine rs_op rfl (ow_build (cs := #[.bool false, .slice none 0 0]) pl33 zr33 rfl rfl ?_)
    refine rs_op0 (ow_storeM sz33 rfl rfl Bb5 rfl rfl (Nat.le_of_ble_eq_true rfl) ?_)
    intro w9 Bx Eb5
    replace Bb5 := Bx
    clear Bx
    replace E := E.step1 Eb5 Mut.head
    clear Eb5
    refine rs_op rfl (ow_assign rfl ?_)
    refine rs_nil ?_
    refine ew_next ?_
    refine cw_ret ?_
    refine ew_then_ret ?_
    refine ew_ret (rs := [.cell 4 33, .tmp 5]) (vs := [_, _]) rfl ⟨⟨_, rfl, res_box Tryd.underlying33 rfl sz33 Bb5 rfl⟩, rfl, trivial⟩ ?_
    exact retNumE_zero (LW.step E XLW).toBelow
theorem rpow_g2 (h0 : 1800 < j) (h2i : 2 ≤ i.natAbs) (h : 10 ≤ i.natAbs) : Calls Tryd.prog 39 #[.agg #[.bool (decide (i < 0)), .slice A (tens i).length c], .agg #[.bool (decide (j < 0)), .slice B (tens j).length d]] w (RetNumE w A (tens i) 0 7) := by
  have _ := hi
  have hd : decide (j < 0) = false := decide_eq_false (by omega)
  have hip := ten_pos (j := i) (by omega)
  have hjp := ten_pos (j := j) (by omega)
  have hlen : ((tens j).length : Int) ≠ 0 := by omega
  have hleni : ((tens i).length : Int) ≠ 0 := by omega
  obtain ⟨bx, ox, rfl, hbx, hcx⟩ := hx.2 hip
  obtain ⟨by_, oy, rfl, hby, hcy⟩ := hy.2 hjp
  have hc0 : w.cell? ⟨bx, ox + 0, none⟩ = some (.int .u8 ((i.natAbs % 10 : Nat) : Int)) := by rw [hcx 0 hip, nth_ten0 (by omega)]
  have hd0 : w.cell? ⟨by_, oy + 0, none⟩ = some (.int .u8 ((j.natAbs % 10 : Nat) : Int)) := by rw [hcy 0 hjp, nth_ten0 (by omega)]
  refine calls_cw Tryd.func39 rfl Tryd.ntmps39 rfl ?_
  have HF : Per No w (fun _ => True) := Per.true_
  have LW := Ext.refl (No) w
  have XLW : ∀ q9, (No) q9 → (No) q9 ∨ w.heap.size ≤ q9 := fun _ h => Or.inl h
  have E := Ext.refl No w
  replace HF := HF.on E
  replace LW := LW.step E XLW
  replace E := Ext.refl (No) w
  replace HF := HF.and (Per.nums80 hx)
  replace HF := HF.on E
  replace LW := LW.step E XLW
  replace E := Ext.refl (No) w
  replace HF := HF.and (Per.nums80 hy)
  replace HF := HF.on E
  replace LW := LW.step E XLW
  replace E := Ext.refl (No) w
  replace HF := HF.and (Per.cell0 hc0)
  replace HF := HF.on E
  replace LW := LW.step E XLW
  replace E := Ext.refl (No) w
  replace HF := HF.and (Per.cell0 hd0)
  refine cw_seq ?_
  refine cw_region ?_
  refine rs_op rfl (ow_boxB rfl ?_)
  intro gb1 w2 Bb1 Eb1 Gb1
  have Gb1 : _ ≤ gb1 := Nat.le_trans E.size Gb1
  have GLb1 := Nat.le_trans LW.size Gb1
  replace E := E.trans Eb1.no
  clear Eb1
  replace HF := HF.cons (some_ge Gb1)
  replace E := E.cons (some gb1)
  replace XLW := Mut.grow XLW (fun k e => Or.inr (Nat.le_trans LW.size ((some_ge Gb1) k e)))
  replace HF := HF.on E
  replace LW := LW.step E XLW
  have SB : ∀ q9, No q9 → Mut [(some gb1)] q9 := (Mut.skip Mut.nil_)
  replace HF := HF.less SB
  replace XLW := fun k h => XLW k (SB k h)
  clear SB
  replace E := Ext.refl (No) w2
  replace HF := HF.and (Per.blkN Bb1 NotIn.nil)
  clear Bb1
  refine rs_op rfl (ow_boxB rfl ?_)
  intro gb3 w4 Bb3 Eb3 Gb3
  have Gb3 : _ ≤ gb3 := Nat.le_trans E.size Gb3
  have GLb3 := Nat.le_trans LW.size Gb3
  replace E := E.trans Eb3.no
  clear Eb3
  replace HF := HF.cons (some_ge Gb3)
  replace E := E.cons (some gb3)
  replace XLW := Mut.grow XLW (fun k e => Or.inr (Nat.le_trans LW.size ((some_ge Gb3) k e)))
  replace HF := HF.on E
  replace LW := LW.step E XLW
  have SB : ∀ q9, No q9 → Mut [(some gb3)] q9 := (Mut.skip Mut.nil_)
  replace HF := HF.less SB
  replace XLW := fun k h => XLW k (SB k h)
  clear SB
  replace E := Ext.refl (No) w4
  replace HF := HF.and (Per.blkN Bb3 NotIn.nil)
  clear Bb3
  refine rs_op rfl (ow_allocB zr33 ?_)
  intro gb5 w6 Bb5 Eb5 Gb5
  have Gb5 : _ ≤ gb5 := Nat.le_trans E.size Gb5
  have GLb5 := Nat.le_trans LW.size Gb5
  replace E := E.trans Eb5.no
  clear Eb5
  replace HF := HF.cons (some_ge Gb5)
  replace E := E.cons (some gb5)
  replace XLW := Mut.grow XLW (fun k e => Or.inr (Nat.le_trans LW.size ((some_ge Gb5) k e)))
  refine rs_op rfl (ow_assign rfl ?_)
  refine rs_nil ?_
  refine ew_next ?_
  refine cw_seq ?_
  refine cw_seq ?_
  refine cw_region ?_
  refine rs_op rfl (ow_fieldAddr Tryd.underlying33 rfl sz4 (by decide) rfl ?_)
  refine rs_op rfl (ow_loadF Tryd.underlying4 rfl rfl (HF.on E).here.2 rfl ?_)
  refine rs_nil ?_
  refine ew_next ?_
  refine cw_set 11 (.bool false) rfl ((by rw [hd] : (.bool (decide (j < 0)) : Value) = _)) ?_
  refine cw_else rfl ?_
  refine cw_skip ?_
  refine ew_next ?_
  refine cw_seq ?_
  refine cw_seq ?_
  refine cw_region ?_
  refine rs_op rfl (ow_fieldAddr Tryd.underlying33 rfl sz31 (by decide) rfl ?_)
  refine rs_op rfl (ow_loadF Tryd.underlying31 rfl rfl (HF.on E).here.2 rfl ?_)
  refine rs_op rfl (ow_len Tryd.underlying31 rfl ?_)
  refine rs_op rfl (ow_eql rfl rfl ?_)
  refine rs_nil ?_
  refine ew_next ?_
  refine cw_set 16 (.bool false) rfl ((by rw [beq_eq_false_iff_ne.2 hlen] : (.bool (((((tens j).length : Nat)) : Int) == 0) : Value) = _)) ?_
  refine cw_else rfl ?_
  refine cw_skip ?_
  refine ew_next ?_
  refine cw_seq ?_
  refine cw_seq ?_
  refine cw_region ?_
  refine rs_op rfl (ow_fieldAddr Tryd.underlying33 rfl sz31 (by decide) rfl ?_)
  refine rs_op rfl (ow_loadF Tryd.underlying31 rfl rfl (HF.on E).here.1.2 rfl ?_)
  refine rs_op rfl (ow_len Tryd.underlying31 rfl ?_)
  refine rs_op rfl (ow_eql rfl rfl ?_)
  refine rs_nil ?_
  refine ew_next ?_
  refine cw_set 22 (.bool false) rfl ((by rw [beq_eq_false_iff_ne.2 hleni] : (.bool (((((tens i).length : Nat)) : Int) == 0) : Value) = _)) ?_
  refine cw_else rfl ?_
  refine cw_skip ?_
  refine ew_next ?_
  refine cw_seq ?_
  refine cw_seq ?_
  refine cw_region ?_
  refine rs_op rfl (ow_fieldAddr Tryd.underlying33 rfl sz31 (by decide) rfl ?_)
  refine rs_op rfl (ow_loadF Tryd.underlying31 rfl rfl (HF.on E).here.1.2 rfl ?_)
  refine rs_op rfl (ow_len Tryd.underlying31 rfl ?_)
  refine rs_op rfl (ow_eql rfl rfl ?_)
  refine rs_op rfl (ow_move rfl ?_)
  have h1 : ((tens i).length : Int) ≠ 1 := by have := ten_len2 h; omega
  refine rs_set 28 (.bool false) rfl ((by rw [beq_eq_false_iff_ne.2 h1] : (.bool (((((tens i).length : Nat)) : Int) == 1) : Value) = _)) ?_
  refine rs_op rfl (ow_off rfl ?_)
  refine rs_op rfl (ow_off rfl ?_)
  refine rs_op rfl (ow_off rfl ?_)
  refine rs_op rfl (ow_off rfl ?_)
  refine rs_op rfl (ow_off rfl ?_)
  refine rs_op rfl (ow_pickF rfl rfl ?_)
  refine rs_nil ?_
  refine ew_next ?_
  refine cw_else rfl ?_
  refine cw_skip ?_
  refine ew_next ?_
  refine cw_seq ?_
  refine cw_region ?_
  refine rs_op rfl (ow_loadB Tryd.underlying33 rfl sz33 rfl (HF.on E).here.2 rfl ?_)
  refine rs_op rfl (ow_enter en26 rfl ((rsmall_any _ d j _ (HF.on E).here.1.1.1.1.2 (by have := tens_length hj; omega)).mono ?_))
  rintro e w7 ⟨rfl, hb⟩
  refine ⟨_, rfl, ?_⟩
  have XC : ∀ q9, (Mut [(some gb5)]) q9 → q9 < w6.heap.size := (Mut.grow Mut.none_ (some_lt Bb5.lt))
  have SC := Nat.le_trans LW.size E.size
  have SE := E.size
  have Ec := Ext.of_below hb No
  replace Bb5 := Bb5.extN Ec NotIn.nil
  replace E := E.trans Ec.no
  clear hb Ec
  refine rs_op rfl (ow_move rfl ?_)
  refine rs_op rfl (ow_extract rfl rfl ?_)
  refine rs_op rfl (ow_extract rfl rfl ?_)
  refine rs_op rfl (ow_assign rfl ?_)
  refine rs_op rfl (ow_assign rfl ?_)
  refine rs_nil ?_
  refine ew_next ?_
  refine cw_seq ?_
  refine cw_seq ?_
  refine cw_region ?_
  refine rs_op rfl (ow_move rfl ?_)
  refine rs_op rfl (ow_not rfl ?_)
  refine rs_op rfl (ow_move rfl ?_)
  refine rs_split 55 rfl (fun q => ?_) (fun q => ?_)
  · have _way := True.intro
    refine rs_op rfl (ow_off rfl ?_)
    refine rs_op rfl (ow_off rfl ?_)
    refine rs_op rfl (ow_pickT rfl rfl ?_)
    refine rs_nil ?_
    refine ew_next ?_
    refine cw_then rfl ?_
    refine cw_seq ?_
    refine cw_region ?_
    refine rs_op rfl (ow_build (cs := #[.bool false, .slice none 0 0]) pl33 zr33 rfl rfl ?_)
    refine rs_op0 (ow_storeM sz33 rfl rfl Bb5 rfl rfl (Nat.le_of_ble_eq_true rfl) ?_)
    intro w8 Bx Eb5
    replace Bb5 := Bx
    clear Bx
    replace E := E.step1 Eb5 Mut.head
    clear Eb5
    refine rs_op rfl (ow_assign rfl ?_)
    refine rs_nil ?_
    refine ew_next ?_
    refine cw_ret ?_
    refine ew_then_ret ?_
    refine ew_ret (rs := [.cell 4 33, .tmp 5]) (vs := [_, _]) rfl ⟨⟨_, rfl, res_box Tryd.underlying33 rfl sz33 Bb5 rfl⟩, rfl, trivial⟩ ?_
    exact retNumE_zero (LW.step E XLW).toBelow
  · have _way := True.intro
    have hin : inR j := by simpa using q
    have hs : (1800 : Int) < smV j := by unfold smV; rw [if_pos hin]; omega
    refine rs_op rfl (ow_on rfl (ow_move rfl ?_))
    refine rs_op rfl (ow_on rfl (ow_gtr rfl rfl ?_))
    refine rs_op rfl (ow_pickF rfl rfl ?_)
    refine rs_nil ?_
    refine ew_next ?_
    refine cw_set 58 (.bool true) rfl ((by rw [decide_eq_true hs] : (.bool (decide (1800 < (smV j))) : Value) = _)) ?_
    refine cw_then rfl ?_
    refine cw_seq ?_
    refine cw_region ?_
    refine rs_op rfl (ow_build (cs := #[.bool false, .slice none 0 0]) pl33 zr33 rfl rfl ?_)
    refine rs_op0 (ow_storeM sz33 rfl rfl Bb5 rfl rfl (Nat.le_of_ble_eq_true rfl) ?_)
    intro w9 Bx Eb5
    replace Bb5 := Bx
    clear Bx
    replace E := E.step1 Eb5 Mut.head
    clear Eb5
    refine rs_op rfl (ow_assign rfl ?_)
    refine rs_nil ?_
    refine ew_next ?_
    refine cw_ret ?_
    refine ew_then_ret ?_
    refine ew_ret (rs := [.cell 4 33, .tmp 5]) (vs := [_, _]) rfl ⟨⟨_, rfl, res_box Tryd.underlying33 rfl sz33 Bb5 rfl⟩, rfl, trivial⟩ ?_
    exact retNumE_zero (LW.step E XLW).toBelow
theorem rpow_l1 (h0 : 0 < j) (hj2 : j ≤ 1800) (h2i : 2 ≤ i.natAbs) (h : i.natAbs < 10) : Calls Tryd.prog 39 #[.agg #[.bool (decide (i < 0)), .slice A (tens i).length c], .agg #[.bool (decide (j < 0)), .slice B (tens j).length d]] w (RetNumE w A (tens i) (outV true (i ^ j.toNat)) (outE true (i ^ j.toNat))) := by
  have hd : decide (j < 0) = false := decide_eq_false (by omega)
  have hip := ten_pos (j := i) (by omega)
  have hjp := ten_pos (j := j) (by omega)
  have hlen : ((tens j).length : Int) ≠ 0 := by omega
  have hleni : ((tens i).length : Int) ≠ 0 := by omega
  obtain ⟨bx, ox, rfl, hbx, hcx⟩ := hx.2 hip
  obtain ⟨by_, oy, rfl, hby, hcy⟩ := hy.2 hjp
  have hc0 : w.cell? ⟨bx, ox + 0, none⟩ = some (.int .u8 ((i.natAbs % 10 : Nat) : Int)) := by rw [hcx 0 hip, nth_ten0 (by omega)]
  have hd0 : w.cell? ⟨by_, oy + 0, none⟩ = some (.int .u8 ((j.natAbs % 10 : Nat) : Int)) := by rw [hcy 0 hjp, nth_ten0 (by omega)]
  refine calls_cw Tryd.func39 rfl Tryd.ntmps39 rfl ?_
  have HF : Per No w (fun _ => True) := Per.true_
  have LW := Ext.refl (No) w
  have XLW : ∀ q9, (No) q9 → (No) q9 ∨ w.heap.size ≤ q9 := fun _ h => Or.inl h
  have E := Ext.refl No w
  replace HF := HF.on E
  replace LW := LW.step E XLW
  replace E := Ext.refl (No) w
  replace HF := HF.and (Per.nums80 hx)
  replace HF := HF.on E
  replace LW := LW.step E XLW
  replace E := Ext.refl (No) w
  replace HF := HF.and (Per.nums80 hy)
  replace HF := HF.on E
  replace LW := LW.step E XLW
  replace E := Ext.refl (No) w
  replace HF := HF.and (Per.cell0 hc0)
  replace HF := HF.on E
  replace LW := LW.step E XLW
  replace E := Ext.refl (No) w
  replace HF := HF.and (Per.cell0 hd0)
  refine cw_seq ?_
  refine cw_region ?_
  refine rs_op rfl (ow_boxB rfl ?_)
  intro gb1 w2 Bb1 Eb1 Gb1
  have Gb1 : _ ≤ gb1 := Nat.le_trans E.size Gb1
  have GLb1 := Nat.le_trans LW.size Gb1
  replace E := E.trans Eb1.no
  clear Eb1
  replace HF := HF.cons (some_ge Gb1)
  replace E := E.cons (some gb1)
  replace XLW := Mut.grow XLW (fun k e => Or.inr (Nat.le_trans LW.size ((some_ge Gb1) k e)))
  replace HF := HF.on E
  replace LW := LW.step E XLW
  have SB : ∀ q9, No q9 → Mut [(some gb1)] q9 := (Mut.skip Mut.nil_)
  replace HF := HF.less SB
  replace XLW := fun k h => XLW k (SB k h)
  clear SB
  replace E := Ext.refl (No) w2
  replace HF := HF.and (Per.blkN Bb1 NotIn.nil)
  clear Bb1
  refine rs_op rfl (ow_boxB rfl ?_)
  intro gb3 w4 Bb3 Eb3 Gb3
  have Gb3 : _ ≤ gb3 := Nat.le_trans E.size Gb3
  have GLb3 := Nat.le_trans LW.size Gb3
  replace E := E.trans Eb3.no
  clear Eb3
  replace HF := HF.cons (some_ge Gb3)
  replace E := E.cons (some gb3)
  replace XLW := Mut.grow XLW (fun k e => Or.inr (Nat.le_trans LW.size ((some_ge Gb3) k e)))
  replace HF := HF.on E
  replace LW := LW.step E XLW
  have SB : ∀ q9, No q9 → Mut [(some gb3)] q9 := (Mut.skip Mut.nil_)
  replace HF := HF.less SB
  replace XLW := fun k h => XLW k (SB k h)
  clear SB
  replace E := Ext.refl (No) w4
  replace HF := HF.and (Per.blkN Bb3 NotIn.nil)
  clear Bb3
  refine rs_op rfl (ow_allocB zr33 ?_)
  intro gb5 w6 Bb5 Eb5 Gb5
  have Gb5 : _ ≤ gb5 := Nat.le_trans E.size Gb5
  have GLb5 := Nat.le_trans LW.size Gb5
  replace E := E.trans Eb5.no
  clear Eb5
  replace HF := HF.cons (some_ge Gb5)
  replace E := E.cons (some gb5)
  replace XLW := Mut.grow XLW (fun k e => Or.inr (Nat.le_trans LW.size ((some_ge Gb5) k e)))
  refine rs_op rfl (ow_assign rfl ?_)
  refine rs_nil ?_
  refine ew_next ?_
  refine cw_seq ?_
  refine cw_seq ?_
  refine cw_region ?_
  refine rs_op rfl (ow_fieldAddr Tryd.underlying33 rfl sz4 (by decide) rfl ?_)
  refine rs_op rfl (ow_loadF Tryd.underlying4 rfl rfl (HF.on E).here.2 rfl ?_)
  refine rs_nil ?_
  refine ew_next ?_
  refine cw_set 11 (.bool false) rfl ((by rw [hd] : (.bool (decide (j < 0)) : Value) = _)) ?_
  refine cw_else rfl ?_
  refine cw_skip ?_
  refine ew_next ?_
  refine cw_seq ?_
  refine cw_seq ?_
  refine cw_region ?_
  refine rs_op rfl (ow_fieldAddr Tryd.underlying33 rfl sz31 (by decide) rfl ?_)
  refine rs_op rfl (ow_loadF Tryd.underlying31 rfl rfl (HF.on E).here.2 rfl ?_)
  refine rs_op rfl (ow_len Tryd.underlying31 rfl ?_)
  refine rs_op rfl (ow_eql rfl rfl ?_)
  refine rs_nil ?_
  refine ew_next ?_
  refine cw_set 16 (.bool false) rfl ((by rw [beq_eq_false_iff_ne.2 hlen] : (.bool (((((tens j).length : Nat)) : Int) == 0) : Value) = _)) ?_
  refine cw_else rfl ?_
  refine cw_skip ?_
  refine ew_next ?_
  refine cw_seq ?_
  refine cw_seq ?_
  refine cw_region ?_
  refine rs_op rfl (ow_fieldAddr Tryd.underlying33 rfl sz31 (by decide) rfl ?_)
  refine rs_op rfl (ow_loadF Tryd.underlying31 rfl rfl (HF.on E).here.1.2 rfl ?_)
  refine rs_op rfl (ow_len Tryd.underlying31 rfl ?_)
  refine rs_op rfl (ow_eql rfl rfl ?_)
  refine rs_nil ?_
  refine ew_next ?_
  refine cw_set 22 (.bool false) rfl ((by rw [beq_eq_false_iff_ne.2 hleni] : (.bool (((((tens i).length : Nat)) : Int) == 0) : Value) = _)) ?_
  refine cw_else rfl ?_
  refine cw_skip ?_
  refine ew_next ?_
  refine cw_seq ?_
  refine cw_seq ?_
  refine cw_region ?_
  refine rs_op rfl (ow_fieldAddr Tryd.underlying33 rfl sz31 (by decide) rfl ?_)
  refine rs_op rfl (ow_loadF Tryd.underlying31 rfl rfl (HF.on E).here.1.2 rfl ?_)
  refine rs_op rfl (ow_len Tryd.underlying31 rfl ?_)
  refine rs_op rfl (ow_eql rfl rfl ?_)
  refine rs_op rfl (ow_move rfl ?_)
  have h1 : ((tens i).length : Int) = 1 := by rw [ten_len1 (by omega) (by omega)]; rfl
  refine rs_set 28 (.bool true) rfl ((by rw [h1]; rfl : (.bool (((((tens i).length : Nat)) : Int) == 1) : Value) = _)) ?_
  refine rs_op rfl (ow_on rfl (ow_fieldAddr Tryd.underlying33 rfl sz31 (by decide) rfl ?_))
  refine rs_op rfl (ow_on rfl (ow_loadF Tryd.underlying31 rfl rfl (HF.on E).here.1.2 rfl ?_))
  refine rs_op rfl (ow_on rfl (ow_indexAddr1 (j := 0) Tryd.underlying31 sz5 rfl rfl rfl hip ?_))
  refine rs_op rfl (ow_on rfl (ow_load1 Tryd.underlying5 rfl rfl (HF.on E).here.1.1.1.2 ?_))
  refine rs_op rfl (ow_on rfl (ow_eql rfl rfl ?_))
  refine rs_op rfl (ow_pickT rfl rfl ?_)
  refine rs_nil ?_
  refine ew_next ?_
  refine cw_set 34 (.bool false) rfl ((by rw [Nat.mod_eq_of_lt h, beq_eq_false_iff_ne.2 (by omega)] : (.bool (((i.natAbs % 10 : Nat) : Int) == 1) : Value) = _)) ?_
  refine cw_else rfl ?_
  refine cw_skip ?_
  refine ew_next ?_
  refine cw_seq ?_
  refine cw_region ?_
  refine rs_op rfl (ow_loadB Tryd.underlying33 rfl sz33 rfl (HF.on E).here.2 rfl ?_)
  have hin : inR j := by unfold inR; omega
  have hsm : smV j = j := by unfold smV; rw [if_pos hin]
  have hti := tens_length hi
  refine rs_op rfl (ow_enter en26 rfl ((rsmall_any _ d j _ (HF.on E).here.1.1.1.1.2 (by have := tens_length hj; omega)).mono ?_))
  rintro e w7 ⟨rfl, hb⟩
  refine ⟨_, rfl, ?_⟩
  have XC : ∀ q9, (Mut [(some gb5)]) q9 → q9 < w6.heap.size := (Mut.grow Mut.none_ (some_lt Bb5.lt))
  have SC := Nat.le_trans LW.size E.size
  have SE := E.size
  have Ec := Ext.of_below hb No
  replace Bb5 := Bb5.extN Ec NotIn.nil
  replace E := E.trans Ec.no
  clear hb Ec
  refine rs_op rfl (ow_move rfl ?_)
  refine rs_op rfl (ow_extract rfl rfl ?_)
  refine rs_op rfl (ow_extract rfl rfl ?_)
  refine rs_op rfl (ow_assign rfl ?_)
  refine rs_op rfl (ow_assign rfl ?_)
  refine rs_nil ?_
  refine ew_next ?_
  refine cw_seq ?_
  refine cw_seq ?_
  refine cw_region ?_
  refine rs_op rfl (ow_move rfl ?_)
  refine rs_op rfl (ow_not rfl ?_)
  refine rs_op rfl (ow_move rfl ?_)
  refine rs_set 55 (.bool false) rfl ((by rw [decide_eq_true hin]; rfl : (.bool (!(decide (inR j))) : Value) = _)) ?_
  refine rs_op rfl (ow_on rfl (ow_move rfl ?_))
  refine rs_op rfl (ow_on rfl (ow_gtr rfl rfl ?_))
  refine rs_op rfl (ow_pickF rfl rfl ?_)
  refine rs_nil ?_
  refine ew_next ?_
  refine cw_set 58 (.bool false) rfl ((by rw [hsm, decide_eq_false (by omega)] : (.bool (decide (1800 < (smV j))) : Value) = _)) ?_
  refine cw_else rfl ?_
  refine cw_skip ?_
  refine ew_next ?_
  refine cw_seq ?_
  refine cw_region ?_
  refine rs_op rfl (ow_buildSlice (cs := #[.int .u8 1]) Tryd.underlying31 sz5 zr5 (by decide) rfl (by rw [map_range_]; rfl) ?_)
  intro gb8 w9 Bb8 Eb8 Gb8
  have Db8_b5 : Apart (some gb8) (some gb5) := Apart.of_lt (some_lt Bb5.lt) Gb8
  have Db5_b8 := Db8_b5.symm
  have Gb8 : _ ≤ gb8 := Nat.le_trans E.size Gb8
  have GLb8 := Nat.le_trans LW.size Gb8
  replace Bb5 := Bb5.extN Eb8 NotIn.nil
  replace E := E.trans Eb8.no
  clear Eb8
  replace HF := HF.cons (some_ge Gb8)
  replace E := E.cons (some gb8)
  replace XLW := Mut.grow XLW (fun k e => Or.inr (Nat.le_trans LW.size ((some_ge Gb8) k e)))
  replace HF := HF.on E
  replace LW := LW.step E XLW
  have SB : ∀ q9, Mut [(some gb5)] q9 → Mut [(some gb8), (some gb5)] q9 := (Mut.skip (Mut.keep Mut.nil_))
  replace HF := HF.less SB
  replace XLW := fun k h => XLW k (SB k h)
  clear SB
  replace E := Ext.refl (Mut [(some gb5)]) w9
  replace HF := HF.and (Per.blkN Bb8 (NotIn.cons Db8_b5 NotIn.nil))
  clear Bb8
  refine rs_op rfl (ow_build (cs := #[.bool false, .slice (some ⟨gb8, 0, none⟩) 1 1]) pl33 zr33 rfl rfl ?_)
  refine rs_op rfl (ow_allocB zr33 ?_)
  intro gb10 w11 Bb10 Eb10 Gb10
  have Db10_b5 : Apart (some gb10) (some gb5) := Apart.of_lt (some_lt Bb5.lt) Gb10
  have Db5_b10 := Db10_b5.symm
  have Gb10 : _ ≤ gb10 := Nat.le_trans E.size Gb10
  have GLb10 := Nat.le_trans LW.size Gb10
  replace Bb5 := Bb5.extN Eb10 NotIn.nil
  replace E := E.trans Eb10.no
  clear Eb10
  replace HF := HF.cons (some_ge Gb10)
  replace E := E.cons (some gb10)
  replace XLW := Mut.grow XLW (fun k e => Or.inr (Nat.le_trans LW.size ((some_ge Gb10) k e)))
  refine rs_op0 (ow_storeM sz33 rfl rfl Bb10 rfl rfl (Nat.le_of_ble_eq_true rfl) ?_)
  intro w12 Bx Eb10
  replace Bb10 := Bx
  clear Bx
  replace Bb5 := Bb5.extN Eb10 (NotIn.cons Db5_b10 NotIn.nil)
  replace E := E.step1 Eb10 Mut.head
  clear Eb10
  refine rs_nil ?_
  refine ew_next ?_
  refine cw_seq ?_
  refine cw_seq ?_
  refine cw_region ?_
  refine rs_op rfl (ow_assign rfl ?_)
  refine rs_nil ?_
  refine ew_next ?_
  refine cw_block ?_
  have b1 : (i ^ 0).natAbs < B18 ^ 30 := by rw [Int.pow_zero]; exact Nat.one_lt_pow (by decide) (by unfold B18; omega)
  have t1 : tens (i ^ 0) = [1] := by rw [Int.pow_zero, tens_eq]; rfl
  have B9 := (HF.on E).here.2
  have GG8 : w.heap.size ≤ gb8 := GLb8
  have hna0 : ∀ q, some (⟨gb8, 0, none⟩ : Addr) = some q → ¬ Mut [(some gb10), (some gb5)] q.block := by
    intro q hq
    obtain rfl := Option.some.inj hq
    exact fun h => h.elim (fun e => Blk.ne_ B9 Bb10 (by decide) (Option.some.inj e)) (fun h => h.elim (fun e => Blk.ne_ B9 Bb5 (by decide) (Option.some.inj e)) id)
  have e0 : i ^ 0 = 1 := Int.pow_zero i
  replace Bb10 : Blk w12 gb10 33 #[.bool (decide (i ^ 0 < 0)), .slice (some ⟨gb8, 0, none⟩) (tens (i ^ 0)).length 1] := by rw [t1, e0]; exact Bb10
  replace HF := HF.on E
  replace LW := LW.step E XLW
  replace E := Ext.refl (Mut [(some gb10), (some gb5)]) w12
  refine cw_loop (ι := Nat × Option Addr × Nat) (fun (k, A1, c1) => [(2, .pointer (some ⟨gb1, 0, none⟩)), (4, .pointer (some ⟨gb5, 0, none⟩)), (6, .int .i64 (smV j)), (8, .pointer (some ⟨gb10, 0, none⟩)), (9, .int .i64 ((k : Nat) : Int))]) (fun (k, A1, c1) w' => Ext (Mut [(some gb10), (some gb5)]) w12 w' ∧ Blk w' gb10 33 (#[.bool (decide (i ^ k < 0)), .slice A1 (tens (i ^ k)).length c1]) ∧ Blk w' gb5 33 (#[.bool false, .slice none 0 0]) ∧ (k ≤ j.toNat ∧ (i ^ k).natAbs < B18 ^ 30 ∧ Nums8 w' A1 (tens (i ^ k)) ∧ (∀ q, A1 = some q → ¬ Mut [(some gb10), (some gb5)] q.block) ∧ (∀ q, A1 = some q → w.heap.size ≤ q.block))) (fun (k, A1, c1) => j.toNat - k) (0, some ⟨gb8, 0, none⟩, 1) ⟨rfl, rfl, rfl, rfl, rfl, trivial⟩ ⟨Ext.refl _ _, (by exact Bb10), (by exact Bb5), ⟨Nat.zero_le _, b1, (by rw [t1]; exact nums8_one B9), hna0, fun q hq => by obtain rfl := Option.some.inj hq; exact GG8⟩⟩ ?_
  have LTb10 := (some_lt Bb10.lt)
  have LTb5 := (some_lt Bb5.lt)
  clear Bb10
  clear Bb5
  rintro ⟨k, A1, c1⟩ w14 ⟨M13, Bb10, Bb5, ⟨hk, hb1, hnum, hna, hge0⟩⟩
  have XM13 : ∀ q9, (Mut [(some gb10), (some gb5)]) q9 → (Mut [(some gb10), (some gb5)]) q9 ∨ w12.heap.size ≤ q9 := (Mut.grow (Mut.grow Mut.none_ (fun k e => Or.inl ((Mut.tail Mut.head) k e))) (fun k e => Or.inl (Mut.head k e)))
  replace E := E.trans M13
  replace HF := HF.on E
  replace LW := LW.step E XLW
  replace E := Ext.refl (Mut [(some gb10), (some gb5)]) w14
  clear LTb10
  clear LTb5
  replace HF := HF.on E
  replace LW := LW.step E XLW
  replace M13 := M13.step E XM13
  replace E := Ext.refl (Mut [(some gb10), (some gb5)]) w14
  replace HF := HF.and (Per.nums8N hnum hna)
  refine cw_seq ?_
  refine cw_seq ?_
  refine cw_region ?_
  refine rs_op rfl (ow_move rfl ?_)
  refine rs_op rfl (ow_move rfl ?_)
  refine rs_op rfl (ow_lss rfl rfl ?_)
  refine rs_nil ?_
  refine ew_next ?_
  refine cw_cond rfl (fun hlt => ?_) (fun hlt => ?_)
  · have _way := True.intro
    have hlt := of_decide_eq_true hlt
    rw [hsm] at hlt
    refine cw_skip ?_
    refine ew_next ?_
    refine cw_seq ?_
    refine cw_block ?_
    refine cw_seq ?_
    refine cw_region ?_
    refine rs_op rfl (ow_loadB Tryd.underlying33 rfl sz33 rfl Bb10 rfl ?_)
    refine rs_op rfl (ow_loadB Tryd.underlying33 rfl sz33 rfl (HF.on E).here.1.1.1.2 rfl ?_)
    refine rs_op rfl (ow_enter en37 rfl ((rtimes_any A1 _ c1 c (i ^ k) i _ (HF.on E).here.2 (HF.on E).here.1.1.1.1.1.1.1.2 (by have := tens_length hb1; omega) (by omega)).mono ?_))
    rintro e w15 ⟨A3, c3, rfl, o3, hb⟩
    refine ⟨_, rfl, ?_⟩
    have XC : ∀ q9, (Mut [(some gb10), (some gb5)]) q9 → q9 < w14.heap.size := (Mut.grow (Mut.grow Mut.none_ (some_lt Bb5.lt)) (some_lt Bb10.lt))
    have SC := Nat.le_trans LW.size E.size
    have SE := E.size
    have Ec := Ext.of_below hb No
    replace Bb10 := Bb10.extN Ec NotIn.nil
    replace Bb5 := Bb5.extN Ec NotIn.nil
    replace E := E.trans Ec.no
    clear hb Ec
    have XN3 := XC
    have hge3 : ∀ q, A3 = some q → w.heap.size ≤ q.block := fun q hq => Nat.le_trans SC (o3.ge q hq).1
    have hna3 : ∀ q, A3 = some q → ¬ Mut [(some gb10), (some gb5)] q.block := fun q hq e => by have h1 := XN3 _ e; have h2 := (o3.ge q hq).1; omega
    replace HF := HF.on E
    replace LW := LW.step E XLW
    replace M13 := M13.step E XM13
    replace E := Ext.refl (Mut [(some gb10), (some gb5)]) w15
    replace HF := HF.and (Per.own8X o3 XC)
    refine rs_op0 (ow_storeM sz33 rfl rfl Bb10 rfl rfl (Nat.le_of_ble_eq_true rfl) ?_)
    intro w16 Bx Eb10
    replace Bb10 := Bx
    clear Bx
    replace Bb5 := Bb5.extN Eb10 (NotIn.cons Db5_b10 NotIn.nil)
    replace E := E.step1 Eb10 Mut.head
    clear Eb10
    refine rs_nil ?_
    refine ew_next ?_
    refine cw_seq ?_
    refine cw_region ?_
    refine rs_op rfl (ow_loadB Tryd.underlying33 rfl sz33 rfl Bb10 rfl ?_)
    refine rs_op rfl (ow_enter en59 rfl ((rfits_any A3 c3 (i ^ k * i) _).mono ?_))
    rintro e w17 ⟨rfl, hb⟩
    refine ⟨_, rfl, ?_⟩
    have XC : ∀ q9, (Mut [(some gb10), (some gb5)]) q9 → q9 < w16.heap.size := (Mut.grow (Mut.grow Mut.none_ (some_lt Bb5.lt)) (some_lt Bb10.lt))
    have SC := Nat.le_trans LW.size E.size
    have SE := E.size
    have Ec := Ext.of_below hb No
    replace Bb10 := Bb10.extN Ec NotIn.nil
    replace Bb5 := Bb5.extN Ec NotIn.nil
    replace E := E.trans Ec.no
    clear hb Ec
    refine rs_op rfl (ow_not rfl ?_)
    refine rs_nil ?_
    refine ew_next ?_
    refine cw_cond rfl (fun q => ?_) (fun q => ?_)
    · have _way := True.intro
      have e0 : ¬ (tens (i ^ k * i)).length ≤ 540 := by simpa using q
      rw [tens_540] at e0
      have e1 : B18 ^ 30 ≤ (i ^ j.toNat).natAbs := by
        have h8 := pow_mono (i := i) (by omega) (show k + 1 ≤ j.toNat by omega)
        rw [Int.pow_succ] at h8
        omega
      refine cw_seq ?_
      refine cw_region ?_
      refine rs_op rfl (ow_build (cs := #[.bool false, .slice none 0 0]) pl33 zr33 rfl rfl ?_)
      refine rs_op0 (ow_storeM sz33 rfl rfl Bb5 rfl rfl (Nat.le_of_ble_eq_true rfl) ?_)
      intro w18 Bx Eb5
      replace Bb5 := Bx
      clear Bx
      replace Bb10 := Bb10.extN Eb5 (NotIn.cons Db10_b5 NotIn.nil)
      replace E := E.step1 Eb5 (Mut.tail Mut.head)
      clear Eb5
      refine rs_op rfl (ow_assign rfl ?_)
      refine rs_nil ?_
      refine ew_next ?_
      refine cw_ret ?_
      refine ew_block_ret ?_
      refine ew_then_ret ?_
      refine ew_then_ret ?_
      refine ew_block_ret ?_
      refine ew_then_ret ?_
      refine ew_ret (rs := [.cell 4 33, .tmp 5]) (vs := [_, _]) rfl ⟨⟨_, rfl, res_box Tryd.underlying33 rfl sz33 Bb5 rfl⟩, rfl, trivial⟩ ?_
      exact by rw [outV_big e1, outE_big e1]; exact retNumE_zero (LW.step E XLW).toBelow
    · have _way := True.intro
      have e0 : (tens (i ^ k * i)).length ≤ 540 := by simpa using q
      rw [tens_540] at e0
      have eV : i ^ k * i = i ^ (k + 1) := by rw [Int.pow_succ]
      refine cw_skip ?_
      refine ew_block_normal ?_
      refine ew_next ?_
      refine cw_region ?_
      refine rs_op rfl (ow_move rfl ?_)
      refine rs_op rfl (ow_add rfl rfl (wrap_i64 (by omega)) ?_)
      refine rs_op rfl (ow_assign rfl ?_)
      refine rs_nil ?_
      rw [eV] at Bb10
      exact ew_round (ι := Nat × Option Addr × Nat) (s := fun (k, A1, c1) => [(2, .pointer (some ⟨gb1, 0, none⟩)), (4, .pointer (some ⟨gb5, 0, none⟩)), (6, .int .i64 (smV j)), (8, .pointer (some ⟨gb10, 0, none⟩)), (9, .int .i64 ((k : Nat) : Int))]) (R := fun (k, A1, c1) w' => Ext (Mut [(some gb10), (some gb5)]) w12 w' ∧ Blk w' gb10 33 (#[.bool (decide (i ^ k < 0)), .slice A1 (tens (i ^ k)).length c1]) ∧ Blk w' gb5 33 (#[.bool false, .slice none 0 0]) ∧ (k ≤ j.toNat ∧ (i ^ k).natAbs < B18 ^ 30 ∧ Nums8 w' A1 (tens (i ^ k)) ∧ (∀ q, A1 = some q → ¬ Mut [(some gb10), (some gb5)] q.block) ∧ (∀ q, A1 = some q → w.heap.size ≤ q.block))) (m := fun (k, A1, c1) => j.toNat - k) (i := ⟨k, A1, c1⟩) (k + 1, A3, c3) (by show j.toNat - (k + 1) < j.toNat - k; omega) ⟨rfl, rfl, rfl, rfl, rfl, trivial⟩ ⟨M13.step E XM13, (by exact Bb10), (by exact Bb5), by omega, by rw [← eV]; exact e0, by rw [← eV]; exact (HF.on E).here.2, hna3, hge3⟩
  · have _way := True.intro
    have hge := of_decide_eq_false hlt
    rw [hsm] at hge
    obtain rfl : k = j.toNat := by omega
    refine cw_exit ?_
    refine ew_then_exit ?_
    refine ew_then_exit ?_
    refine ew_block_here ?_
    refine ew_next ?_
    refine cw_seq ?_
    refine cw_region ?_
    refine rs_op rfl (ow_loadB Tryd.underlying33 rfl sz33 rfl Bb10 rfl ?_)
    refine rs_op0 (ow_storeM sz33 rfl rfl Bb5 rfl rfl (Nat.le_of_ble_eq_true rfl) ?_)
    intro w19 Bx Eb5
    replace Bb5 := Bx
    clear Bx
    replace Bb10 := Bb10.extN Eb5 (NotIn.cons Db10_b5 NotIn.nil)
    replace E := E.step1 Eb5 (Mut.tail Mut.head)
    clear Eb5
    replace HF := HF.on E
    replace LW := LW.step E XLW
    replace M13 := M13.step E XM13
    have SB : ∀ q9, Mut [(some gb10)] q9 → Mut [(some gb10), (some gb5)] q9 := (Mut.keep (Mut.skip Mut.nil_))
    replace HF := HF.less SB
    replace XLW := fun k h => XLW k (SB k h)
    replace XM13 := fun k h => XM13 k (SB k h)
    clear SB
    replace E := Ext.refl (Mut [(some gb10)]) w19
    replace HF := HF.and (Per.blkN Bb5 (NotIn.cons Db5_b10 NotIn.nil))
    clear Bb5
    refine rs_op rfl (ow_assign rfl ?_)
    refine rs_nil ?_
    refine ew_next ?_
    refine cw_ret ?_
    refine ew_ret (rs := [.cell 4 33, .tmp 5]) (vs := [_, _]) rfl ⟨⟨_, rfl, res_box Tryd.underlying33 rfl sz33 (HF.on E).here.2 rfl⟩, rfl, trivial⟩ ?_
    exact ⟨A1, c1, by rw [outV_ok hb1, outE_ok hb1]; rfl, by rw [outV_ok hb1]; exact (HF.on E).here.1.2, Or.inl hge0, (LW.step E XLW).toBelow⟩
theorem rpow_l2 (h0 : 0 < j) (hj2 : j ≤ 1800) (h2i : 2 ≤ i.natAbs) (h : 10 ≤ i.natAbs) : Calls Tryd.prog 39 #[.agg #[.bool (decide (i < 0)), .slice A (tens i).length c], .agg #[.bool (decide (j < 0)), .slice B (tens j).length d]] w (RetNumE w A (tens i) (outV true (i ^ j.toNat)) (outE true (i ^ j.toNat))) := by
  have hd : decide (j < 0) = false := decide_eq_false (by omega)
  have hip := ten_pos (j := i) (by omega)
  have hjp := ten_pos (j := j) (by omega)
  have hlen : ((tens j).length : Int) ≠ 0 := by omega
  have hleni : ((tens i).length : Int) ≠ 0 := by omega
  obtain ⟨bx, ox, rfl, hbx, hcx⟩ := hx.2 hip
  obtain ⟨by_, oy, rfl, hby, hcy⟩ := hy.2 hjp
  have hc0 : w.cell? ⟨bx, ox + 0, none⟩ = some (.int .u8 ((i.natAbs % 10 : Nat) : Int)) := by rw [hcx 0 hip, nth_ten0 (by omega)]
  have hd0 : w.cell? ⟨by_, oy + 0, none⟩ = some (.int .u8 ((j.natAbs % 10 : Nat) : Int)) := by rw [hcy 0 hjp, nth_ten0 (by omega)]
  refine calls_cw Tryd.func39 rfl Tryd.ntmps39 rfl ?_
  have HF : Per No w (fun _ => True) := Per.true_
  have LW := Ext.refl (No) w
  have XLW : ∀ q9, (No) q9 → (No) q9 ∨ w.heap.size ≤ q9 := fun _ h => Or.inl h
  have E := Ext.refl No w
  replace HF := HF.on E
  replace LW := LW.step E XLW
  replace E := Ext.refl (No) w
  replace HF := HF.and (Per.nums80 hx)
  replace HF := HF.on E
  replace LW := LW.step E XLW
  replace E := Ext.refl (No) w
  replace HF := HF.and (Per.nums80 hy)
  replace HF := HF.on E
  replace LW := LW.step E XLW
  replace E := Ext.refl (No) w
  replace HF := HF.and (Per.cell0 hc0)
  replace HF := HF.on E
  replace LW := LW.step E XLW
  replace E := Ext.refl (No) w
  replace HF := HF.and (Per.cell0 hd0)
  refine cw_seq ?_
  refine cw_region ?_
  refine rs_op rfl (ow_boxB rfl ?_)
  intro gb1 w2 Bb1 Eb1 Gb1
  have Gb1 : _ ≤ gb1 := Nat.le_trans E.size Gb1
  have GLb1 := Nat.le_trans LW.size Gb1
  replace E := E.trans Eb1.no
  clear Eb1
  replace HF := HF.cons (some_ge Gb1)
  replace E := E.cons (some gb1)
  replace XLW := Mut.grow XLW (fun k e => Or.inr (Nat.le_trans LW.size ((some_ge Gb1) k e)))
  replace HF := HF.on E
  replace LW := LW.step E XLW
  have SB : ∀ q9, No q9 → Mut [(some gb1)] q9 := (Mut.skip Mut.nil_)
  replace HF := HF.less SB
  replace XLW := fun k h => XLW k (SB k h)
  clear SB
  replace E := Ext.refl (No) w2
  replace HF := HF.and (Per.blkN Bb1 NotIn.nil)
  clear Bb1
  refine rs_op rfl (ow_boxB rfl ?_)
  intro gb3 w4 Bb3 Eb3 Gb3
  have Gb3 : _ ≤ gb3 := Nat.le_trans E.size Gb3
  have GLb3 := Nat.le_trans LW.size Gb3
  replace E := E.trans Eb3.no
  clear Eb3
  replace HF := HF.cons (some_ge Gb3)
  replace E := E.cons (some gb3)
  replace XLW := Mut.grow XLW (fun k e => Or.inr (Nat.le_trans LW.size ((some_ge Gb3) k e)))
  replace HF := HF.on E
  replace LW := LW.step E XLW
  have SB : ∀ q9, No q9 → Mut [(some gb3)] q9 := (Mut.skip Mut.nil_)
  replace HF := HF.less SB
  replace XLW := fun k h => XLW k (SB k h)
  clear SB
  replace E := Ext.refl (No) w4
  replace HF := HF.and (Per.blkN Bb3 NotIn.nil)
  clear Bb3
  refine rs_op rfl (ow_allocB zr33 ?_)
  intro gb5 w6 Bb5 Eb5 Gb5
  have Gb5 : _ ≤ gb5 := Nat.le_trans E.size Gb5
  have GLb5 := Nat.le_trans LW.size Gb5
  replace E := E.trans Eb5.no
  clear Eb5
  replace HF := HF.cons (some_ge Gb5)
  replace E := E.cons (some gb5)
  replace XLW := Mut.grow XLW (fun k e => Or.inr (Nat.le_trans LW.size ((some_ge Gb5) k e)))
  refine rs_op rfl (ow_assign rfl ?_)
  refine rs_nil ?_
  refine ew_next ?_
  refine cw_seq ?_
  refine cw_seq ?_
  refine cw_region ?_
  refine rs_op rfl (ow_fieldAddr Tryd.underlying33 rfl sz4 (by decide) rfl ?_)
  refine rs_op rfl (ow_loadF Tryd.underlying4 rfl rfl (HF.on E).here.2 rfl ?_)
  refine rs_nil ?_
  refine ew_next ?_
  refine cw_set 11 (.bool false) rfl ((by rw [hd] : (.bool (decide (j < 0)) : Value) = _)) ?_
  refine cw_else rfl ?_
  refine cw_skip ?_
  refine ew_next ?_
  refine cw_seq ?_
  refine cw_seq ?_
  refine cw_region ?_
  refine rs_op rfl (ow_fieldAddr Tryd.underlying33 rfl sz31 (by decide) rfl ?_)
  refine rs_op rfl (ow_loadF Tryd.underlying31 rfl rfl (HF.on E).here.2 rfl ?_)
  refine rs_op rfl (ow_len Tryd.underlying31 rfl ?_)
  refine rs_op rfl (ow_eql rfl rfl ?_)
  refine rs_nil ?_
  refine ew_next ?_
  refine cw_set 16 (.bool false) rfl ((by rw [beq_eq_false_iff_ne.2 hlen] : (.bool (((((tens j).length : Nat)) : Int) == 0) : Value) = _)) ?_
  refine cw_else rfl ?_
  refine cw_skip ?_
  refine ew_next ?_
  refine cw_seq ?_
  refine cw_seq ?_
  refine cw_region ?_
  refine rs_op rfl (ow_fieldAddr Tryd.underlying33 rfl sz31 (by decide) rfl ?_)
  refine rs_op rfl (ow_loadF Tryd.underlying31 rfl rfl (HF.on E).here.1.2 rfl ?_)
  refine rs_op rfl (ow_len Tryd.underlying31 rfl ?_)
  refine rs_op rfl (ow_eql rfl rfl ?_)
  refine rs_nil ?_
  refine ew_next ?_
  refine cw_set 22 (.bool false) rfl ((by rw [beq_eq_false_iff_ne.2 hleni] : (.bool (((((tens i).length : Nat)) : Int) == 0) : Value) = _)) ?_
  refine cw_else rfl ?_
  refine cw_skip ?_
  refine ew_next ?_
  refine cw_seq ?_
  refine cw_seq ?_
  refine cw_region ?_
  refine rs_op rfl (ow_fieldAddr Tryd.underlying33 rfl sz31 (by decide) rfl ?_)
  refine rs_op rfl (ow_loadF Tryd.underlying31 rfl rfl (HF.on E).here.1.2 rfl ?_)
  refine rs_op rfl (ow_len Tryd.underlying31 rfl ?_)
  refine rs_op rfl (ow_eql rfl rfl ?_)
  refine rs_op rfl (ow_move rfl ?_)
  have h1 : ((tens i).length : Int) ≠ 1 := by have := ten_len2 h; omega
  refine rs_set 28 (.bool false) rfl ((by rw [beq_eq_false_iff_ne.2 h1] : (.bool (((((tens i).length : Nat)) : Int) == 1) : Value) = _)) ?_
  refine rs_op rfl (ow_off rfl ?_)
  refine rs_op rfl (ow_off rfl ?_)
  refine rs_op rfl (ow_off rfl ?_)
  refine rs_op rfl (ow_off rfl ?_)
  refine rs_op rfl (ow_off rfl ?_)
  refine rs_op rfl (ow_pickF rfl rfl ?_)
  refine rs_nil ?_
  refine ew_next ?_
  refine cw_else rfl ?_
  refine cw_skip ?_
  refine ew_next ?_
  refine cw_seq ?_
  refine cw_region ?_
  refine rs_op rfl (ow_loadB Tryd.underlying33 rfl sz33 rfl (HF.on E).here.2 rfl ?_)
  have hin : inR j := by unfold inR; omega
  have hsm : smV j = j := by unfold smV; rw [if_pos hin]
  have hti := tens_length hi
  refine rs_op rfl (ow_enter en26 rfl ((rsmall_any _ d j _ (HF.on E).here.1.1.1.1.2 (by have := tens_length hj; omega)).mono ?_))
  rintro e w7 ⟨rfl, hb⟩
  refine ⟨_, rfl, ?_⟩
  have XC : ∀ q9, (Mut [(some gb5)]) q9 → q9 < w6.heap.size := (Mut.grow Mut.none_ (some_lt Bb5.lt))
  have SC := Nat.le_trans LW.size E.size
  have SE := E.size
  have Ec := Ext.of_below hb No
  replace Bb5 := Bb5.extN Ec NotIn.nil
  replace E := E.trans Ec.no
  clear hb Ec
  refine rs_op rfl (ow_move rfl ?_)
  refine rs_op rfl (ow_extract rfl rfl ?_)
  refine rs_op rfl (ow_extract rfl rfl ?_)
  refine rs_op rfl (ow_assign rfl ?_)
  refine rs_op rfl (ow_assign rfl ?_)
  refine rs_nil ?_
  refine ew_next ?_
  refine cw_seq ?_
  refine cw_seq ?_
  refine cw_region ?_
  refine rs_op rfl (ow_move rfl ?_)
  refine rs_op rfl (ow_not rfl ?_)
  refine rs_op rfl (ow_move rfl ?_)
  refine rs_set 55 (.bool false) rfl ((by rw [decide_eq_true hin]; rfl : (.bool (!(decide (inR j))) : Value) = _)) ?_
  refine rs_op rfl (ow_on rfl (ow_move rfl ?_))
  refine rs_op rfl (ow_on rfl (ow_gtr rfl rfl ?_))
  refine rs_op rfl (ow_pickF rfl rfl ?_)
  refine rs_nil ?_
  refine ew_next ?_
  refine cw_set 58 (.bool false) rfl ((by rw [hsm, decide_eq_false (by omega)] : (.bool (decide (1800 < (smV j))) : Value) = _)) ?_
  refine cw_else rfl ?_
  refine cw_skip ?_
  refine ew_next ?_
  refine cw_seq ?_
  refine cw_region ?_
  refine rs_op rfl (ow_buildSlice (cs := #[.int .u8 1]) Tryd.underlying31 sz5 zr5 (by decide) rfl (by rw [map_range_]; rfl) ?_)
  intro gb8 w9 Bb8 Eb8 Gb8
  have Db8_b5 : Apart (some gb8) (some gb5) := Apart.of_lt (some_lt Bb5.lt) Gb8
  have Db5_b8 := Db8_b5.symm
  have Gb8 : _ ≤ gb8 := Nat.le_trans E.size Gb8
  have GLb8 := Nat.le_trans LW.size Gb8
  replace Bb5 := Bb5.extN Eb8 NotIn.nil
  replace E := E.trans Eb8.no
  clear Eb8
  replace HF := HF.cons (some_ge Gb8)
  replace E := E.cons (some gb8)
  replace XLW := Mut.grow XLW (fun k e => Or.inr (Nat.le_trans LW.size ((some_ge Gb8) k e)))
  replace HF := HF.on E
  replace LW := LW.step E XLW
  have SB : ∀ q9, Mut [(some gb5)] q9 → Mut [(some gb8), (some gb5)] q9 := (Mut.skip (Mut.keep Mut.nil_))
  replace HF := HF.less SB
  replace XLW := fun k h => XLW k (SB k h)
  clear SB
  replace E := Ext.refl (Mut [(some gb5)]) w9
  replace HF := HF.and (Per.blkN Bb8 (NotIn.cons Db8_b5 NotIn.nil))
  clear Bb8
  refine rs_op rfl (ow_build (cs := #[.bool false, .slice (some ⟨gb8, 0, none⟩) 1 1]) pl33 zr33 rfl rfl ?_)
  refine rs_op rfl (ow_allocB zr33 ?_)
  intro gb10 w11 Bb10 Eb10 Gb10
  have Db10_b5 : Apart (some gb10) (some gb5) := Apart.of_lt (some_lt Bb5.lt) Gb10
  have Db5_b10 := Db10_b5.symm
  have Gb10 : _ ≤ gb10 := Nat.le_trans E.size Gb10
  have GLb10 := Nat.le_trans LW.size Gb10
  replace Bb5 := Bb5.extN Eb10 NotIn.nil
  replace E := E.trans Eb10.no
  clear Eb10
  replace HF := HF.cons (some_ge Gb10)
  replace E := E.cons (some gb10)
  replace XLW := Mut.grow XLW (fun k e => Or.inr (Nat.le_trans LW.size ((some_ge Gb10) k e)))
  refine rs_op0 (ow_storeM sz33 rfl rfl Bb10 rfl rfl (Nat.le_of_ble_eq_true rfl) ?_)
  intro w12 Bx Eb10
  replace Bb10 := Bx
  clear Bx
  replace Bb5 := Bb5.extN Eb10 (NotIn.cons Db5_b10 NotIn.nil)
  replace E := E.step1 Eb10 Mut.head
  clear Eb10
  refine rs_nil ?_
  refine ew_next ?_
  refine cw_seq ?_
  refine cw_seq ?_
  refine cw_region ?_
  refine rs_op rfl (ow_assign rfl ?_)
  refine rs_nil ?_
  refine ew_next ?_
  refine cw_block ?_
  have b1 : (i ^ 0).natAbs < B18 ^ 30 := by rw [Int.pow_zero]; exact Nat.one_lt_pow (by decide) (by unfold B18; omega)
  have t1 : tens (i ^ 0) = [1] := by rw [Int.pow_zero, tens_eq]; rfl
  have B9 := (HF.on E).here.2
  have GG8 : w.heap.size ≤ gb8 := GLb8
  have hna0 : ∀ q, some (⟨gb8, 0, none⟩ : Addr) = some q → ¬ Mut [(some gb10), (some gb5)] q.block := by
    intro q hq
    obtain rfl := Option.some.inj hq
    exact fun h => h.elim (fun e => Blk.ne_ B9 Bb10 (by decide) (Option.some.inj e)) (fun h => h.elim (fun e => Blk.ne_ B9 Bb5 (by decide) (Option.some.inj e)) id)
  have e0 : i ^ 0 = 1 := Int.pow_zero i
  replace Bb10 : Blk w12 gb10 33 #[.bool (decide (i ^ 0 < 0)), .slice (some ⟨gb8, 0, none⟩) (tens (i ^ 0)).length 1] := by rw [t1, e0]; exact Bb10
  replace HF := HF.on E
  replace LW := LW.step E XLW
  replace E := Ext.refl (Mut [(some gb10), (some gb5)]) w12
  refine cw_loop (ι := Nat × Option Addr × Nat) (fun (k, A1, c1) => [(2, .pointer (some ⟨gb1, 0, none⟩)), (4, .pointer (some ⟨gb5, 0, none⟩)), (6, .int .i64 (smV j)), (8, .pointer (some ⟨gb10, 0, none⟩)), (9, .int .i64 ((k : Nat) : Int))]) (fun (k, A1, c1) w' => Ext (Mut [(some gb10), (some gb5)]) w12 w' ∧ Blk w' gb10 33 (#[.bool (decide (i ^ k < 0)), .slice A1 (tens (i ^ k)).length c1]) ∧ Blk w' gb5 33 (#[.bool false, .slice none 0 0]) ∧ (k ≤ j.toNat ∧ (i ^ k).natAbs < B18 ^ 30 ∧ Nums8 w' A1 (tens (i ^ k)) ∧ (∀ q, A1 = some q → ¬ Mut [(some gb10), (some gb5)] q.block) ∧ (∀ q, A1 = some q → w.heap.size ≤ q.block))) (fun (k, A1, c1) => j.toNat - k) (0, some ⟨gb8, 0, none⟩, 1) ⟨rfl, rfl, rfl, rfl, rfl, trivial⟩ ⟨Ext.refl _ _, (by exact Bb10), (by exact Bb5), ⟨Nat.zero_le _, b1, (by rw [t1]; exact nums8_one B9), hna0, fun q hq => by obtain rfl := Option.some.inj hq; exact GG8⟩⟩ ?_
  have LTb10 := (some_lt Bb10.lt)
  have LTb5 := (some_lt Bb5.lt)
  clear Bb10
  clear Bb5
  rintro ⟨k, A1, c1⟩ w14 ⟨M13, Bb10, Bb5, ⟨hk, hb1, hnum, hna, hge0⟩⟩
  have XM13 : ∀ q9, (Mut [(some gb10), (some gb5)]) q9 → (Mut [(some gb10), (some gb5)]) q9 ∨ w12.heap.size ≤ q9 := (Mut.grow (Mut.grow Mut.none_ (fun k e => Or.inl ((Mut.tail Mut.head) k e))) (fun k e => Or.inl (Mut.head k e)))
  replace E := E.trans M13
  replace HF := HF.on E
  replace LW := LW.step E XLW
  replace E := Ext.refl (Mut [(some gb10), (some gb5)]) w14
  clear LTb10
  clear LTb5
  replace HF := HF.on E
  replace LW := LW.step E XLW
  replace M13 := M13.step E XM13
  replace E := Ext.refl (Mut [(some gb10), (some gb5)]) w14
  replace HF := HF.and (Per.nums8N hnum hna)
  refine cw_seq ?_
  refine cw_seq ?_
  refine cw_region ?_
  refine rs_op rfl (ow_move rfl ?_)
  refine rs_op rfl (ow_move rfl ?_)
  refine rs_op rfl (ow_lss rfl rfl ?_)
  refine rs_nil ?_
  refine ew_next ?_
  refine cw_cond rfl (fun hlt => ?_) (fun hlt => ?_)
  · have _way := True.intro
    have hlt := of_decide_eq_true hlt
    rw [hsm] at hlt
    refine cw_skip ?_
    refine ew_next ?_
    refine cw_seq ?_
    refine cw_block ?_
    refine cw_seq ?_
    refine cw_region ?_
    refine rs_op rfl (ow_loadB Tryd.underlying33 rfl sz33 rfl Bb10 rfl ?_)
    refine rs_op rfl (ow_loadB Tryd.underlying33 rfl sz33 rfl (HF.on E).here.1.1.1.2 rfl ?_)
    refine rs_op rfl (ow_enter en37 rfl ((rtimes_any A1 _ c1 c (i ^ k) i _ (HF.on E).here.2 (HF.on E).here.1.1.1.1.1.1.1.2 (by have := tens_length hb1; omega) (by omega)).mono ?_))
    rintro e w15 ⟨A3, c3, rfl, o3, hb⟩
    refine ⟨_, rfl, ?_⟩
    have XC : ∀ q9, (Mut [(some gb10), (some gb5)]) q9 → q9 < w14.heap.size := (Mut.grow (Mut.grow Mut.none_ (some_lt Bb5.lt)) (some_lt Bb10.lt))
    have SC := Nat.le_trans LW.size E.size
    have SE := E.size
    have Ec := Ext.of_below hb No
    replace Bb10 := Bb10.extN Ec NotIn.nil
    replace Bb5 := Bb5.extN Ec NotIn.nil
    replace E := E.trans Ec.no
    clear hb Ec
    have XN3 := XC
    have hge3 : ∀ q, A3 = some q → w.heap.size ≤ q.block := fun q hq => Nat.le_trans SC (o3.ge q hq).1
    have hna3 : ∀ q, A3 = some q → ¬ Mut [(some gb10), (some gb5)] q.block := fun q hq e => by have h1 := XN3 _ e; have h2 := (o3.ge q hq).1; omega
    replace HF := HF.on E
    replace LW := LW.step E XLW
    replace M13 := M13.step E XM13
    replace E := Ext.refl (Mut [(some gb10), (some gb5)]) w15
    replace HF := HF.and (Per.own8X o3 XC)
    refine rs_op0 (ow_storeM sz33 rfl rfl Bb10 rfl rfl (Nat.le_of_ble_eq_true rfl) ?_)
    intro w16 Bx Eb10
    replace Bb10 := Bx
    clear Bx
    replace Bb5 := Bb5.extN Eb10 (NotIn.cons Db5_b10 NotIn.nil)
    replace E := E.step1 Eb10 Mut.head
    clear Eb10
    refine rs_nil ?_
    refine ew_next ?_
    refine cw_seq ?_
    refine cw_region ?_
    refine rs_op rfl (ow_loadB Tryd.underlying33 rfl sz33 rfl Bb10 rfl ?_)
    refine rs_op rfl (ow_enter en59 rfl ((rfits_any A3 c3 (i ^ k * i) _).mono ?_))
    rintro e w17 ⟨rfl, hb⟩
    refine ⟨_, rfl, ?_⟩
    have XC : ∀ q9, (Mut [(some gb10), (some gb5)]) q9 → q9 < w16.heap.size := (Mut.grow (Mut.grow Mut.none_ (some_lt Bb5.lt)) (some_lt Bb10.lt))
    have SC := Nat.le_trans LW.size E.size
    have SE := E.size
    have Ec := Ext.of_below hb No
    replace Bb10 := Bb10.extN Ec NotIn.nil
    replace Bb5 := Bb5.extN Ec NotIn.nil
    replace E := E.trans Ec.no
    clear hb Ec
    refine rs_op rfl (ow_not rfl ?_)
    refine rs_nil ?_
    refine ew_next ?_
    refine cw_cond rfl (fun q => ?_) (fun q => ?_)
    · have _way := True.intro
      have e0 : ¬ (tens (i ^ k * i)).length ≤ 540 := by simpa using q
      rw [tens_540] at e0
      have e1 : B18 ^ 30 ≤ (i ^ j.toNat).natAbs := by
        have h8 := pow_mono (i := i) (by omega) (show k + 1 ≤ j.toNat by omega)
        rw [Int.pow_succ] at h8
        omega
      refine cw_seq ?_
      refine cw_region ?_
      refine rs_op rfl (ow_build (cs := #[.bool false, .slice none 0 0]) pl33 zr33 rfl rfl ?_)
      refine rs_op0 (ow_storeM sz33 rfl rfl Bb5 rfl rfl (Nat.le_of_ble_eq_true rfl) ?_)
      intro w18 Bx Eb5
      replace Bb5 := Bx
      clear Bx
      replace Bb10 := Bb10.extN Eb5 (NotIn.cons Db10_b5 NotIn.nil)
      replace E := E.step1 Eb5 (Mut.tail Mut.head)
      clear Eb5
      refine rs_op rfl (ow_assign rfl ?_)
      refine rs_nil ?_
      refine ew_next ?_
      refine cw_ret ?_
      refine ew_block_ret ?_
      refine ew_then_ret ?_
      refine ew_then_ret ?_
      refine ew_block_ret ?_
      refine ew_then_ret ?_
      refine ew_ret (rs := [.cell 4 33, .tmp 5]) (vs := [_, _]) rfl ⟨⟨_, rfl, res_box Tryd.underlying33 rfl sz33 Bb5 rfl⟩, rfl, trivial⟩ ?_
      exact by rw [outV_big e1, outE_big e1]; exact retNumE_zero (LW.step E XLW).toBelow
    · have _way := True.intro
      have e0 : (tens (i ^ k * i)).length ≤ 540 := by simpa using q
      rw [tens_540] at e0
      have eV : i ^ k * i = i ^ (k + 1) := by rw [Int.pow_succ]
      refine cw_skip ?_
      refine ew_block_normal ?_
      refine ew_next ?_
      refine cw_region ?_
      refine rs_op rfl (ow_move rfl ?_)
      refine rs_op rfl (ow_add rfl rfl (wrap_i64 (by omega)) ?_)
      refine rs_op rfl (ow_assign rfl ?_)
      refine rs_nil ?_
      rw [eV] at Bb10
      exact ew_round (ι := Nat × Option Addr × Nat) (s := fun (k, A1, c1) => [(2, .pointer (some ⟨gb1, 0, none⟩)), (4, .pointer (some ⟨gb5, 0, none⟩)), (6, .int .i64 (smV j)), (8, .pointer (some ⟨gb10, 0, none⟩)), (9, .int .i64 ((k : Nat) : Int))]) (R := fun (k, A1, c1) w' => Ext (Mut [(some gb10), (some gb5)]) w12 w' ∧ Blk w' gb10 33 (#[.bool (decide (i ^ k < 0)), .slice A1 (tens (i ^ k)).length c1]) ∧ Blk w' gb5 33 (#[.bool false, .slice none 0 0]) ∧ (k ≤ j.toNat ∧ (i ^ k).natAbs < B18 ^ 30 ∧ Nums8 w' A1 (tens (i ^ k)) ∧ (∀ q, A1 = some q → ¬ Mut [(some gb10), (some gb5)] q.block) ∧ (∀ q, A1 = some q → w.heap.size ≤ q.block))) (m := fun (k, A1, c1) => j.toNat - k) (i := ⟨k, A1, c1⟩) (k + 1, A3, c3) (by show j.toNat - (k + 1) < j.toNat - k; omega) ⟨rfl, rfl, rfl, rfl, rfl, trivial⟩ ⟨M13.step E XM13, (by exact Bb10), (by exact Bb5), by omega, by rw [← eV]; exact e0, by rw [← eV]; exact (HF.on E).here.2, hna3, hge3⟩
  · have _way := True.intro
    have hge := of_decide_eq_false hlt
    rw [hsm] at hge
    obtain rfl : k = j.toNat := by omega
    refine cw_exit ?_
    refine ew_then_exit ?_
    refine ew_then_exit ?_
    refine ew_block_here ?_
    refine ew_next ?_
    refine cw_seq ?_
    refine cw_region ?_
    refine rs_op rfl (ow_loadB Tryd.underlying33 rfl sz33 rfl Bb10 rfl ?_)
    refine rs_op0 (ow_storeM sz33 rfl rfl Bb5 rfl rfl (Nat.le_of_ble_eq_true rfl) ?_)
    intro w19 Bx Eb5
    replace Bb5 := Bx
    clear Bx
    replace Bb10 := Bb10.extN Eb5 (NotIn.cons Db10_b5 NotIn.nil)
    replace E := E.step1 Eb5 (Mut.tail Mut.head)
    clear Eb5
    replace HF := HF.on E
    replace LW := LW.step E XLW
    replace M13 := M13.step E XM13
    have SB : ∀ q9, Mut [(some gb10)] q9 → Mut [(some gb10), (some gb5)] q9 := (Mut.keep (Mut.skip Mut.nil_))
    replace HF := HF.less SB
    replace XLW := fun k h => XLW k (SB k h)
    replace XM13 := fun k h => XM13 k (SB k h)
    clear SB
    replace E := Ext.refl (Mut [(some gb10)]) w19
    replace HF := HF.and (Per.blkN Bb5 (NotIn.cons Db5_b10 NotIn.nil))
    clear Bb5
    refine rs_op rfl (ow_assign rfl ?_)
    refine rs_nil ?_
    refine ew_next ?_
    refine cw_ret ?_
    refine ew_ret (rs := [.cell 4 33, .tmp 5]) (vs := [_, _]) rfl ⟨⟨_, rfl, res_box Tryd.underlying33 rfl sz33 (HF.on E).here.2 rfl⟩, rfl, trivial⟩ ?_
    exact ⟨A1, c1, by rw [outV_ok hb1, outE_ok hb1]; rfl, by rw [outV_ok hb1]; exact (HF.on E).here.1.2, Or.inl hge0, (LW.step E XLW).toBelow⟩
/-- The document's Pow: the power, where the exponent is not below nought. -/
theorem rpowI (h0 : 0 ≤ j) : Calls Tryd.prog 39 #[.agg #[.bool (decide (i < 0)), .slice A (tens i).length c], .agg #[.bool (decide (j < 0)), .slice B (tens j).length d]] w (RetNumE w A (tens i) (outV true (i ^ j.toNat)) (outE true (i ^ j.toNat))) := by
  have hsmall : ∀ z : Int, z.natAbs ≤ 1 → z.natAbs < B18 ^ 30 := fun z hz => Nat.lt_of_le_of_lt hz (Nat.one_lt_pow (by decide) (by unfold B18; omega))
  rcases Int.le_iff_lt_or_eq.1 h0 with hp | rfl
  · rcases Nat.lt_or_ge i.natAbs 2 with h2 | h2
    · rcases (by omega : i.natAbs = 0 ∨ i.natAbs = 1) with h3 | h3
      · have hi0 : i = 0 := by omega
        have e : i ^ j.toNat = 0 := by rw [hi0]; exact Int.zero_pow (by omega)
        rw [e, outV_ok (hsmall 0 (by decide)), outE_ok (hsmall 0 (by decide))]
        exact rpow_nought i j A B c d w hi hj hx hy hp hi0
      · have e : (i ^ j.toNat).natAbs ≤ 1 := by rw [pow_abs, h3, Nat.one_pow]; exact Nat.le_refl _
        rw [outV_ok (hsmall _ e), outE_ok (hsmall _ e)]
        cases hin : decide (i < 0)
        · rw [← hin]; exact rpow_one i j A B c d w hi hj hx hy hp h3 hin
        · rw [← hin]; exact rpow_mone i j A B c d w hi hj hx hy hp h3 hin
    · rcases Int.lt_or_le 1800 j with h4 | h4
      · have e := pow_range h2 (n := j.toNat) (by omega)
        rw [outV_big e, outE_big e]
        rcases Nat.lt_or_ge i.natAbs 10 with h5 | h5
        · exact rpow_g1 i j A B c d w hi hj hx hy h4 h2 h5
        · exact rpow_g2 i j A B c d w hi hj hx hy h4 h2 h5
      · rcases Nat.lt_or_ge i.natAbs 10 with h5 | h5
        · exact rpow_l1 i j A B c d w hi hj hx hy hp h4 h2 h5
        · exact rpow_l2 i j A B c d w hi hj hx hy hp h4 h2 h5
  · have e : i ^ (0 : Int).toNat = 1 := Int.pow_zero i
    rw [e, outV_ok (hsmall 1 (by decide)), outE_ok (hsmall 1 (by decide))]
    exact rpow_zero i 0 A B c d w hi hj hx hy rfl
end
end Go.Proofs.YteggjfmcpodepaaDoor
namespace Go.Proofs.YteggjfmcpodepaaDoor
open Go.RowKit
set_option maxRecDepth 100000
theorem Apart.re {A : Option Addr} {n c m d : Nat} {r : Option Nat} (h : Apart (Value.slice A n c).ownBlock r) : Apart (Value.slice A m d).ownBlock r := by cases A <;> exact h
def isDig (b : UInt8) : Bool := decide (48 ≤ b.toNat) && decide (b.toNat ≤ 57)
def dv (b : UInt8) : Nat := b.toNat - 48
/-- The number that digits spell, the highest first. -/
def num10 (r : List UInt8) : Nat := val 10 (r.reverse.map dv)
/-- What a text's digits give: the number and the error's number. -/
def textV (neg : Bool) (r : List UInt8) : Int := if r ≠ [] ∧ r.all isDig = true ∧ num10 r < B18 ^ 30 then sgn neg (num10 r) else 0
def textE (r : List UInt8) : Int := if r ≠ [] ∧ r.all isDig = true then (if num10 r < B18 ^ 30 then 0 else 2) else 4
/-- A text's sign and digits. -/
def textN (bs : List UInt8) : Bool := decide (bs.head? = some 45)
def textR (bs : List UInt8) : List UInt8 := if bs.head? = some 45 then bs.tail else bs
theorem dv_small {r : List UInt8} (h : r.all isDig = true) : small 10 (r.map dv) := by
  intro x hx
  obtain ⟨b, hb, rfl⟩ := List.mem_map.1 hx
  have h1 := List.all_eq_true.1 h b hb
  unfold isDig at h1
  unfold dv
  simp at h1
  omega
theorem ba_get (s : ByteArray) (j : Nat) : s[j]? = s.data.toList[j]? := by
  show (if h : j < s.size then some s[j] else none) = _
  by_cases h : j < s.size
  · rw [dif_pos h, List.getElem?_eq_getElem (by simpa using h)]; rfl
  · rw [dif_neg h, List.getElem?_eq_none (by simpa using h)]
theorem own_room {w : World} {base n c : Nat} {e : TypeId} {A : Option Addr} {xs : List Value} (h : w.ownsRow base e 1 (.slice A n c) n xs) : n ≤ c := by
  rcases h.2 with ⟨hv, rfl⟩ | ⟨g, cap, cur, hv, _, _, hn, _⟩
  · exact Nat.zero_le _
  · cases hv; exact hn
theorem text_at {s : ByteArray} {pre r : List UInt8} (h : s.data.toList = pre ++ r) {k : Nat} (hk : k < r.length) : s[s.size - 1 - k]? = some (r.reverse.getD k 0) := by
  have hsz : s.size = pre.length + r.length := by have := congrArg List.length h; simpa using this
  rw [ba_get, h, List.getElem?_append_right (by omega), List.getD_eq_getElem?_getD, List.getElem?_reverse hk, show s.size - 1 - k - pre.length = r.length - 1 - k by omega, List.getElem?_eq_getElem (by omega)]
  rfl
def dvals (l : List UInt8) : List Value := l.map fun b => .int .u8 ((b.toNat : Int) - 48)
theorem dvals_succ {l : List UInt8} {k : Nat} (hk : k < l.length) : dvals (l.take k) ++ [.int .u8 (((l.getD k 0).toNat : Int) - 48)] = dvals (l.take (k + 1)) := by
  rw [List.take_add_one, dvals, dvals, List.map_append, List.getElem?_eq_getElem hk, List.getD_eq_getElem?_getD, List.getElem?_eq_getElem hk]
  rfl
theorem dig_of {b : UInt8} (h1 : 48 ≤ b.toNat) (h2 : b.toNat ≤ 57) : isDig b = true := by unfold isDig; simp [h1, h2]
theorem all_not {r : List UInt8} {k : Nat} (hk : k < r.length) (h : isDig (r.reverse.getD k 0) = false) : r.all isDig = false := by
  rw [Bool.eq_false_iff]
  intro ha
  have hm : r.reverse.getD k 0 ∈ r := by
    rw [List.getD_eq_getElem?_getD, List.getElem?_eq_getElem (by simpa using hk)]
    exact List.mem_reverse.1 (List.getElem_mem _)
  rw [List.all_eq_true.1 ha _ hm] at h
  cases h
theorem dvals_own {w : World} {base n c : Nat} {A : Option Addr} {r : List UInt8} (h : w.ownsRow base 5 1 (.slice A n c) n (dvals r.reverse)) (hr : r.all isDig = true) (hn : n = r.length) : Own8 w base A c (r.reverse.map dv) := by
  subst hn
  have hall : (r.reverse).all isDig = true := by rw [List.all_reverse]; exact hr
  have e : dvals r.reverse = (r.reverse.map dv).map fun x : Nat => Value.int .u8 (x : Int) := by
    rw [dvals, List.map_map]
    apply List.map_congr_left
    intro b hb
    have h1 := List.all_eq_true.1 hall b hb
    unfold isDig at h1
    simp at h1
    simp only [Function.comp_apply, dv]
    congr 1
    omega
  refine ⟨?_, fun x hx => Nat.lt_trans (dv_small hall x hx) (by decide)⟩
  rw [← e]
  simpa using h
/-- What Read leaves. -/
def RetRead (W : World) (v f : Int) (e : Ending) (w' : World) : Prop := ∃ A c, e = .returned (.tuple #[.agg #[.bool (decide (v < 0)), .slice A (tens v).length c], .int .i64 f]) ∧ Own8 w' W.heap.size A c (tens v) ∧ Below W.heap.size W w'
theorem own8_nil (w : World) (base : Nat) : Own8 w base none 0 [] := ⟨⟨by simp, Or.inl ⟨rfl, rfl⟩⟩, fun x hx => by cases hx⟩
theorem retRead_zero {W w' : World} {f : Int} (hb : Below W.heap.size W w') : RetRead W 0 f (.returned (.tuple #[.agg #[.bool false, .slice none 0 0], .int .i64 f])) w' :=
  ⟨none, 0, by rw [tens_zero]; rfl, by rw [tens_zero]; exact own8_nil _ _, hb⟩
theorem text_bad {neg : Bool} {r : List UInt8} (h : r.all isDig = false) : textV neg r = 0 ∧ textE r = 4 := by
  unfold textV textE
  simp [h]
theorem all_take {p : UInt8 → Bool} {l : List UInt8} {k : Nat} (hk : k < l.length) (h : (l.take k).all p = true) (hp : p (l.getD k 0) = true) : (l.take (k + 1)).all p = true := by
  rw [List.take_add_one, List.all_append, h, List.getElem?_eq_getElem hk]
  rw [List.getD_eq_getElem?_getD, List.getElem?_eq_getElem hk] at hp
  simpa using hp
section
variable (s : ByteArray) (r : List UInt8) (w : World)
theorem read_neg (hr : r ≠ []) (hbs : s.data.toList = [45] ++ r) (hs : s.size ≤ 140737488355328) : Calls Tryd.prog 44 #[.string s] w (RetRead w (textV true r) (textE r)) := by
  have hat0 : s[0]? = some 45 := by rw [ba_get, hbs]; rfl
  have hpos : (0 : Int) < (s.size : Int) := by have := congrArg List.length hbs; simp at this; omega
  refine calls_cw Tryd.func44 rfl Tryd.ntmps44 rfl ?_
  have HF : Per No w (fun _ => True) := Per.true_
  have LW := Ext.refl (No) w
  have XLW : ∀ q9, (No) q9 → (No) q9 ∨ w.heap.size ≤ q9 := fun _ h => Or.inl h
  have E := Ext.refl No w
  refine cw_seq ?_
  refine cw_region ?_
  refine rs_op rfl (ow_allocB zr33 ?_)
  intro gb1 w2 Bb1 Eb1 Gb1
  have Gb1 : _ ≤ gb1 := Nat.le_trans E.size Gb1
  have GLb1 := Nat.le_trans LW.size Gb1
  replace E := E.trans Eb1.no
  clear Eb1
  replace HF := HF.cons (some_ge Gb1)
  replace E := E.cons (some gb1)
  replace XLW := Mut.grow XLW (fun k e => Or.inr (Nat.le_trans LW.size ((some_ge Gb1) k e)))
  refine rs_op rfl (ow_assign rfl ?_)
  refine rs_nil ?_
  refine ew_next ?_
  refine cw_seq ?_
  refine cw_region ?_
  refine rs_op rfl (ow_assign rfl ?_)
  refine rs_nil ?_
  refine ew_next ?_
  refine cw_seq ?_
  refine cw_region ?_
  refine rs_op rfl (ow_assign rfl ?_)
  refine rs_nil ?_
  refine ew_next ?_
  refine cw_seq ?_
  refine cw_seq ?_
  refine cw_region ?_
  refine rs_op rfl (ow_move rfl ?_)
  refine rs_op rfl (ow_lenS Tryd.underlying9 rfl ?_)
  refine rs_op rfl (ow_gtr rfl rfl ?_)
  refine rs_op rfl (ow_move rfl ?_)
  refine rs_set 11 (.bool true) rfl (by rw [decide_eq_true hpos]) ?_
  refine rs_op rfl (ow_on rfl (ow_move rfl ?_))
  refine rs_op rfl (ow_on rfl (ow_indexS (j := 0) Tryd.underlying9 rfl rfl rfl hat0 ?_))
  refine rs_op rfl (ow_on rfl (ow_eql rfl rfl ?_))
  refine rs_op rfl (ow_pickT rfl rfl ?_)
  refine rs_nil ?_
  refine ew_next ?_
  refine cw_then rfl ?_
  refine cw_seq ?_
  refine cw_region ?_
  refine rs_op rfl (ow_assign rfl ?_)
  refine rs_nil ?_
  refine ew_next ?_
  refine cw_region ?_
  refine rs_op rfl (ow_assign rfl ?_)
  refine rs_nil ?_
  refine ew_next ?_
  refine cw_seq ?_
  refine cw_seq ?_
  refine cw_region ?_
  refine rs_op rfl (ow_move rfl ?_)
  refine rs_op rfl (ow_move rfl ?_)
  refine rs_op rfl (ow_lenS Tryd.underlying9 rfl ?_)
  refine rs_op rfl (ow_eql rfl rfl ?_)
  refine rs_nil ?_
  refine ew_next ?_
  have hsz : s.size = 1 + r.length := by have := congrArg List.length hbs; simpa [Nat.add_comm] using this
  have hrl : 0 < r.length := List.length_pos_iff.2 hr
  refine cw_set 19 (.bool false) rfl (by rw [beq_eq_false_iff_ne.2 (by omega)]) ?_
  refine cw_else rfl ?_
  refine cw_skip ?_
  refine ew_next ?_
  refine cw_seq ?_
  refine cw_region ?_
  refine rs_op rfl (ow_assign rfl ?_)
  refine rs_nil ?_
  refine ew_next ?_
  refine cw_seq ?_
  refine cw_seq ?_
  refine cw_region ?_
  refine rs_op rfl (ow_move rfl ?_)
  refine rs_op rfl (ow_lenS Tryd.underlying9 rfl ?_)
  refine rs_op rfl (ow_sub rfl rfl (wrap_i64 (by omega)) ?_)
  refine rs_op rfl (ow_assign rfl ?_)
  refine rs_nil ?_
  refine ew_next ?_
  refine cw_block ?_
  have Od : World.ownsRow w2 w.heap.size 5 1 (.slice none 0 0) 0 ([]) := owns_nil
  have Dd_b1 : Apart ((Value.slice none 0 0).ownBlock) (some gb1) := fun _ e => by cases e
  have Db1_d := Dd_b1.symm
  replace HF := HF.cons (nil_no)
  replace E := E.cons ((Value.slice none 0 0).ownBlock)
  replace XLW := Mut.grow XLW (fun k e => Or.inr (Nat.le_trans LW.size ((nil_no) k e)))
  refine cw_set 7 (.int .i64 ((s.size : Int) - 1 - ((0 : Nat) : Int))) rfl (by simp) ?_
  replace HF := HF.on E
  replace LW := LW.step E XLW
  replace E := Ext.refl (Mut [((Value.slice none 0 0).ownBlock), (some gb1)]) w2
  refine cw_loop (ι := Nat × Option Addr × Nat) (fun (k, A1, c1) => [(0, .string s), (2, .pointer (some ⟨gb1, 0, none⟩)), (4, .bool true), (5, .int .i64 1), (6, .slice A1 k c1), (7, .int .i64 ((s.size : Int) - 1 - (k : Int)))]) (fun (k, A1, c1) w' => Ext (Mut [((Value.slice none 0 0).ownBlock), (some gb1)]) w2 w' ∧ World.ownsRow w' w.heap.size 5 1 (.slice A1 k c1) k (dvals (r.reverse.take k)) ∧ Blk w' gb1 33 (#[.bool false, .slice none 0 0]) ∧ (∀ q9, ((Value.slice A1 k c1).ownBlock) = some q9 → ((Value.slice none 0 0).ownBlock) = some q9 ∨ w2.heap.size ≤ q9) ∧ (k ≤ r.length ∧ (r.reverse.take k).all isDig = true)) (fun (k, A1, c1) => r.length - k) (0, none, 0) ⟨rfl, rfl, rfl, rfl, rfl, rfl, trivial⟩ ⟨Ext.refl _ _, (by exact Od), (by exact Bb1), (fun _ e => Or.inl e), ⟨Nat.zero_le _, rfl⟩⟩ ?_
  have LTd := (owns_lt Od)
  have LTb1 := (some_lt Bb1.lt)
  clear Od
  clear Bb1
  rintro ⟨k, A1, c1⟩ w4 ⟨M3, Od, Bb1, KdM3, ⟨hk, hall⟩⟩
  replace Dd_b1 : Apart ((Value.slice A1 k c1).ownBlock) (some gb1) := Dd_b1.turn KdM3 LTb1
  replace Db1_d := Dd_b1.symm
  have XM3 : ∀ q9, (Mut [((Value.slice A1 k c1).ownBlock), (some gb1)]) q9 → (Mut [((Value.slice none 0 0).ownBlock), (some gb1)]) q9 ∨ w2.heap.size ≤ q9 := (Mut.grow (Mut.grow Mut.none_ (fun k e => Or.inl ((Mut.tail Mut.head) k e))) (fun k e => (KdM3 k e).elim (fun e => Or.inl (Mut.head k e)) Or.inr))
  replace E := E.trans M3
  replace HF := HF.turn E XM3
  have XT := fun q9 (h : (Mut [((Value.slice A1 k c1).ownBlock), (some gb1)]) q9) => (XM3 q9 h).elim (XLW q9) (fun h => Or.inr (Nat.le_trans LW.size h))
  replace LW := LW.step E XLW
  replace XLW := XT
  clear XT
  replace E := Ext.refl (Mut [((Value.slice A1 k c1).ownBlock), (some gb1)]) w4
  clear LTd
  clear LTb1
  refine cw_seq ?_
  refine cw_seq ?_
  refine cw_region ?_
  refine rs_op rfl (ow_move rfl ?_)
  refine rs_op rfl (ow_move rfl ?_)
  refine rs_op rfl (ow_geq rfl rfl ?_)
  refine rs_nil ?_
  refine ew_next ?_
  refine cw_cond rfl (fun q => ?_) (fun q => ?_)
  · have _way := True.intro
    have q := of_decide_eq_true q
    have hk1 : k < r.length := by omega
    have hat := text_at hbs hk1
    obtain ⟨b, hb9⟩ : ∃ b, b = r.reverse.getD k 0 := ⟨_, rfl⟩
    rw [← hb9] at hat
    refine cw_skip ?_
    refine ew_next ?_
    refine cw_seq ?_
    refine cw_block ?_
    refine cw_seq ?_
    refine cw_seq ?_
    refine cw_region ?_
    refine rs_op rfl (ow_move rfl ?_)
    refine rs_op rfl (ow_move rfl ?_)
    refine rs_op rfl (ow_indexS (j := s.size - 1 - k) Tryd.underlying9 rfl rfl (by omega) hat ?_)
    refine rs_op rfl (ow_lss rfl rfl ?_)
    refine rs_op rfl (ow_move rfl ?_)
    refine rs_split 33 rfl (fun h => ?_) (fun h => ?_)
    · have _way := True.intro
      have h := of_decide_eq_true h
      obtain ⟨e1, e2⟩ := text_bad (neg := true) (all_not hk1 (by rw [← hb9]; unfold isDig; simp; omega))
      refine rs_op rfl (ow_off rfl ?_)
      refine rs_op rfl (ow_off rfl ?_)
      refine rs_op rfl (ow_off rfl ?_)
      refine rs_op rfl (ow_off rfl ?_)
      refine rs_op rfl (ow_pickT rfl rfl ?_)
      refine rs_nil ?_
      refine ew_next ?_
      refine cw_then rfl ?_
      refine cw_seq ?_
      refine cw_region ?_
      refine rs_op rfl (ow_build (cs := #[.bool false, .slice none 0 0]) pl33 zr33 rfl rfl ?_)
      refine rs_op0 (ow_storeM sz33 rfl rfl Bb1 rfl rfl (Nat.le_of_ble_eq_true rfl) ?_)
      intro w5 Bx Eb1
      replace Bb1 := Bx
      clear Bx
      replace Od := owns_extN Od Eb1 (NotIn.cons Dd_b1 NotIn.nil)
      replace E := E.step1 Eb1 (Mut.tail Mut.head)
      clear Eb1
      refine rs_op rfl (ow_assign rfl ?_)
      refine rs_nil ?_
      refine ew_next ?_
      refine cw_ret ?_
      refine ew_then_ret ?_
      refine ew_block_ret ?_
      refine ew_then_ret ?_
      refine ew_then_ret ?_
      refine ew_block_ret ?_
      refine ew_then_ret ?_
      refine ew_ret (rs := [.cell 2 33, .tmp 3]) (vs := [_, _]) rfl ⟨⟨_, rfl, res_box Tryd.underlying33 rfl sz33 Bb1 rfl⟩, rfl, trivial⟩ ?_
      exact by rw [e1, e2]; exact retRead_zero (LW.step E XLW).toBelow
    · have _way := True.intro
      have h := of_decide_eq_false h
      refine rs_op rfl (ow_on rfl (ow_move rfl ?_))
      refine rs_op rfl (ow_on rfl (ow_move rfl ?_))
      refine rs_op rfl (ow_on rfl (ow_indexS (j := s.size - 1 - k) Tryd.underlying9 rfl rfl (by omega) hat ?_))
      refine rs_op rfl (ow_on rfl (ow_gtr rfl rfl ?_))
      refine rs_op rfl (ow_pickF rfl rfl ?_)
      refine rs_nil ?_
      refine ew_next ?_
      refine cw_cond rfl (fun h2 => ?_) (fun h2 => ?_)
      · have _way := True.intro
        have h2 := of_decide_eq_true h2
        obtain ⟨e1, e2⟩ := text_bad (neg := true) (all_not hk1 (by rw [← hb9]; unfold isDig; simp; omega))
        refine cw_seq ?_
        refine cw_region ?_
        refine rs_op rfl (ow_build (cs := #[.bool false, .slice none 0 0]) pl33 zr33 rfl rfl ?_)
        refine rs_op0 (ow_storeM sz33 rfl rfl Bb1 rfl rfl (Nat.le_of_ble_eq_true rfl) ?_)
        intro w6 Bx Eb1
        replace Bb1 := Bx
        clear Bx
        replace Od := owns_extN Od Eb1 (NotIn.cons Dd_b1 NotIn.nil)
        replace E := E.step1 Eb1 (Mut.tail Mut.head)
        clear Eb1
        refine rs_op rfl (ow_assign rfl ?_)
        refine rs_nil ?_
        refine ew_next ?_
        refine cw_ret ?_
        refine ew_then_ret ?_
        refine ew_block_ret ?_
        refine ew_then_ret ?_
        refine ew_then_ret ?_
        refine ew_block_ret ?_
        refine ew_then_ret ?_
        refine ew_ret (rs := [.cell 2 33, .tmp 3]) (vs := [_, _]) rfl ⟨⟨_, rfl, res_box Tryd.underlying33 rfl sz33 Bb1 rfl⟩, rfl, trivial⟩ ?_
        exact by rw [e1, e2]; exact retRead_zero (LW.step E XLW).toBelow
      · have _way := True.intro
        have h2 := of_decide_eq_false h2
        refine cw_skip ?_
        refine ew_next ?_
        refine cw_region ?_
        refine rs_op rfl (ow_move rfl ?_)
        refine rs_op rfl (ow_move rfl ?_)
        refine rs_op rfl (ow_move rfl ?_)
        refine rs_op rfl (ow_indexS (j := s.size - 1 - k) Tryd.underlying9 rfl rfl (by omega) hat ?_)
        have hdig : isDig (r.reverse.getD k 0) = true := by rw [← hb9]; exact dig_of (by omega) (by omega)
        refine rs_op rfl (ow_sub rfl rfl (wrap_u8 (by omega)) ?_)
        refine rs_op rfl (ow_buildSlice (cs := #[.int .u8 (((b.toNat : Nat) : Int) - 48)]) Tryd.underlying31 sz5 zr5 (by decide) rfl (by rw [map_range_]; rfl) ?_)
        intro gb7 w8 Bb7 Eb7 Gb7
        have Db7_d : Apart (some gb7) ((Value.slice A1 k c1).ownBlock) := Apart.of_lt (owns_lt Od) Gb7
        have Dd_b7 := Db7_d.symm
        have Db7_b1 : Apart (some gb7) (some gb1) := Apart.of_lt (some_lt Bb1.lt) Gb7
        have Db1_b7 := Db7_b1.symm
        have Gb7 : _ ≤ gb7 := Nat.le_trans E.size Gb7
        have GLb7 := Nat.le_trans LW.size Gb7
        replace Od := owns_extN Od Eb7 NotIn.nil
        replace Bb1 := Bb1.extN Eb7 NotIn.nil
        replace E := E.trans Eb7.no
        clear Eb7
        replace HF := HF.cons (some_ge Gb7)
        replace E := E.cons (some gb7)
        replace XLW := Mut.grow XLW (fun k e => Or.inr (Nat.le_trans LW.size ((some_ge Gb7) k e)))
        replace XM3 := Mut.grow XM3 (fun k e => Or.inr (Nat.le_trans M3.size ((some_ge Gb7) k e)))
        replace HF := HF.on E
        replace LW := LW.step E XLW
        replace M3 := M3.step E XM3
        have SB : ∀ q9, Mut [((Value.slice A1 k c1).ownBlock), (some gb1)] q9 → Mut [(some gb7), ((Value.slice A1 k c1).ownBlock), (some gb1)] q9 := (Mut.skip (Mut.keep (Mut.keep Mut.nil_)))
        replace HF := HF.less SB
        replace XLW := fun k h => XLW k (SB k h)
        replace XM3 := fun k h => XM3 k (SB k h)
        clear SB
        replace E := Ext.refl (Mut [((Value.slice A1 k c1).ownBlock), (some gb1)]) w8
        replace HF := HF.and (Per.blkN Bb7 (NotIn.cons Db7_d (NotIn.cons Db7_b1 NotIn.nil)))
        clear Bb7
        refine rs_op rfl (ow_append (news := [.int .u8 (((b.toNat : Nat) : Int) - 48)]) Tryd.underlying31 inf5 rfl (by decide) rfl Od rfl (reads_row (HF.on E).here.2 ((HF.on E).here.2).lt rfl) (by simp [Value.oneCell']) (by unfold maxLen; omega) (by omega) (by exact Nat.le_trans LW.size E.size) ?_)
        intro v0 w9 On En KN
        obtain ⟨A2, c2, rfl⟩ := owns_shape On
        replace KN : ∀ q9, ((Value.slice A2 (k + 1) c2).ownBlock) = some q9 → ((Value.slice A1 k c1).ownBlock) = some q9 ∨ w8.heap.size ≤ q9 := KN
        have LTb1 := (some_lt Bb1.lt)
        replace Bb1 := Bb1.extN En (NotIn.cons Db1_d NotIn.nil)
        replace Dd_b1 : Apart ((Value.slice A2 (k + 1) c2).ownBlock) (some gb1) := Dd_b1.turn KN LTb1
        replace Db1_d := Dd_b1.symm
        clear LTb1
        have HY : ∀ q9, (Mut [((Value.slice A2 (k + 1) c2).ownBlock), (some gb1)]) q9 → (Mut [((Value.slice A1 k c1).ownBlock), (some gb1)]) q9 ∨ w8.heap.size ≤ q9 := (Mut.grow (Mut.grow Mut.none_ (fun k e => Or.inl ((Mut.tail Mut.head) k e))) (fun k e => (KN k e).elim (fun e => Or.inl (Mut.head k e)) (fun h => Or.inr (Nat.le_trans E.size h))))
        replace KdM3 : ∀ q9, ((Value.slice A2 (k + 1) c2).ownBlock) = some q9 → ((Value.slice none 0 0).ownBlock) = some q9 ∨ w2.heap.size ≤ q9 := fun k e => (KN k e).elim (KdM3 k) (fun h => Or.inr (Nat.le_trans M3.size (Nat.le_trans E.size h)))
        replace E := E.step1 En Mut.head
        replace HF := HF.turn E HY
        have XT := fun q9 (h : (Mut [((Value.slice A2 (k + 1) c2).ownBlock), (some gb1)]) q9) => (HY q9 h).elim (XLW q9) (fun h => Or.inr (Nat.le_trans LW.size h))
        replace LW := LW.step E XLW
        replace XLW := XT
        clear XT
        have XT := fun q9 (h : (Mut [((Value.slice A2 (k + 1) c2).ownBlock), (some gb1)]) q9) => (HY q9 h).elim (XM3 q9) (fun h => Or.inr (Nat.le_trans M3.size h))
        replace M3 := M3.step E XM3
        replace XM3 := XT
        clear XT
        replace E := Ext.refl (Mut [((Value.slice A2 (k + 1) c2).ownBlock), (some gb1)]) w9
        clear HY
        replace Od : World.ownsRow w9 w.heap.size 5 1 (.slice A2 (k + 1) c2) (k + 1) (dvals (r.reverse.take (k + 1))) := by
          have e : ((dvals (r.reverse.take k)) : List Value) ++ ([.int .u8 (((b.toNat : Nat) : Int) - 48)] : List Value) = dvals (r.reverse.take (k + 1)) := by rw [hb9]; exact dvals_succ (by simpa using hk1)
          rw [← e]
          exact On
        clear On KN En
        refine rs_op rfl (ow_assign rfl ?_)
        refine rs_nil ?_
        refine ew_block_normal ?_
        refine ew_next ?_
        refine cw_region ?_
        refine rs_op rfl (ow_move rfl ?_)
        refine rs_op rfl (ow_sub rfl rfl (wrap_i64 (by omega)) ?_)
        refine rs_op rfl (ow_assign rfl ?_)
        refine rs_nil ?_
        refine ew_set 7 (.int .i64 ((s.size : Int) - 1 - ((k + 1 : Nat) : Int))) rfl ((by rw [show (s.size : Int) - 1 - (k : Int) - 1 = (s.size : Int) - 1 - ((k + 1 : Nat) : Int) by omega] : (.int .i64 (((s.size : Int) - 1 - (k : Int)) - 1) : Value) = _)) ?_
        exact ew_round (ι := Nat × Option Addr × Nat) (s := fun (k, A1, c1) => [(0, .string s), (2, .pointer (some ⟨gb1, 0, none⟩)), (4, .bool true), (5, .int .i64 1), (6, .slice A1 k c1), (7, .int .i64 ((s.size : Int) - 1 - (k : Int)))]) (R := fun (k, A1, c1) w' => Ext (Mut [((Value.slice none 0 0).ownBlock), (some gb1)]) w2 w' ∧ World.ownsRow w' w.heap.size 5 1 (.slice A1 k c1) k (dvals (r.reverse.take k)) ∧ Blk w' gb1 33 (#[.bool false, .slice none 0 0]) ∧ (∀ q9, ((Value.slice A1 k c1).ownBlock) = some q9 → ((Value.slice none 0 0).ownBlock) = some q9 ∨ w2.heap.size ≤ q9) ∧ (k ≤ r.length ∧ (r.reverse.take k).all isDig = true)) (m := fun (k, A1, c1) => r.length - k) (i := ⟨k, A1, c1⟩) (k + 1, A2, c2) (by show r.length - (k + 1) < r.length - k; omega) ⟨rfl, rfl, rfl, rfl, rfl, rfl, trivial⟩ ⟨M3.step E XM3, (by exact Od), (by exact Bb1), KdM3, by omega, all_take (by simpa using hk1) hall hdig⟩
  · have _way := True.intro
    have q := of_decide_eq_false q
    have hkr : k = r.length := by omega
    have hxs : r.reverse.take k = r.reverse := by rw [hkr, ← List.length_reverse, List.take_length]
    rw [hxs] at hall
    rw [List.all_reverse] at hall
    have Od9 := Od
    rw [hxs] at Od9
    have o8 := dvals_own Od9 hall hkr
    have hsv : val 10 (r.reverse.map dv) = (sgn true (num10 r)).natAbs := by rw [sgn_natAbs]; rfl
    have hsm : small 10 (r.reverse.map dv) := dv_small (by rw [List.all_reverse]; exact hall)
    have hlen : (r.reverse.map dv).length = r.length := by simp
    have hcut : ∀ w', Own8 w' w.heap.size A1 c1 (r.reverse.map dv) → Calls Tryd.prog 55 #[.slice A1 k c1] w' fun e w2 => e = .returned (.slice A1 (tens (sgn true (num10 r))).length c1) ∧ Own8 w' w.heap.size A1 c1 (tens (sgn true (num10 r))) ∧ w' = w2 := fun w' h => by
      have h9 := rcut_long w.heap.size A1 c1 _ _ w' h hsm hsv (by rw [hlen]; omega)
      rwa [hlen, ← hkr] at h9
    refine cw_exit ?_
    refine ew_then_exit ?_
    refine ew_then_exit ?_
    refine ew_block_here ?_
    refine ew_next ?_
    refine cw_seq ?_
    refine cw_region ?_
    refine rs_op rfl (ow_move rfl ?_)
    refine rs_op rfl (ow_enter en55 rfl ((hcut _ o8).mono ?_))
    rintro e w10 ⟨rfl, o9, rfl⟩
    refine ⟨_, rfl, ?_⟩
    have o9s := o9.2
    replace HF := HF.on E
    replace LW := LW.step E XLW
    replace M3 := M3.step E XM3
    have SB : ∀ q9, Mut [(some gb1)] q9 → Mut [((Value.slice A1 k c1).ownBlock), (some gb1)] q9 := (Mut.skip (Mut.keep Mut.nil_))
    replace HF := HF.less SB
    replace XLW := fun k h => XLW k (SB k h)
    replace XM3 := fun k h => XM3 k (SB k h)
    clear SB
    replace E := Ext.refl (Mut [(some gb1)]) w4
    replace HF := HF.and (Per.ownsN Od (NotIn.cons Dd_b1 NotIn.nil))
    clear Od
    replace HF := HF.on E
    replace LW := LW.step E XLW
    replace M3 := M3.step E XM3
    replace E := Ext.refl (Mut [(some gb1)]) w4
    replace HF := HF.and (Per.ownsN o9.1 (NotIn.cons Dd_b1.re NotIn.nil))
    have hnum : num10 r < B18 ^ 30 ↔ (tens (sgn true (num10 r))).length ≤ 540 := by rw [tens_540, sgn_natAbs]
    refine rs_op rfl (ow_assign rfl ?_)
    refine rs_nil ?_
    refine ew_next ?_
    refine cw_seq ?_
    refine cw_seq ?_
    refine cw_region ?_
    refine rs_op rfl (ow_move rfl ?_)
    refine rs_op rfl (ow_len Tryd.underlying31 rfl ?_)
    refine rs_op rfl (ow_gtr rfl rfl ?_)
    refine rs_nil ?_
    refine ew_next ?_
    refine cw_cond rfl (fun h3 => ?_) (fun h3 => ?_)
    · have _way := True.intro
      have h3 := of_decide_eq_true h3
      have e1 : textE r = 2 := by unfold textE; rw [if_pos ⟨hr, hall⟩, if_neg (by omega)]
      have e2 : textV true r = 0 := by unfold textV; rw [if_neg (by rintro ⟨_, _, h⟩; omega)]
      refine cw_seq ?_
      refine cw_region ?_
      refine rs_op rfl (ow_build (cs := #[.bool false, .slice none 0 0]) pl33 zr33 rfl rfl ?_)
      refine rs_op0 (ow_storeM sz33 rfl rfl Bb1 rfl rfl (Nat.le_of_ble_eq_true rfl) ?_)
      intro w11 Bx Eb1
      replace Bb1 := Bx
      clear Bx
      replace E := E.step1 Eb1 Mut.head
      clear Eb1
      refine rs_op rfl (ow_assign rfl ?_)
      refine rs_nil ?_
      refine ew_next ?_
      refine cw_ret ?_
      refine ew_then_ret ?_
      refine ew_ret (rs := [.cell 2 33, .tmp 3]) (vs := [_, _]) rfl ⟨⟨_, rfl, res_box Tryd.underlying33 rfl sz33 Bb1 rfl⟩, rfl, trivial⟩ ?_
      exact by rw [e1, e2]; exact retRead_zero (LW.step E XLW).toBelow
    · have _way := True.intro
      have h3 := of_decide_eq_false h3
      have e1 : textE r = 0 := by unfold textE; rw [if_pos ⟨hr, hall⟩, if_pos (by omega)]
      have e2 : textV true r = sgn true (num10 r) := by unfold textV; rw [if_pos ⟨hr, hall, by omega⟩]
      refine cw_skip ?_
      refine ew_next ?_
      refine cw_seq ?_
      refine cw_region ?_
      refine rs_op rfl (ow_move rfl ?_)
      refine rs_op rfl (ow_move rfl ?_)
      refine rs_op rfl (ow_on rfl (ow_move rfl ?_))
      refine rs_op rfl (ow_on rfl (ow_len Tryd.underlying31 rfl ?_))
      refine rs_op rfl (ow_on rfl (ow_gtr rfl rfl ?_))
      refine rs_op rfl (ow_pickT rfl rfl ?_)
      refine rs_op rfl (ow_move rfl ?_)
      refine rs_op rfl (ow_build (cs := #[.bool (decide (0 < ((((tens (sgn true (num10 r))).length : Nat)) : Int))), .slice A1 (tens (sgn true (num10 r))).length c1]) pl33 zr33 rfl rfl ?_)
      refine rs_op0 (ow_storeM sz33 rfl rfl Bb1 rfl rfl (Nat.le_of_ble_eq_true rfl) ?_)
      intro w12 Bx Eb1
      replace Bb1 := Bx
      clear Bx
      replace E := E.step1 Eb1 Mut.head
      clear Eb1
      replace HF := HF.on E
      replace LW := LW.step E XLW
      replace M3 := M3.step E XM3
      have SB : ∀ q9, No q9 → Mut [(some gb1)] q9 := (Mut.skip Mut.nil_)
      replace HF := HF.less SB
      replace XLW := fun k h => XLW k (SB k h)
      replace XM3 := fun k h => XM3 k (SB k h)
      clear SB
      replace E := Ext.refl (No) w12
      replace HF := HF.and (Per.blkN Bb1 NotIn.nil)
      clear Bb1
      refine rs_op rfl (ow_assign rfl ?_)
      refine rs_nil ?_
      refine ew_next ?_
      refine cw_ret ?_
      have hlv : decide ((0 : Int) < ((tens (sgn true (num10 r))).length : Int)) = decide (num10 r ≠ 0) := by
        rcases Nat.eq_zero_or_pos (num10 r) with h | h
        · rw [h]; cases hq : true <;> simp [sgn, tens_zero]
        · have := ten_pos (j := sgn true (num10 r)) (by intro e; have := sgn_natAbs true (num10 r); rw [e] at this; simp at this; omega)
          rw [decide_eq_true (by omega), decide_eq_true (by omega)]
      refine ew_ret (rs := [.cell 2 33, .tmp 3]) (vs := [_, _]) rfl ⟨⟨_, rfl, res_box Tryd.underlying33 rfl sz33 (HF.on E).here.2 rfl⟩, rfl, trivial⟩ ?_
      exact by rw [e1, e2]; exact ⟨A1, c1, by rw [sgn_neg, Bool.true_and, ← hlv]; rfl, ⟨(HF.on E).here.1.2, o9s⟩, (LW.step E XLW).toBelow⟩
theorem read_pos (hr : r ≠ []) (hbs : s.data.toList = [] ++ r) (h45 : r.head? ≠ some 45) (hs : s.size ≤ 140737488355328) : Calls Tryd.prog 44 #[.string s] w (RetRead w (textV false r) (textE r)) := by
  obtain ⟨b0, hb0⟩ : ∃ b, r.head? = some b := by cases r with | nil => exact absurd rfl hr | cons b _ => exact ⟨b, rfl⟩
  have hat0 : s[0]? = some b0 := by rw [ba_get, hbs, List.nil_append]; cases r with | nil => cases hb0 | cons b _ => simpa using hb0
  have hne : b0.toNat ≠ 45 := fun e => h45 (by rw [hb0, show b0 = 45 from UInt8.toNat_inj.1 e])
  have hpos : (0 : Int) < (s.size : Int) := by have h1 := congrArg List.length hbs; have h2 := List.length_pos_iff.2 hr; simp at h1; omega
  refine calls_cw Tryd.func44 rfl Tryd.ntmps44 rfl ?_
  have HF : Per No w (fun _ => True) := Per.true_
  have LW := Ext.refl (No) w
  have XLW : ∀ q9, (No) q9 → (No) q9 ∨ w.heap.size ≤ q9 := fun _ h => Or.inl h
  have E := Ext.refl No w
  refine cw_seq ?_
  refine cw_region ?_
  refine rs_op rfl (ow_allocB zr33 ?_)
  intro gb1 w2 Bb1 Eb1 Gb1
  have Gb1 : _ ≤ gb1 := Nat.le_trans E.size Gb1
  have GLb1 := Nat.le_trans LW.size Gb1
  replace E := E.trans Eb1.no
  clear Eb1
  replace HF := HF.cons (some_ge Gb1)
  replace E := E.cons (some gb1)
  replace XLW := Mut.grow XLW (fun k e => Or.inr (Nat.le_trans LW.size ((some_ge Gb1) k e)))
  refine rs_op rfl (ow_assign rfl ?_)
  refine rs_nil ?_
  refine ew_next ?_
  refine cw_seq ?_
  refine cw_region ?_
  refine rs_op rfl (ow_assign rfl ?_)
  refine rs_nil ?_
  refine ew_next ?_
  refine cw_seq ?_
  refine cw_region ?_
  refine rs_op rfl (ow_assign rfl ?_)
  refine rs_nil ?_
  refine ew_next ?_
  refine cw_seq ?_
  refine cw_seq ?_
  refine cw_region ?_
  refine rs_op rfl (ow_move rfl ?_)
  refine rs_op rfl (ow_lenS Tryd.underlying9 rfl ?_)
  refine rs_op rfl (ow_gtr rfl rfl ?_)
  refine rs_op rfl (ow_move rfl ?_)
  refine rs_set 11 (.bool true) rfl (by rw [decide_eq_true hpos]) ?_
  refine rs_op rfl (ow_on rfl (ow_move rfl ?_))
  refine rs_op rfl (ow_on rfl (ow_indexS (j := 0) Tryd.underlying9 rfl rfl rfl hat0 ?_))
  refine rs_op rfl (ow_on rfl (ow_eql rfl rfl ?_))
  refine rs_op rfl (ow_pickT rfl rfl ?_)
  refine rs_nil ?_
  refine ew_next ?_
  refine cw_set 15 (.bool false) rfl ((by rw [beq_eq_false_iff_ne.2 (by omega)] : (.bool (((b0.toNat : Nat) : Int) == 45) : Value) = _)) ?_
  refine cw_else rfl ?_
  refine cw_skip ?_
  refine ew_next ?_
  refine cw_seq ?_
  refine cw_seq ?_
  refine cw_region ?_
  refine rs_op rfl (ow_move rfl ?_)
  refine rs_op rfl (ow_move rfl ?_)
  refine rs_op rfl (ow_lenS Tryd.underlying9 rfl ?_)
  refine rs_op rfl (ow_eql rfl rfl ?_)
  refine rs_nil ?_
  refine ew_next ?_
  have hsz : s.size = 0 + r.length := by have := congrArg List.length hbs; simpa [Nat.add_comm] using this
  have hrl : 0 < r.length := List.length_pos_iff.2 hr
  refine cw_set 19 (.bool false) rfl (by rw [beq_eq_false_iff_ne.2 (by omega)]) ?_
  refine cw_else rfl ?_
  refine cw_skip ?_
  refine ew_next ?_
  refine cw_seq ?_
  refine cw_region ?_
  refine rs_op rfl (ow_assign rfl ?_)
  refine rs_nil ?_
  refine ew_next ?_
  refine cw_seq ?_
  refine cw_seq ?_
  refine cw_region ?_
  refine rs_op rfl (ow_move rfl ?_)
  refine rs_op rfl (ow_lenS Tryd.underlying9 rfl ?_)
  refine rs_op rfl (ow_sub rfl rfl (wrap_i64 (by omega)) ?_)
  refine rs_op rfl (ow_assign rfl ?_)
  refine rs_nil ?_
  refine ew_next ?_
  refine cw_block ?_
  have Od : World.ownsRow w2 w.heap.size 5 1 (.slice none 0 0) 0 ([]) := owns_nil
  have Dd_b1 : Apart ((Value.slice none 0 0).ownBlock) (some gb1) := fun _ e => by cases e
  have Db1_d := Dd_b1.symm
  replace HF := HF.cons (nil_no)
  replace E := E.cons ((Value.slice none 0 0).ownBlock)
  replace XLW := Mut.grow XLW (fun k e => Or.inr (Nat.le_trans LW.size ((nil_no) k e)))
  refine cw_set 7 (.int .i64 ((s.size : Int) - 1 - ((0 : Nat) : Int))) rfl (by simp) ?_
  replace HF := HF.on E
  replace LW := LW.step E XLW
  replace E := Ext.refl (Mut [((Value.slice none 0 0).ownBlock), (some gb1)]) w2
  refine cw_loop (ι := Nat × Option Addr × Nat) (fun (k, A1, c1) => [(0, .string s), (2, .pointer (some ⟨gb1, 0, none⟩)), (4, .bool false), (5, .int .i64 0), (6, .slice A1 k c1), (7, .int .i64 ((s.size : Int) - 1 - (k : Int)))]) (fun (k, A1, c1) w' => Ext (Mut [((Value.slice none 0 0).ownBlock), (some gb1)]) w2 w' ∧ World.ownsRow w' w.heap.size 5 1 (.slice A1 k c1) k (dvals (r.reverse.take k)) ∧ Blk w' gb1 33 (#[.bool false, .slice none 0 0]) ∧ (∀ q9, ((Value.slice A1 k c1).ownBlock) = some q9 → ((Value.slice none 0 0).ownBlock) = some q9 ∨ w2.heap.size ≤ q9) ∧ (k ≤ r.length ∧ (r.reverse.take k).all isDig = true)) (fun (k, A1, c1) => r.length - k) (0, none, 0) ⟨rfl, rfl, rfl, rfl, rfl, rfl, trivial⟩ ⟨Ext.refl _ _, (by exact Od), (by exact Bb1), (fun _ e => Or.inl e), ⟨Nat.zero_le _, rfl⟩⟩ ?_
  have LTd := (owns_lt Od)
  have LTb1 := (some_lt Bb1.lt)
  clear Od
  clear Bb1
  rintro ⟨k, A1, c1⟩ w4 ⟨M3, Od, Bb1, KdM3, ⟨hk, hall⟩⟩
  replace Dd_b1 : Apart ((Value.slice A1 k c1).ownBlock) (some gb1) := Dd_b1.turn KdM3 LTb1
  replace Db1_d := Dd_b1.symm
  have XM3 : ∀ q9, (Mut [((Value.slice A1 k c1).ownBlock), (some gb1)]) q9 → (Mut [((Value.slice none 0 0).ownBlock), (some gb1)]) q9 ∨ w2.heap.size ≤ q9 := (Mut.grow (Mut.grow Mut.none_ (fun k e => Or.inl ((Mut.tail Mut.head) k e))) (fun k e => (KdM3 k e).elim (fun e => Or.inl (Mut.head k e)) Or.inr))
  replace E := E.trans M3
  replace HF := HF.turn E XM3
  have XT := fun q9 (h : (Mut [((Value.slice A1 k c1).ownBlock), (some gb1)]) q9) => (XM3 q9 h).elim (XLW q9) (fun h => Or.inr (Nat.le_trans LW.size h))
  replace LW := LW.step E XLW
  replace XLW := XT
  clear XT
  replace E := Ext.refl (Mut [((Value.slice A1 k c1).ownBlock), (some gb1)]) w4
  clear LTd
  clear LTb1
  refine cw_seq ?_
  refine cw_seq ?_
  refine cw_region ?_
  refine rs_op rfl (ow_move rfl ?_)
  refine rs_op rfl (ow_move rfl ?_)
  refine rs_op rfl (ow_geq rfl rfl ?_)
  refine rs_nil ?_
  refine ew_next ?_
  refine cw_cond rfl (fun q => ?_) (fun q => ?_)
  · have _way := True.intro
    have q := of_decide_eq_true q
    have hk1 : k < r.length := by omega
    have hat := text_at hbs hk1
    obtain ⟨b, hb9⟩ : ∃ b, b = r.reverse.getD k 0 := ⟨_, rfl⟩
    rw [← hb9] at hat
    refine cw_skip ?_
    refine ew_next ?_
    refine cw_seq ?_
    refine cw_block ?_
    refine cw_seq ?_
    refine cw_seq ?_
    refine cw_region ?_
    refine rs_op rfl (ow_move rfl ?_)
    refine rs_op rfl (ow_move rfl ?_)
    refine rs_op rfl (ow_indexS (j := s.size - 1 - k) Tryd.underlying9 rfl rfl (by omega) hat ?_)
    refine rs_op rfl (ow_lss rfl rfl ?_)
    refine rs_op rfl (ow_move rfl ?_)
    refine rs_split 33 rfl (fun h => ?_) (fun h => ?_)
    · have _way := True.intro
      have h := of_decide_eq_true h
      obtain ⟨e1, e2⟩ := text_bad (neg := false) (all_not hk1 (by rw [← hb9]; unfold isDig; simp; omega))
      refine rs_op rfl (ow_off rfl ?_)
      refine rs_op rfl (ow_off rfl ?_)
      refine rs_op rfl (ow_off rfl ?_)
      refine rs_op rfl (ow_off rfl ?_)
      refine rs_op rfl (ow_pickT rfl rfl ?_)
      refine rs_nil ?_
      refine ew_next ?_
      refine cw_then rfl ?_
      refine cw_seq ?_
      refine cw_region ?_
      refine rs_op rfl (ow_build (cs := #[.bool false, .slice none 0 0]) pl33 zr33 rfl rfl ?_)
      refine rs_op0 (ow_storeM sz33 rfl rfl Bb1 rfl rfl (Nat.le_of_ble_eq_true rfl) ?_)
      intro w5 Bx Eb1
      replace Bb1 := Bx
      clear Bx
      replace Od := owns_extN Od Eb1 (NotIn.cons Dd_b1 NotIn.nil)
      replace E := E.step1 Eb1 (Mut.tail Mut.head)
      clear Eb1
      refine rs_op rfl (ow_assign rfl ?_)
      refine rs_nil ?_
      refine ew_next ?_
      refine cw_ret ?_
      refine ew_then_ret ?_
      refine ew_block_ret ?_
      refine ew_then_ret ?_
      refine ew_then_ret ?_
      refine ew_block_ret ?_
      refine ew_then_ret ?_
      refine ew_ret (rs := [.cell 2 33, .tmp 3]) (vs := [_, _]) rfl ⟨⟨_, rfl, res_box Tryd.underlying33 rfl sz33 Bb1 rfl⟩, rfl, trivial⟩ ?_
      exact by rw [e1, e2]; exact retRead_zero (LW.step E XLW).toBelow
    · have _way := True.intro
      have h := of_decide_eq_false h
      refine rs_op rfl (ow_on rfl (ow_move rfl ?_))
      refine rs_op rfl (ow_on rfl (ow_move rfl ?_))
      refine rs_op rfl (ow_on rfl (ow_indexS (j := s.size - 1 - k) Tryd.underlying9 rfl rfl (by omega) hat ?_))
      refine rs_op rfl (ow_on rfl (ow_gtr rfl rfl ?_))
      refine rs_op rfl (ow_pickF rfl rfl ?_)
      refine rs_nil ?_
      refine ew_next ?_
      refine cw_cond rfl (fun h2 => ?_) (fun h2 => ?_)
      · have _way := True.intro
        have h2 := of_decide_eq_true h2
        obtain ⟨e1, e2⟩ := text_bad (neg := false) (all_not hk1 (by rw [← hb9]; unfold isDig; simp; omega))
        refine cw_seq ?_
        refine cw_region ?_
        refine rs_op rfl (ow_build (cs := #[.bool false, .slice none 0 0]) pl33 zr33 rfl rfl ?_)
        refine rs_op0 (ow_storeM sz33 rfl rfl Bb1 rfl rfl (Nat.le_of_ble_eq_true rfl) ?_)
        intro w6 Bx Eb1
        replace Bb1 := Bx
        clear Bx
        replace Od := owns_extN Od Eb1 (NotIn.cons Dd_b1 NotIn.nil)
        replace E := E.step1 Eb1 (Mut.tail Mut.head)
        clear Eb1
        refine rs_op rfl (ow_assign rfl ?_)
        refine rs_nil ?_
        refine ew_next ?_
        refine cw_ret ?_
        refine ew_then_ret ?_
        refine ew_block_ret ?_
        refine ew_then_ret ?_
        refine ew_then_ret ?_
        refine ew_block_ret ?_
        refine ew_then_ret ?_
        refine ew_ret (rs := [.cell 2 33, .tmp 3]) (vs := [_, _]) rfl ⟨⟨_, rfl, res_box Tryd.underlying33 rfl sz33 Bb1 rfl⟩, rfl, trivial⟩ ?_
        exact by rw [e1, e2]; exact retRead_zero (LW.step E XLW).toBelow
      · have _way := True.intro
        have h2 := of_decide_eq_false h2
        refine cw_skip ?_
        refine ew_next ?_
        refine cw_region ?_
        refine rs_op rfl (ow_move rfl ?_)
        refine rs_op rfl (ow_move rfl ?_)
        refine rs_op rfl (ow_move rfl ?_)
        refine rs_op rfl (ow_indexS (j := s.size - 1 - k) Tryd.underlying9 rfl rfl (by omega) hat ?_)
        have hdig : isDig (r.reverse.getD k 0) = true := by rw [← hb9]; exact dig_of (by omega) (by omega)
        refine rs_op rfl (ow_sub rfl rfl (wrap_u8 (by omega)) ?_)
        refine rs_op rfl (ow_buildSlice (cs := #[.int .u8 (((b.toNat : Nat) : Int) - 48)]) Tryd.underlying31 sz5 zr5 (by decide) rfl (by rw [map_range_]; rfl) ?_)
        intro gb7 w8 Bb7 Eb7 Gb7
        have Db7_d : Apart (some gb7) ((Value.slice A1 k c1).ownBlock) := Apart.of_lt (owns_lt Od) Gb7
        have Dd_b7 := Db7_d.symm
        have Db7_b1 : Apart (some gb7) (some gb1) := Apart.of_lt (some_lt Bb1.lt) Gb7
        have Db1_b7 := Db7_b1.symm
        have Gb7 : _ ≤ gb7 := Nat.le_trans E.size Gb7
        have GLb7 := Nat.le_trans LW.size Gb7
        replace Od := owns_extN Od Eb7 NotIn.nil
        replace Bb1 := Bb1.extN Eb7 NotIn.nil
        replace E := E.trans Eb7.no
        clear Eb7
        replace HF := HF.cons (some_ge Gb7)
        replace E := E.cons (some gb7)
        replace XLW := Mut.grow XLW (fun k e => Or.inr (Nat.le_trans LW.size ((some_ge Gb7) k e)))
        replace XM3 := Mut.grow XM3 (fun k e => Or.inr (Nat.le_trans M3.size ((some_ge Gb7) k e)))
        replace HF := HF.on E
        replace LW := LW.step E XLW
        replace M3 := M3.step E XM3
        have SB : ∀ q9, Mut [((Value.slice A1 k c1).ownBlock), (some gb1)] q9 → Mut [(some gb7), ((Value.slice A1 k c1).ownBlock), (some gb1)] q9 := (Mut.skip (Mut.keep (Mut.keep Mut.nil_)))
        replace HF := HF.less SB
        replace XLW := fun k h => XLW k (SB k h)
        replace XM3 := fun k h => XM3 k (SB k h)
        clear SB
        replace E := Ext.refl (Mut [((Value.slice A1 k c1).ownBlock), (some gb1)]) w8
        replace HF := HF.and (Per.blkN Bb7 (NotIn.cons Db7_d (NotIn.cons Db7_b1 NotIn.nil)))
        clear Bb7
        refine rs_op rfl (ow_append (news := [.int .u8 (((b.toNat : Nat) : Int) - 48)]) Tryd.underlying31 inf5 rfl (by decide) rfl Od rfl (reads_row (HF.on E).here.2 ((HF.on E).here.2).lt rfl) (by simp [Value.oneCell']) (by unfold maxLen; omega) (by omega) (by exact Nat.le_trans LW.size E.size) ?_)
        intro v0 w9 On En KN
        obtain ⟨A2, c2, rfl⟩ := owns_shape On
        replace KN : ∀ q9, ((Value.slice A2 (k + 1) c2).ownBlock) = some q9 → ((Value.slice A1 k c1).ownBlock) = some q9 ∨ w8.heap.size ≤ q9 := KN
        have LTb1 := (some_lt Bb1.lt)
        replace Bb1 := Bb1.extN En (NotIn.cons Db1_d NotIn.nil)
        replace Dd_b1 : Apart ((Value.slice A2 (k + 1) c2).ownBlock) (some gb1) := Dd_b1.turn KN LTb1
        replace Db1_d := Dd_b1.symm
        clear LTb1
        have HY : ∀ q9, (Mut [((Value.slice A2 (k + 1) c2).ownBlock), (some gb1)]) q9 → (Mut [((Value.slice A1 k c1).ownBlock), (some gb1)]) q9 ∨ w8.heap.size ≤ q9 := (Mut.grow (Mut.grow Mut.none_ (fun k e => Or.inl ((Mut.tail Mut.head) k e))) (fun k e => (KN k e).elim (fun e => Or.inl (Mut.head k e)) (fun h => Or.inr (Nat.le_trans E.size h))))
        replace KdM3 : ∀ q9, ((Value.slice A2 (k + 1) c2).ownBlock) = some q9 → ((Value.slice none 0 0).ownBlock) = some q9 ∨ w2.heap.size ≤ q9 := fun k e => (KN k e).elim (KdM3 k) (fun h => Or.inr (Nat.le_trans M3.size (Nat.le_trans E.size h)))
        replace E := E.step1 En Mut.head
        replace HF := HF.turn E HY
        have XT := fun q9 (h : (Mut [((Value.slice A2 (k + 1) c2).ownBlock), (some gb1)]) q9) => (HY q9 h).elim (XLW q9) (fun h => Or.inr (Nat.le_trans LW.size h))
        replace LW := LW.step E XLW
        replace XLW := XT
        clear XT
        have XT := fun q9 (h : (Mut [((Value.slice A2 (k + 1) c2).ownBlock), (some gb1)]) q9) => (HY q9 h).elim (XM3 q9) (fun h => Or.inr (Nat.le_trans M3.size h))
        replace M3 := M3.step E XM3
        replace XM3 := XT
        clear XT
        replace E := Ext.refl (Mut [((Value.slice A2 (k + 1) c2).ownBlock), (some gb1)]) w9
        clear HY
        replace Od : World.ownsRow w9 w.heap.size 5 1 (.slice A2 (k + 1) c2) (k + 1) (dvals (r.reverse.take (k + 1))) := by
          have e : ((dvals (r.reverse.take k)) : List Value) ++ ([.int .u8 (((b.toNat : Nat) : Int) - 48)] : List Value) = dvals (r.reverse.take (k + 1)) := by rw [hb9]; exact dvals_succ (by simpa using hk1)
          rw [← e]
          exact On
        clear On KN En
        refine rs_op rfl (ow_assign rfl ?_)
        refine rs_nil ?_
        refine ew_block_normal ?_
        refine ew_next ?_
        refine cw_region ?_
        refine rs_op rfl (ow_move rfl ?_)
        refine rs_op rfl (ow_sub rfl rfl (wrap_i64 (by omega)) ?_)
        refine rs_op rfl (ow_assign rfl ?_)
        refine rs_nil ?_
        refine ew_set 7 (.int .i64 ((s.size : Int) - 1 - ((k + 1 : Nat) : Int))) rfl ((by rw [show (s.size : Int) - 1 - (k : Int) - 1 = (s.size : Int) - 1 - ((k + 1 : Nat) : Int) by omega] : (.int .i64 (((s.size : Int) - 1 - (k : Int)) - 1) : Value) = _)) ?_
        exact ew_round (ι := Nat × Option Addr × Nat) (s := fun (k, A1, c1) => [(0, .string s), (2, .pointer (some ⟨gb1, 0, none⟩)), (4, .bool false), (5, .int .i64 0), (6, .slice A1 k c1), (7, .int .i64 ((s.size : Int) - 1 - (k : Int)))]) (R := fun (k, A1, c1) w' => Ext (Mut [((Value.slice none 0 0).ownBlock), (some gb1)]) w2 w' ∧ World.ownsRow w' w.heap.size 5 1 (.slice A1 k c1) k (dvals (r.reverse.take k)) ∧ Blk w' gb1 33 (#[.bool false, .slice none 0 0]) ∧ (∀ q9, ((Value.slice A1 k c1).ownBlock) = some q9 → ((Value.slice none 0 0).ownBlock) = some q9 ∨ w2.heap.size ≤ q9) ∧ (k ≤ r.length ∧ (r.reverse.take k).all isDig = true)) (m := fun (k, A1, c1) => r.length - k) (i := ⟨k, A1, c1⟩) (k + 1, A2, c2) (by show r.length - (k + 1) < r.length - k; omega) ⟨rfl, rfl, rfl, rfl, rfl, rfl, trivial⟩ ⟨M3.step E XM3, (by exact Od), (by exact Bb1), KdM3, by omega, all_take (by simpa using hk1) hall hdig⟩
  · have _way := True.intro
    have q := of_decide_eq_false q
    have hkr : k = r.length := by omega
    have hxs : r.reverse.take k = r.reverse := by rw [hkr, ← List.length_reverse, List.take_length]
    rw [hxs] at hall
    rw [List.all_reverse] at hall
    have Od9 := Od
    rw [hxs] at Od9
    have o8 := dvals_own Od9 hall hkr
    have hsv : val 10 (r.reverse.map dv) = (sgn false (num10 r)).natAbs := by rw [sgn_natAbs]; rfl
    have hsm : small 10 (r.reverse.map dv) := dv_small (by rw [List.all_reverse]; exact hall)
    have hlen : (r.reverse.map dv).length = r.length := by simp
    have hcut : ∀ w', Own8 w' w.heap.size A1 c1 (r.reverse.map dv) → Calls Tryd.prog 55 #[.slice A1 k c1] w' fun e w2 => e = .returned (.slice A1 (tens (sgn false (num10 r))).length c1) ∧ Own8 w' w.heap.size A1 c1 (tens (sgn false (num10 r))) ∧ w' = w2 := fun w' h => by
      have h9 := rcut_long w.heap.size A1 c1 _ _ w' h hsm hsv (by rw [hlen]; omega)
      rwa [hlen, ← hkr] at h9
    refine cw_exit ?_
    refine ew_then_exit ?_
    refine ew_then_exit ?_
    refine ew_block_here ?_
    refine ew_next ?_
    refine cw_seq ?_
    refine cw_region ?_
    refine rs_op rfl (ow_move rfl ?_)
    refine rs_op rfl (ow_enter en55 rfl ((hcut _ o8).mono ?_))
    rintro e w10 ⟨rfl, o9, rfl⟩
    refine ⟨_, rfl, ?_⟩
    have o9s := o9.2
    replace HF := HF.on E
    replace LW := LW.step E XLW
    replace M3 := M3.step E XM3
    have SB : ∀ q9, Mut [(some gb1)] q9 → Mut [((Value.slice A1 k c1).ownBlock), (some gb1)] q9 := (Mut.skip (Mut.keep Mut.nil_))
    replace HF := HF.less SB
    replace XLW := fun k h => XLW k (SB k h)
    replace XM3 := fun k h => XM3 k (SB k h)
    clear SB
    replace E := Ext.refl (Mut [(some gb1)]) w4
    replace HF := HF.and (Per.ownsN Od (NotIn.cons Dd_b1 NotIn.nil))
    clear Od
    replace HF := HF.on E
    replace LW := LW.step E XLW
    replace M3 := M3.step E XM3
    replace E := Ext.refl (Mut [(some gb1)]) w4
    replace HF := HF.and (Per.ownsN o9.1 (NotIn.cons Dd_b1.re NotIn.nil))
    have hnum : num10 r < B18 ^ 30 ↔ (tens (sgn false (num10 r))).length ≤ 540 := by rw [tens_540, sgn_natAbs]
    refine rs_op rfl (ow_assign rfl ?_)
    refine rs_nil ?_
    refine ew_next ?_
    refine cw_seq ?_
    refine cw_seq ?_
    refine cw_region ?_
    refine rs_op rfl (ow_move rfl ?_)
    refine rs_op rfl (ow_len Tryd.underlying31 rfl ?_)
    refine rs_op rfl (ow_gtr rfl rfl ?_)
    refine rs_nil ?_
    refine ew_next ?_
    refine cw_cond rfl (fun h3 => ?_) (fun h3 => ?_)
    · have _way := True.intro
      have h3 := of_decide_eq_true h3
      have e1 : textE r = 2 := by unfold textE; rw [if_pos ⟨hr, hall⟩, if_neg (by omega)]
      have e2 : textV false r = 0 := by unfold textV; rw [if_neg (by rintro ⟨_, _, h⟩; omega)]
      refine cw_seq ?_
      refine cw_region ?_
      refine rs_op rfl (ow_build (cs := #[.bool false, .slice none 0 0]) pl33 zr33 rfl rfl ?_)
      refine rs_op0 (ow_storeM sz33 rfl rfl Bb1 rfl rfl (Nat.le_of_ble_eq_true rfl) ?_)
      intro w11 Bx Eb1
      replace Bb1 := Bx
      clear Bx
      replace E := E.step1 Eb1 Mut.head
      clear Eb1
      refine rs_op rfl (ow_assign rfl ?_)
      refine rs_nil ?_
      refine ew_next ?_
      refine cw_ret ?_
      refine ew_then_ret ?_
      refine ew_ret (rs := [.cell 2 33, .tmp 3]) (vs := [_, _]) rfl ⟨⟨_, rfl, res_box Tryd.underlying33 rfl sz33 Bb1 rfl⟩, rfl, trivial⟩ ?_
      exact by rw [e1, e2]; exact retRead_zero (LW.step E XLW).toBelow
    · have _way := True.intro
      have h3 := of_decide_eq_false h3
      have e1 : textE r = 0 := by unfold textE; rw [if_pos ⟨hr, hall⟩, if_pos (by omega)]
      have e2 : textV false r = sgn false (num10 r) := by unfold textV; rw [if_pos ⟨hr, hall, by omega⟩]
      refine cw_skip ?_
      refine ew_next ?_
      refine cw_seq ?_
      refine cw_region ?_
      refine rs_op rfl (ow_move rfl ?_)
      refine rs_op rfl (ow_move rfl ?_)
      refine rs_op rfl (ow_off rfl ?_)
      refine rs_op rfl (ow_off rfl ?_)
      refine rs_op rfl (ow_off rfl ?_)
      refine rs_op rfl (ow_pickF rfl rfl ?_)
      refine rs_op rfl (ow_move rfl ?_)
      refine rs_op rfl (ow_build (cs := #[.bool false, .slice A1 (tens (sgn false (num10 r))).length c1]) pl33 zr33 rfl rfl ?_)
      refine rs_op0 (ow_storeM sz33 rfl rfl Bb1 rfl rfl (Nat.le_of_ble_eq_true rfl) ?_)
      intro w12 Bx Eb1
      replace Bb1 := Bx
      clear Bx
      replace E := E.step1 Eb1 Mut.head
      clear Eb1
      replace HF := HF.on E
      replace LW := LW.step E XLW
      replace M3 := M3.step E XM3
      have SB : ∀ q9, No q9 → Mut [(some gb1)] q9 := (Mut.skip Mut.nil_)
      replace HF := HF.less SB
      replace XLW := fun k h => XLW k (SB k h)
      replace XM3 := fun k h => XM3 k (SB k h)
      clear SB
      replace E := Ext.refl (No) w12
      replace HF := HF.and (Per.blkN Bb1 NotIn.nil)
      clear Bb1
      refine rs_op rfl (ow_assign rfl ?_)
      refine rs_nil ?_
      refine ew_next ?_
      refine cw_ret ?_
      have hlv : decide ((0 : Int) < ((tens (sgn false (num10 r))).length : Int)) = decide (num10 r ≠ 0) := by
        rcases Nat.eq_zero_or_pos (num10 r) with h | h
        · rw [h]; cases hq : false <;> simp [sgn, tens_zero]
        · have := ten_pos (j := sgn false (num10 r)) (by intro e; have := sgn_natAbs false (num10 r); rw [e] at this; simp at this; omega)
          rw [decide_eq_true (by omega), decide_eq_true (by omega)]
      refine ew_ret (rs := [.cell 2 33, .tmp 3]) (vs := [_, _]) rfl ⟨⟨_, rfl, res_box Tryd.underlying33 rfl sz33 (HF.on E).here.2 rfl⟩, rfl, trivial⟩ ?_
      exact by rw [e1, e2]; exact ⟨A1, c1, by rw [sgn_neg, Bool.false_and]; rfl, ⟨(HF.on E).here.1.2, o9s⟩, (LW.step E XLW).toBelow⟩
end
section
variable (s : ByteArray) (w : World)
theorem read_empty (neg : Bool) (hbs : s.data.toList = (if neg then [45] else [])) (hs : s.size ≤ 140737488355328) : Calls Tryd.prog 44 #[.string s] w (RetRead w 0 4) := by
  have _ := hs
  cases neg
  · have hz : (s.size : Int) = 0 := by have h9 : s.data.toList.length = s.size := Array.length_toList; rw [hbs] at h9; rw [← h9]; rfl
    refine calls_cw Tryd.func44 rfl Tryd.ntmps44 rfl ?_
    have HF : Per No w (fun _ => True) := Per.true_
    have LW := Ext.refl (No) w
    have XLW : ∀ q9, (No) q9 → (No) q9 ∨ w.heap.size ≤ q9 := fun _ h => Or.inl h
    have E := Ext.refl No w
    refine cw_seq ?_
    refine cw_region ?_
    refine rs_op rfl (ow_allocB zr33 ?_)
    intro gb1 w2 Bb1 Eb1 Gb1
    have Gb1 : _ ≤ gb1 := Nat.le_trans E.size Gb1
    have GLb1 := Nat.le_trans LW.size Gb1
    replace E := E.trans Eb1.no
    clear Eb1
    replace HF := HF.cons (some_ge Gb1)
    replace E := E.cons (some gb1)
    replace XLW := Mut.grow XLW (fun k e => Or.inr (Nat.le_trans LW.size ((some_ge Gb1) k e)))
    refine rs_op rfl (ow_assign rfl ?_)
    refine rs_nil ?_
    refine ew_next ?_
    refine cw_seq ?_
    refine cw_region ?_
    refine rs_op rfl (ow_assign rfl ?_)
    refine rs_nil ?_
    refine ew_next ?_
    refine cw_seq ?_
    refine cw_region ?_
    refine rs_op rfl (ow_assign rfl ?_)
    refine rs_nil ?_
    refine ew_next ?_
    refine cw_seq ?_
    refine cw_seq ?_
    refine cw_region ?_
    refine rs_op rfl (ow_move rfl ?_)
    refine rs_op rfl (ow_lenS Tryd.underlying9 rfl ?_)
    refine rs_op rfl (ow_gtr rfl rfl ?_)
    refine rs_op rfl (ow_move rfl ?_)
    refine rs_set 11 (.bool false) rfl (by rw [hz]; rfl) ?_
    refine rs_op rfl (ow_off rfl ?_)
    refine rs_op rfl (ow_off rfl ?_)
    refine rs_op rfl (ow_off rfl ?_)
    refine rs_op rfl (ow_pickF rfl rfl ?_)
    refine rs_nil ?_
    refine ew_next ?_
    refine cw_else rfl ?_
    refine cw_skip ?_
    refine ew_next ?_
    refine cw_seq ?_
    refine cw_seq ?_
    refine cw_region ?_
    refine rs_op rfl (ow_move rfl ?_)
    refine rs_op rfl (ow_move rfl ?_)
    refine rs_op rfl (ow_lenS Tryd.underlying9 rfl ?_)
    refine rs_op rfl (ow_eql rfl rfl ?_)
    refine rs_nil ?_
    refine ew_next ?_
    refine cw_set 19 (.bool true) rfl (by rw [hz]; rfl) ?_
    refine cw_then rfl ?_
    refine cw_seq ?_
    refine cw_region ?_
    refine rs_op rfl (ow_build (cs := #[.bool false, .slice none 0 0]) pl33 zr33 rfl rfl ?_)
    refine rs_op0 (ow_storeM sz33 rfl rfl Bb1 rfl rfl (Nat.le_of_ble_eq_true rfl) ?_)
    intro w3 Bx Eb1
    replace Bb1 := Bx
    clear Bx
    replace E := E.step1 Eb1 Mut.head
    clear Eb1
    refine rs_op rfl (ow_assign rfl ?_)
    refine rs_nil ?_
    refine ew_next ?_
    refine cw_ret ?_
    refine ew_then_ret ?_
    refine ew_ret (rs := [.cell 2 33, .tmp 3]) (vs := [_, _]) rfl ⟨⟨_, rfl, res_box Tryd.underlying33 rfl sz33 Bb1 rfl⟩, rfl, trivial⟩ ?_
    exact retRead_zero (LW.step E XLW).toBelow
  · have hz : (s.size : Int) = 1 := by have h9 : s.data.toList.length = s.size := Array.length_toList; rw [hbs] at h9; rw [← h9]; rfl
    have hat0 : s[0]? = some 45 := by rw [ba_get, hbs]; rfl
    refine calls_cw Tryd.func44 rfl Tryd.ntmps44 rfl ?_
    have HF : Per No w (fun _ => True) := Per.true_
    have LW := Ext.refl (No) w
    have XLW : ∀ q9, (No) q9 → (No) q9 ∨ w.heap.size ≤ q9 := fun _ h => Or.inl h
    have E := Ext.refl No w
    refine cw_seq ?_
    refine cw_region ?_
    refine rs_op rfl (ow_allocB zr33 ?_)
    intro gb1 w2 Bb1 Eb1 Gb1
    have Gb1 : _ ≤ gb1 := Nat.le_trans E.size Gb1
    have GLb1 := Nat.le_trans LW.size Gb1
    replace E := E.trans Eb1.no
    clear Eb1
    replace HF := HF.cons (some_ge Gb1)
    replace E := E.cons (some gb1)
    replace XLW := Mut.grow XLW (fun k e => Or.inr (Nat.le_trans LW.size ((some_ge Gb1) k e)))
    refine rs_op rfl (ow_assign rfl ?_)
    refine rs_nil ?_
    refine ew_next ?_
    refine cw_seq ?_
    refine cw_region ?_
    refine rs_op rfl (ow_assign rfl ?_)
    refine rs_nil ?_
    refine ew_next ?_
    refine cw_seq ?_
    refine cw_region ?_
    refine rs_op rfl (ow_assign rfl ?_)
    refine rs_nil ?_
    refine ew_next ?_
    refine cw_seq ?_
    refine cw_seq ?_
    refine cw_region ?_
    refine rs_op rfl (ow_move rfl ?_)
    refine rs_op rfl (ow_lenS Tryd.underlying9 rfl ?_)
    refine rs_op rfl (ow_gtr rfl rfl ?_)
    refine rs_op rfl (ow_move rfl ?_)
    refine rs_set 11 (.bool true) rfl (by rw [hz]; rfl) ?_
    refine rs_op rfl (ow_on rfl (ow_move rfl ?_))
    refine rs_op rfl (ow_on rfl (ow_indexS (j := 0) Tryd.underlying9 rfl rfl rfl hat0 ?_))
    refine rs_op rfl (ow_on rfl (ow_eql rfl rfl ?_))
    refine rs_op rfl (ow_pickT rfl rfl ?_)
    refine rs_nil ?_
    refine ew_next ?_
    refine cw_then rfl ?_
    refine cw_seq ?_
    refine cw_region ?_
    refine rs_op rfl (ow_assign rfl ?_)
    refine rs_nil ?_
    refine ew_next ?_
    refine cw_region ?_
    refine rs_op rfl (ow_assign rfl ?_)
    refine rs_nil ?_
    refine ew_next ?_
    refine cw_seq ?_
    refine cw_seq ?_
    refine cw_region ?_
    refine rs_op rfl (ow_move rfl ?_)
    refine rs_op rfl (ow_move rfl ?_)
    refine rs_op rfl (ow_lenS Tryd.underlying9 rfl ?_)
    refine rs_op rfl (ow_eql rfl rfl ?_)
    refine rs_nil ?_
    refine ew_next ?_
    refine cw_set 19 (.bool true) rfl (by rw [hz]; rfl) ?_
    refine cw_then rfl ?_
    refine cw_seq ?_
    refine cw_region ?_
    refine rs_op rfl (ow_build (cs := #[.bool false, .slice none 0 0]) pl33 zr33 rfl rfl ?_)
    refine rs_op0 (ow_storeM sz33 rfl rfl Bb1 rfl rfl (Nat.le_of_ble_eq_true rfl) ?_)
    intro w3 Bx Eb1
    replace Bb1 := Bx
    clear Bx
    replace E := E.step1 Eb1 Mut.head
    clear Eb1
    refine rs_op rfl (ow_assign rfl ?_)
    refine rs_nil ?_
    refine ew_next ?_
    refine cw_ret ?_
    refine ew_then_ret ?_
    refine ew_ret (rs := [.cell 2 33, .tmp 3]) (vs := [_, _]) rfl ⟨⟨_, rfl, res_box Tryd.underlying33 rfl sz33 Bb1 rfl⟩, rfl, trivial⟩ ?_
    exact retRead_zero (LW.step E XLW).toBelow
theorem text_empty {neg : Bool} : textV neg [] = 0 ∧ textE [] = 4 := by unfold textV textE; simp
/-- Read, of any text: the number that it spells, or the error's number. -/
theorem read_any (hs : s.size ≤ 140737488355328) : Calls Tryd.prog 44 #[.string s] w (RetRead w (textV (textN s.data.toList) (textR s.data.toList)) (textE (textR s.data.toList))) := by
  generalize hbs : s.data.toList = bs
  unfold textN textR
  by_cases h : bs.head? = some 45
  · rw [decide_eq_true h, if_pos h]
    obtain ⟨r, rfl⟩ : ∃ r, bs = 45 :: r := by cases bs with | nil => cases h | cons b r => exact ⟨r, by rw [Option.some.inj h]⟩
    by_cases hr : r = []
    · subst hr
      obtain ⟨e1, e2⟩ := text_empty (neg := true)
      show Calls _ _ _ _ (RetRead w (textV true []) (textE []))
      rw [e1, e2]
      exact read_empty s w true hbs hs
    · exact read_neg s r w hr hbs hs
  · rw [decide_eq_false h, if_neg h]
    by_cases hr : bs = []
    · subst hr
      obtain ⟨e1, e2⟩ := text_empty (neg := false)
      rw [e1, e2]
      exact read_empty s w false hbs hs
    · exact read_pos s bs w hr hbs h hs
end
end Go.Proofs.YteggjfmcpodepaaDoor
namespace Go.Proofs.YteggjfmcpodepaaDoor
open Go.RowKit
set_option maxRecDepth 100000
/-- is, at what a power gives. -/
theorem is_outO (A B : Option Addr) (c d : Nat) (i : Int) (w : World) (hx : Nums w A (limbs (outV true i))) (hy : Nums8 w B (tens (outV true i))) :
    Calls Tryd.prog 16 #[.agg #[.bool (decide (outV true i < 0)), .slice A (limbs (outV true i)).length c], .int .i64 (outE true i), .agg #[.bool (decide (outV true i < 0)), .slice B (tens (outV true i)).length d], .int .i64 (outE true i)] w fun e w' => e = .returned (.bool true) ∧ Below w.heap.size w w' := by
  by_cases h : i.natAbs < B18 ^ 30
  · rw [outV_ok h] at hx hy ⊢
    rw [outE_ok h]
    exact is_ok A B c d i w hx hy (by have := limbs_length h; omega) (by have := tens_length h; omega)
  · rw [outV_big (by omega)] at hx ⊢
    rw [outE_big (by omega), limbs_zero]
    exact is_err A B c d _ _ 7 w (by simp)
theorem rofI {i : Int} (A : Option Addr) (c : Nat) (w : World) (hi : i.natAbs < B18 ^ 30) (hx : Nums w A (limbs i)) : Calls Tryd.prog 18 #[.agg #[.bool (decide (i < 0)), .slice A (limbs i).length c]] w (RetNum w i) := by
  have h := rof_any (decide (i < 0)) A c (limbs i) w hx (good_limbs hi)
  rwa [num_limbs] at h
section
variable (n1 n2 : Bool) (A B : Option Addr) (c d : Nat) (xs ys : List Nat) (w : World)
theorem pow_bad (hx : Nums w A xs) (hy : Nums w B ys) (hl : xs.length ≤ 9223372036854775807) (hl' : ys.length ≤ 9223372036854775807) (hok : (goodB n1 xs && goodB n2 ys) = false) :
    Calls Tryd.prog 38 #[.agg #[.bool n1, .slice A xs.length c], .agg #[.bool n2, .slice B ys.length d]] w (RetNought w 3) := by
  refine Calls.mono (R := RetBigErr w 0 3) ?_ (fun _ _ h => retBigErr_nought h)
  cases hg : goodB n1 xs
  · exact pow_bad1 n1 n2 A B c d xs ys w hx hl hg
  · rw [hg, Bool.true_and] at hok
    exact pow_bad2 n1 n2 A B c d xs ys w hx hy hl hl' hg hok
theorem powers_bad (hx : Nums w A xs) (hy : Nums w B ys) (hl : xs.length ≤ 9223372036854775807) (hl' : ys.length ≤ 9223372036854775807) (hok : (goodB n1 xs && goodB n2 ys) = false) :
    Calls Tryd.prog 7 #[.agg #[.bool n1, .slice A xs.length c], .agg #[.bool n2, .slice B ys.length d]] w (LawTrue w) := by
  have hform := fun w hx hy => lform_any n1 n2 A B c d xs ys w hx hy hl hl'
  have hfo : formE (goodB n1 xs) (goodB n2 ys) = 3 := by unfold formE; rw [hok]; rfl
  rw [hfo] at hform
  have hpow := fun w hx hy => pow_bad n1 n2 A B c d xs ys w hx hy hl hl' hok
  refine calls_cw Tryd.func7 rfl Tryd.ntmps7 rfl ?_
  have HF : Per No w (fun _ => True) := Per.true_
  have LW := Ext.refl (No) w
  have XLW : ∀ q9, (No) q9 → (No) q9 ∨ w.heap.size ≤ q9 := fun _ h => Or.inl h
  have E := Ext.refl No w
  replace HF := HF.on E
  replace LW := LW.step E XLW
  replace E := Ext.refl (No) w
  replace HF := HF.and (Per.nums0 hx)
  replace HF := HF.on E
  replace LW := LW.step E XLW
  replace E := Ext.refl (No) w
  replace HF := HF.and (Per.nums0 hy)
  refine cw_seq ?_
  refine cw_region ?_
  refine rs_op rfl (ow_boxB rfl ?_)
  intro gb1 w2 Bb1 Eb1 Gb1
  have Gb1 : _ ≤ gb1 := Nat.le_trans E.size Gb1
  have GLb1 := Nat.le_trans LW.size Gb1
  replace E := E.trans Eb1.no
  clear Eb1
  replace HF := HF.cons (some_ge Gb1)
  replace E := E.cons (some gb1)
  replace XLW := Mut.grow XLW (fun k e => Or.inr (Nat.le_trans LW.size ((some_ge Gb1) k e)))
  replace HF := HF.on E
  replace LW := LW.step E XLW
  have SB : ∀ q9, No q9 → Mut [(some gb1)] q9 := (Mut.skip Mut.nil_)
  replace HF := HF.less SB
  replace XLW := fun k h => XLW k (SB k h)
  clear SB
  replace E := Ext.refl (No) w2
  replace HF := HF.and (Per.blkN Bb1 NotIn.nil)
  clear Bb1
  refine rs_op rfl (ow_boxB rfl ?_)
  intro gb3 w4 Bb3 Eb3 Gb3
  have Gb3 : _ ≤ gb3 := Nat.le_trans E.size Gb3
  have GLb3 := Nat.le_trans LW.size Gb3
  replace E := E.trans Eb3.no
  clear Eb3
  replace HF := HF.cons (some_ge Gb3)
  replace E := E.cons (some gb3)
  replace XLW := Mut.grow XLW (fun k e => Or.inr (Nat.le_trans LW.size ((some_ge Gb3) k e)))
  replace HF := HF.on E
  replace LW := LW.step E XLW
  have SB : ∀ q9, No q9 → Mut [(some gb3)] q9 := (Mut.skip Mut.nil_)
  replace HF := HF.less SB
  replace XLW := fun k h => XLW k (SB k h)
  clear SB
  replace E := Ext.refl (No) w4
  replace HF := HF.and (Per.blkN Bb3 NotIn.nil)
  clear Bb3
  refine rs_op rfl (ow_assign rfl ?_)
  refine rs_nil ?_
  refine ew_next ?_
  refine cw_seq ?_
  refine cw_seq ?_
  refine cw_region ?_
  refine rs_op rfl (ow_enter en13 rfl ((known_any _).mono ?_))
  rintro e w5 ⟨rfl, hb⟩
  refine ⟨_, rfl, ?_⟩
  have XC : ∀ q9, (No) q9 → q9 < w4.heap.size := Mut.none_
  have SC := Nat.le_trans LW.size E.size
  have SE := E.size
  have Ec := Ext.of_below hb No
  replace E := E.trans Ec.no
  clear hb Ec
  refine rs_op rfl (ow_not rfl ?_)
  refine rs_nil ?_
  refine ew_next ?_
  refine cw_else rfl ?_
  refine cw_skip ?_
  refine ew_next ?_
  refine cw_seq ?_
  refine cw_region ?_
  refine rs_op rfl (ow_loadB Tryd.underlying24 rfl sz24 rfl (HF.on E).here.1.2 rfl ?_)
  refine rs_op rfl (ow_loadB Tryd.underlying24 rfl sz24 rfl (HF.on E).here.2 rfl ?_)
  refine rs_op rfl (ow_enter en38 rfl ((hpow _ (HF.on E).here.1.1.1.2 (HF.on E).here.1.1.2).mono ?_))
  rintro e w6 ⟨A1, c1, rfl, _, hb⟩
  refine ⟨_, rfl, ?_⟩
  have XC : ∀ q9, (No) q9 → q9 < w5.heap.size := Mut.none_
  have SC := Nat.le_trans LW.size E.size
  have SE := E.size
  have Ec := Ext.of_below hb No
  replace E := E.trans Ec.no
  clear hb Ec
  refine rs_op rfl (ow_move rfl ?_)
  refine rs_op rfl (ow_extract rfl rfl ?_)
  refine rs_op rfl (ow_extract rfl rfl ?_)
  refine rs_op rfl (ow_allocB zr24 ?_)
  intro gb7 w8 Bb7 Eb7 Gb7
  have Gb7 : _ ≤ gb7 := Nat.le_trans E.size Gb7
  have GLb7 := Nat.le_trans LW.size Gb7
  replace E := E.trans Eb7.no
  clear Eb7
  replace HF := HF.cons (some_ge Gb7)
  replace E := E.cons (some gb7)
  replace XLW := Mut.grow XLW (fun k e => Or.inr (Nat.le_trans LW.size ((some_ge Gb7) k e)))
  refine rs_op0 (ow_storeM sz24 rfl rfl Bb7 rfl rfl (Nat.le_of_ble_eq_true rfl) ?_)
  intro w9 Bx Eb7
  replace Bb7 := Bx
  clear Bx
  replace E := E.step1 Eb7 Mut.head
  clear Eb7
  replace HF := HF.on E
  replace LW := LW.step E XLW
  have SB : ∀ q9, No q9 → Mut [(some gb7)] q9 := (Mut.skip Mut.nil_)
  replace HF := HF.less SB
  replace XLW := fun k h => XLW k (SB k h)
  clear SB
  replace E := Ext.refl (No) w9
  replace HF := HF.and (Per.blkN Bb7 NotIn.nil)
  clear Bb7
  refine rs_op rfl (ow_assign rfl ?_)
  refine rs_nil ?_
  refine ew_next ?_
  refine cw_seq ?_
  refine cw_region ?_
  refine rs_op rfl (ow_loadB Tryd.underlying24 rfl sz24 rfl (HF.on E).here.1.1.2 rfl ?_)
  refine rs_op rfl (ow_loadB Tryd.underlying24 rfl sz24 rfl (HF.on E).here.1.2 rfl ?_)
  refine rs_op rfl (ow_enter en15 rfl ((hform _ (HF.on E).here.1.1.1.1.2 (HF.on E).here.1.1.1.2).mono ?_))
  rintro e w10 ⟨rfl, hb⟩
  refine ⟨_, rfl, ?_⟩
  have XC : ∀ q9, (No) q9 → q9 < w9.heap.size := Mut.none_
  have SC := Nat.le_trans LW.size E.size
  have SE := E.size
  have Ec := Ext.of_below hb No
  replace E := E.trans Ec.no
  clear hb Ec
  refine rs_op rfl (ow_assign rfl ?_)
  refine rs_nil ?_
  refine ew_next ?_
  refine cw_seq ?_
  refine cw_seq ?_
  refine cw_region ?_
  refine rs_op rfl (ow_move rfl ?_)
  refine rs_op rfl (ow_neq rfl rfl ?_)
  refine rs_nil ?_
  refine ew_next ?_
  refine cw_then rfl ?_
  refine cw_seq ?_
  refine cw_region ?_
  refine rs_op rfl (ow_loadB Tryd.underlying24 rfl sz24 rfl (HF.on E).here.2 rfl ?_)
  refine rs_op rfl (ow_move rfl ?_)
  refine rs_op rfl (ow_build (cs := #[.bool false, .slice none 0 0]) pl33 zr33 rfl rfl ?_)
  refine rs_op rfl (ow_move rfl ?_)
  refine rs_op rfl (ow_enter en16 rfl ((is_err A1 none c1 0 false 0 3 _ (by simp)).mono ?_))
  rintro e w11 ⟨rfl, hb⟩
  refine ⟨_, rfl, ?_⟩
  have XC : ∀ q9, (No) q9 → q9 < w10.heap.size := Mut.none_
  have SC := Nat.le_trans LW.size E.size
  have SE := E.size
  have Ec := Ext.of_below hb No
  replace E := E.trans Ec.no
  clear hb Ec
  refine rs_op rfl (ow_assign rfl ?_)
  refine rs_nil ?_
  refine ew_next ?_
  refine cw_ret ?_
  refine ew_then_ret ?_
  refine ew_ret (rs := [.tmp 4]) (vs := [_]) rfl ⟨rfl, trivial⟩ ?_
  exact ⟨rfl, (LW.step E XLW).toBelow⟩
end
section
variable (i j : Int) (A B : Option Addr) (c d : Nat) (w : World) (hi : i.natAbs < B18 ^ 30) (hj : j.natAbs < B18 ^ 30) (hx : Nums w A (limbs i)) (hy : Nums w B (limbs j))
include hi hj hx hy
theorem powers_neg (h0 : j < 0) :
    Calls Tryd.prog 7 #[.agg #[.bool (decide (i < 0)), .slice A (limbs i).length c], .agg #[.bool (decide (j < 0)), .slice B (limbs j).length d]] w (LawTrue w) := by
  refine calls_cw Tryd.func7 rfl Tryd.ntmps7 rfl ?_
  have HF : Per No w (fun _ => True) := Per.true_
  have LW := Ext.refl (No) w
  have XLW : ∀ q9, (No) q9 → (No) q9 ∨ w.heap.size ≤ q9 := fun _ h => Or.inl h
  have E := Ext.refl No w
  replace HF := HF.on E
  replace LW := LW.step E XLW
  replace E := Ext.refl (No) w
  replace HF := HF.and (Per.nums0 hx)
  replace HF := HF.on E
  replace LW := LW.step E XLW
  replace E := Ext.refl (No) w
  replace HF := HF.and (Per.nums0 hy)
  refine cw_seq ?_
  refine cw_region ?_
  refine rs_op rfl (ow_boxB rfl ?_)
  intro gb1 w2 Bb1 Eb1 Gb1
  have Gb1 : _ ≤ gb1 := Nat.le_trans E.size Gb1
  have GLb1 := Nat.le_trans LW.size Gb1
  replace E := E.trans Eb1.no
  clear Eb1
  replace HF := HF.cons (some_ge Gb1)
  replace E := E.cons (some gb1)
  replace XLW := Mut.grow XLW (fun k e => Or.inr (Nat.le_trans LW.size ((some_ge Gb1) k e)))
  replace HF := HF.on E
  replace LW := LW.step E XLW
  have SB : ∀ q9, No q9 → Mut [(some gb1)] q9 := (Mut.skip Mut.nil_)
  replace HF := HF.less SB
  replace XLW := fun k h => XLW k (SB k h)
  clear SB
  replace E := Ext.refl (No) w2
  replace HF := HF.and (Per.blkN Bb1 NotIn.nil)
  clear Bb1
  refine rs_op rfl (ow_boxB rfl ?_)
  intro gb3 w4 Bb3 Eb3 Gb3
  have Gb3 : _ ≤ gb3 := Nat.le_trans E.size Gb3
  have GLb3 := Nat.le_trans LW.size Gb3
  replace E := E.trans Eb3.no
  clear Eb3
  replace HF := HF.cons (some_ge Gb3)
  replace E := E.cons (some gb3)
  replace XLW := Mut.grow XLW (fun k e => Or.inr (Nat.le_trans LW.size ((some_ge Gb3) k e)))
  replace HF := HF.on E
  replace LW := LW.step E XLW
  have SB : ∀ q9, No q9 → Mut [(some gb3)] q9 := (Mut.skip Mut.nil_)
  replace HF := HF.less SB
  replace XLW := fun k h => XLW k (SB k h)
  clear SB
  replace E := Ext.refl (No) w4
  replace HF := HF.and (Per.blkN Bb3 NotIn.nil)
  clear Bb3
  refine rs_op rfl (ow_assign rfl ?_)
  refine rs_nil ?_
  refine ew_next ?_
  refine cw_seq ?_
  refine cw_seq ?_
  refine cw_region ?_
  refine rs_op rfl (ow_enter en13 rfl ((known_any _).mono ?_))
  rintro e w5 ⟨rfl, hb⟩
  refine ⟨_, rfl, ?_⟩
  have XC : ∀ q9, (No) q9 → q9 < w4.heap.size := Mut.none_
  have SC := Nat.le_trans LW.size E.size
  have SE := E.size
  have Ec := Ext.of_below hb No
  replace E := E.trans Ec.no
  clear hb Ec
  refine rs_op rfl (ow_not rfl ?_)
  refine rs_nil ?_
  refine ew_next ?_
  refine cw_else rfl ?_
  refine cw_skip ?_
  refine ew_next ?_
  refine cw_seq ?_
  refine cw_region ?_
  refine rs_op rfl (ow_loadB Tryd.underlying24 rfl sz24 rfl (HF.on E).here.1.2 rfl ?_)
  refine rs_op rfl (ow_loadB Tryd.underlying24 rfl sz24 rfl (HF.on E).here.2 rfl ?_)
  refine rs_op rfl (ow_enter en38 rfl (((pow_neg i j A B c d _ hi hj (HF.on E).here.1.1.1.2 (HF.on E).here.1.1.2 h0).mono (fun _ _ h => retBigErr_nought h)).mono ?_))
  rintro e w6 ⟨A1, c1, rfl, _, hb⟩
  refine ⟨_, rfl, ?_⟩
  have XC : ∀ q9, (No) q9 → q9 < w5.heap.size := Mut.none_
  have SC := Nat.le_trans LW.size E.size
  have SE := E.size
  have Ec := Ext.of_below hb No
  replace E := E.trans Ec.no
  clear hb Ec
  refine rs_op rfl (ow_move rfl ?_)
  refine rs_op rfl (ow_extract rfl rfl ?_)
  refine rs_op rfl (ow_extract rfl rfl ?_)
  refine rs_op rfl (ow_allocB zr24 ?_)
  intro gb7 w8 Bb7 Eb7 Gb7
  have Gb7 : _ ≤ gb7 := Nat.le_trans E.size Gb7
  have GLb7 := Nat.le_trans LW.size Gb7
  replace E := E.trans Eb7.no
  clear Eb7
  replace HF := HF.cons (some_ge Gb7)
  replace E := E.cons (some gb7)
  replace XLW := Mut.grow XLW (fun k e => Or.inr (Nat.le_trans LW.size ((some_ge Gb7) k e)))
  refine rs_op0 (ow_storeM sz24 rfl rfl Bb7 rfl rfl (Nat.le_of_ble_eq_true rfl) ?_)
  intro w9 Bx Eb7
  replace Bb7 := Bx
  clear Bx
  replace E := E.step1 Eb7 Mut.head
  clear Eb7
  replace HF := HF.on E
  replace LW := LW.step E XLW
  have SB : ∀ q9, No q9 → Mut [(some gb7)] q9 := (Mut.skip Mut.nil_)
  replace HF := HF.less SB
  replace XLW := fun k h => XLW k (SB k h)
  clear SB
  replace E := Ext.refl (No) w9
  replace HF := HF.and (Per.blkN Bb7 NotIn.nil)
  clear Bb7
  refine rs_op rfl (ow_assign rfl ?_)
  refine rs_nil ?_
  refine ew_next ?_
  refine cw_seq ?_
  refine cw_region ?_
  refine rs_op rfl (ow_loadB Tryd.underlying24 rfl sz24 rfl (HF.on E).here.1.1.2 rfl ?_)
  refine rs_op rfl (ow_loadB Tryd.underlying24 rfl sz24 rfl (HF.on E).here.1.2 rfl ?_)
  refine rs_op rfl (ow_enter en15 rfl ((formI A B c d _ hi hj (HF.on E).here.1.1.1.1.2 (HF.on E).here.1.1.1.2).mono ?_))
  rintro e w10 ⟨rfl, hb⟩
  refine ⟨_, rfl, ?_⟩
  have XC : ∀ q9, (No) q9 → q9 < w9.heap.size := Mut.none_
  have SC := Nat.le_trans LW.size E.size
  have SE := E.size
  have Ec := Ext.of_below hb No
  replace E := E.trans Ec.no
  clear hb Ec
  refine rs_op rfl (ow_assign rfl ?_)
  refine rs_nil ?_
  refine ew_next ?_
  refine cw_seq ?_
  refine cw_seq ?_
  refine cw_region ?_
  refine rs_op rfl (ow_move rfl ?_)
  refine rs_op rfl (ow_neq rfl rfl ?_)
  refine rs_nil ?_
  refine ew_next ?_
  refine cw_else rfl ?_
  refine cw_skip ?_
  refine ew_next ?_
  refine cw_seq ?_
  have OY : ∀ q9, (Mut (outM [])) q9 → q9 < (World.drew w10).heap.size → (No) q9 := fun k h _ => (Mut.none_) k h
  refine cw_drawn (No) Mut.none_ [⟨8, 9, 33, #[.bool false, .slice none 0 0]⟩] [] (fxAt [Fx.of (.agg #[.bool (decide (i < 0)), .slice A (limbs i).length c]),
      ⟨(Option Addr × Nat), fun (A2, c2) => .agg #[.bool (decide (i < 0)), .slice A2 (tens i).length c2], fun (A2, c2) b => (Nums8 b A2 (tens i))⟩,
      Fx.of (.agg #[.bool (decide (j < 0)), .slice B (limbs j).length d]),
      ⟨(Option Addr × Nat), fun (A3, c3) => .agg #[.bool (decide (j < 0)), .slice A3 (tens j).length c3], fun (A3, c3) b => (Nums8 b A3 (tens j))⟩,
      ⟨(Option Addr × Nat), fun (A4, c4) => .tuple #[.agg #[.bool (decide ((0 : Int) < 0)), .slice A4 (tens 0).length c4], .int .i64 1], fun (A4, c4) b => (Nums8 b A4 (tens 0))⟩,
      ⟨(Option Addr × Nat), fun (A4, c4) => .tuple #[.agg #[.bool (decide ((0 : Int) < 0)), .slice A4 (tens 0).length c4], .int .i64 1], fun (A4, c4) b => (Nums8 b A4 (tens 0))⟩,
      ⟨(Option Addr × Nat), fun (A4, c4) => .agg #[.bool (decide ((0 : Int) < 0)), .slice A4 (tens 0).length c4], fun (A4, c4) b => (Nums8 b A4 (tens 0))⟩,
      Fx.of (.int .i64 1),
      Fx.of undef,
      Fx.of undef,
      Fx.of (.int .i64 1)]) mixed rfl trivial (fun _ h => by cases h) ?_ ?_
  · refine ⟨?_, ?_, ?_, ?_, ?_, ?_, ?_, ?_, ?_, ?_, ?_, trivial⟩
    · intro vs X wq K
      have LE := K.1
      have XN := K.2.1
      have SQ := Nat.le_trans LW.size (Nat.le_trans E.size LE.size)
      exact ow_loadB Tryd.underlying24 rfl sz24 rfl (HF.on (E.drew.trans (LE.mono OY))).here.1.1.2 rfl ⟨Below.refl _ _, Left.of rfl⟩
    · intro vs X wq K
      have LE := K.1
      have XN := K.2.1
      have SQ := Nat.le_trans LW.size (Nat.le_trans E.size LE.size)
      obtain ⟨_, e0, k0⟩ := K.dep 0 rfl rfl rfl
      refine ow_set 28 (.agg #[.bool (decide (i < 0)), .slice A (limbs i).length c]) rfl e0 ?_
      refine ow_enter en18 rfl ((rofI A c _ hi (HF.on (E.drew.trans (LE.mono OY))).here.1.1.1.1.2).mono ?_)
      rintro e w2 ⟨A2, c2, rfl, o2, hb⟩
      exact ⟨_, rfl, hb, ⟨(A2, c2), rfl, Per.own8X o2 XN⟩⟩
    · intro vs X wq K
      have LE := K.1
      have XN := K.2.1
      have SQ := Nat.le_trans LW.size (Nat.le_trans E.size LE.size)
      exact ow_loadB Tryd.underlying24 rfl sz24 rfl (HF.on (E.drew.trans (LE.mono OY))).here.1.2 rfl ⟨Below.refl _ _, Left.of rfl⟩
    · intro vs X wq K
      have LE := K.1
      have XN := K.2.1
      have SQ := Nat.le_trans LW.size (Nat.le_trans E.size LE.size)
      obtain ⟨_, e2, k2⟩ := K.dep 2 rfl rfl rfl
      refine ow_set 30 (.agg #[.bool (decide (j < 0)), .slice B (limbs j).length d]) rfl e2 ?_
      refine ow_enter en18 rfl ((rofI B d _ hj (HF.on (E.drew.trans (LE.mono OY))).here.1.1.1.2).mono ?_)
      rintro e w2 ⟨A3, c3, rfl, o3, hb⟩
      exact ⟨_, rfl, hb, ⟨(A3, c3), rfl, Per.own8X o3 XN⟩⟩
    · intro vs X wq K
      have LE := K.1
      have XN := K.2.1
      have SQ := Nat.le_trans LW.size (Nat.le_trans E.size LE.size)
      obtain ⟨⟨A2, c2⟩, e1, k1⟩ := K.dep 1 rfl rfl rfl
      refine ow_set 29 (.agg #[.bool (decide (i < 0)), .slice A2 (tens i).length c2]) rfl e1 ?_
      obtain ⟨⟨A3, c3⟩, e3, k3⟩ := K.dep 3 rfl rfl rfl
      refine ow_set 31 (.agg #[.bool (decide (j < 0)), .slice A3 (tens j).length c3]) rfl e3 ?_
      refine ow_enter en39 rfl ((rpow_neg i j A2 A3 c2 c3 _ hi hj k1.here k3.here h0).mono ?_)
      rintro e w2 ⟨A4, c4, rfl, o4, p4, hb⟩
      exact ⟨_, rfl, hb, ⟨(A4, c4), rfl, per_pow o4 p4 XN (k1.map (fun _ h => h)) hb⟩⟩
    · intro vs X wq K
      have LE := K.1
      have XN := K.2.1
      have SQ := Nat.le_trans LW.size (Nat.le_trans E.size LE.size)
      obtain ⟨⟨A4, c4⟩, e4, k4⟩ := K.dep 4 rfl rfl rfl
      refine ow_set 32 (.tuple #[.agg #[.bool (decide ((0 : Int) < 0)), .slice A4 (tens 0).length c4], .int .i64 1]) rfl e4 ?_
      exact ow_move rfl ⟨Below.refl _ _, ⟨⟨A4, c4⟩, rfl, (k4.map (fun _ h => h))⟩⟩
    · intro vs X wq K
      have LE := K.1
      have XN := K.2.1
      have SQ := Nat.le_trans LW.size (Nat.le_trans E.size LE.size)
      obtain ⟨⟨A4, c4⟩, e5, k5⟩ := K.dep 5 rfl rfl rfl
      refine ow_set 27 (.tuple #[.agg #[.bool (decide ((0 : Int) < 0)), .slice A4 (tens 0).length c4], .int .i64 1]) rfl e5 ?_
      exact ow_extract rfl rfl ⟨Below.refl _ _, ⟨⟨A4, c4⟩, rfl, (k5.map (fun _ h => h))⟩⟩
    · intro vs X wq K
      have LE := K.1
      have XN := K.2.1
      have SQ := Nat.le_trans LW.size (Nat.le_trans E.size LE.size)
      obtain ⟨⟨A4, c4⟩, e5, k5⟩ := K.dep 5 rfl rfl rfl
      refine ow_set 27 (.tuple #[.agg #[.bool (decide ((0 : Int) < 0)), .slice A4 (tens 0).length c4], .int .i64 1]) rfl e5 ?_
      exact ow_extract rfl rfl ⟨Below.refl _ _, Left.of rfl⟩
    · exact ⟨_, _, _, _, _, rfl, zr33, rfl⟩
    · refine ⟨_, _, _, _, _, rfl, rfl, rfl, sz33, fun vs X wq K => ?_⟩
      obtain ⟨⟨A4, c4⟩, e0, _⟩ := K.dep 6 rfl rfl rfl
      exact ⟨vs 6, rfl, by rw [e0]; rfl, by rw [e0]; rfl⟩
    · intro vs X wq K
      have LE := K.1
      have XN := K.2.1
      have SQ := Nat.le_trans LW.size (Nat.le_trans E.size LE.size)
      obtain ⟨_, e7, k7⟩ := K.dep 7 rfl rfl rfl
      refine ow_set 34 (.int .i64 1) rfl e7 ?_
      exact ow_assign rfl ⟨Below.refl _ _, Left.of rfl⟩
  intro vs w11 LE AO AL AF AA
  replace E := E.drew.trans (LE.mono OY)
  obtain ⟨⟨A4, c4⟩, e6, k6⟩ := AL.2.2.2.2.2.2.1
  obtain ⟨_, e10, k10⟩ := AL.2.2.2.2.2.2.2.2.2.2.1
  replace HF := HF.on E
  replace LW := LW.step E XLW
  replace E := Ext.refl (No) w11
  replace HF := HF.and ((k6.map (fun _ h => h) : Per (No) w11 (fun b => Nums8 b A4 (tens 0))))
  obtain ⟨gb12, v0, y0, qb12, Gb12, Bb12, ey, ev0⟩ := AF.1
  cases ey
  obtain rfl : vs 6 = v0 := Option.some.inj ev0
  rw [e6] at Bb12
  replace HF := HF.on E
  replace LW := LW.step E XLW
  replace E := Ext.refl (No) w11
  replace HF := HF.and ((Per.blkN Bb12 NotIn.nil : Per (No) w11 (fun b => Blk b gb12 33 #[.bool (decide ((0 : Int) < 0)), .slice A4 (tens 0).length c4])))
  clear Bb12
  have e8 := qb12
  refine ew_sub (τ := [(4, _), (5, _), (6, _), (7, .int .i64 1), (8, .pointer (some ⟨gb12, 0, none⟩))]) ⟨rfl, rfl, rfl, congrArg some e10, congrArg some e8, trivial⟩ ?_
  clear AL AF AA LE AO OY e6 e10 e8 k6 k10
  refine ew_next ?_
  refine cw_seq ?_
  refine cw_region ?_
  refine rs_op rfl (ow_loadB Tryd.underlying24 rfl sz24 rfl (HF.on E).here.1.1.2 rfl ?_)
  refine rs_op rfl (ow_move rfl ?_)
  refine rs_op rfl (ow_loadB Tryd.underlying33 rfl sz33 rfl (HF.on E).here.2 rfl ?_)
  refine rs_op rfl (ow_move rfl ?_)
  refine rs_op rfl (ow_enter en16 rfl ((is_err A1 A4 c1 c4 _ _ 1 _ (by simp)).mono ?_))
  rintro e w13 ⟨rfl, hb⟩
  refine ⟨_, rfl, ?_⟩
  have XC : ∀ q9, (No) q9 → q9 < w11.heap.size := Mut.none_
  have SC := Nat.le_trans LW.size E.size
  have SE := E.size
  have Ec := Ext.of_below hb No
  replace E := E.trans Ec.no
  clear hb Ec
  refine rs_op rfl (ow_assign rfl ?_)
  refine rs_nil ?_
  refine ew_next ?_
  refine cw_ret ?_
  refine ew_ret (rs := [.tmp 4]) (vs := [_]) rfl ⟨rfl, trivial⟩ ?_
  exact ⟨rfl, (LW.step E XLW).toBelow⟩
theorem powers_pos (h0 : 0 ≤ j) :
    Calls Tryd.prog 7 #[.agg #[.bool (decide (i < 0)), .slice A (limbs i).length c], .agg #[.bool (decide (j < 0)), .slice B (limbs j).length d]] w (LawTrue w) := by
  obtain ⟨v, hv⟩ : ∃ v, v = i ^ j.toNat := ⟨_, rfl⟩
  have hpow := fun A B c d w hx hy => powI i j A B c d w hi hj hx hy h0
  have hrpow := fun A B c d w hx hy => rpowI i j A B c d w hi hj hx hy h0
  rw [← hv] at hpow hrpow
  refine calls_cw Tryd.func7 rfl Tryd.ntmps7 rfl ?_
  have HF : Per No w (fun _ => True) := Per.true_
  have LW := Ext.refl (No) w
  have XLW : ∀ q9, (No) q9 → (No) q9 ∨ w.heap.size ≤ q9 := fun _ h => Or.inl h
  have E := Ext.refl No w
  replace HF := HF.on E
  replace LW := LW.step E XLW
  replace E := Ext.refl (No) w
  replace HF := HF.and (Per.nums0 hx)
  replace HF := HF.on E
  replace LW := LW.step E XLW
  replace E := Ext.refl (No) w
  replace HF := HF.and (Per.nums0 hy)
  refine cw_seq ?_
  refine cw_region ?_
  refine rs_op rfl (ow_boxB rfl ?_)
  intro gb1 w2 Bb1 Eb1 Gb1
  have Gb1 : _ ≤ gb1 := Nat.le_trans E.size Gb1
  have GLb1 := Nat.le_trans LW.size Gb1
  replace E := E.trans Eb1.no
  clear Eb1
  replace HF := HF.cons (some_ge Gb1)
  replace E := E.cons (some gb1)
  replace XLW := Mut.grow XLW (fun k e => Or.inr (Nat.le_trans LW.size ((some_ge Gb1) k e)))
  replace HF := HF.on E
  replace LW := LW.step E XLW
  have SB : ∀ q9, No q9 → Mut [(some gb1)] q9 := (Mut.skip Mut.nil_)
  replace HF := HF.less SB
  replace XLW := fun k h => XLW k (SB k h)
  clear SB
  replace E := Ext.refl (No) w2
  replace HF := HF.and (Per.blkN Bb1 NotIn.nil)
  clear Bb1
  refine rs_op rfl (ow_boxB rfl ?_)
  intro gb3 w4 Bb3 Eb3 Gb3
  have Gb3 : _ ≤ gb3 := Nat.le_trans E.size Gb3
  have GLb3 := Nat.le_trans LW.size Gb3
  replace E := E.trans Eb3.no
  clear Eb3
  replace HF := HF.cons (some_ge Gb3)
  replace E := E.cons (some gb3)
  replace XLW := Mut.grow XLW (fun k e => Or.inr (Nat.le_trans LW.size ((some_ge Gb3) k e)))
  replace HF := HF.on E
  replace LW := LW.step E XLW
  have SB : ∀ q9, No q9 → Mut [(some gb3)] q9 := (Mut.skip Mut.nil_)
  replace HF := HF.less SB
  replace XLW := fun k h => XLW k (SB k h)
  clear SB
  replace E := Ext.refl (No) w4
  replace HF := HF.and (Per.blkN Bb3 NotIn.nil)
  clear Bb3
  refine rs_op rfl (ow_assign rfl ?_)
  refine rs_nil ?_
  refine ew_next ?_
  refine cw_seq ?_
  refine cw_seq ?_
  refine cw_region ?_
  refine rs_op rfl (ow_enter en13 rfl ((known_any _).mono ?_))
  rintro e w5 ⟨rfl, hb⟩
  refine ⟨_, rfl, ?_⟩
  have XC : ∀ q9, (No) q9 → q9 < w4.heap.size := Mut.none_
  have SC := Nat.le_trans LW.size E.size
  have SE := E.size
  have Ec := Ext.of_below hb No
  replace E := E.trans Ec.no
  clear hb Ec
  refine rs_op rfl (ow_not rfl ?_)
  refine rs_nil ?_
  refine ew_next ?_
  refine cw_else rfl ?_
  refine cw_skip ?_
  refine ew_next ?_
  refine cw_seq ?_
  refine cw_region ?_
  refine rs_op rfl (ow_loadB Tryd.underlying24 rfl sz24 rfl (HF.on E).here.1.2 rfl ?_)
  refine rs_op rfl (ow_loadB Tryd.underlying24 rfl sz24 rfl (HF.on E).here.2 rfl ?_)
  refine rs_op rfl (ow_enter en38 rfl ((hpow A B c d _ (HF.on E).here.1.1.1.2 (HF.on E).here.1.1.2).mono ?_))
  rintro e w6 ⟨A1, c1, rfl, o1, hb⟩
  refine ⟨_, rfl, ?_⟩
  have XC : ∀ q9, (No) q9 → q9 < w5.heap.size := Mut.none_
  have SC := Nat.le_trans LW.size E.size
  have SE := E.size
  have Ec := Ext.of_below hb No
  replace E := E.trans Ec.no
  clear hb Ec
  replace HF := HF.on E
  replace LW := LW.step E XLW
  replace E := Ext.refl (No) w6
  replace HF := HF.and (Per.nums0 o1.nums)
  refine rs_op rfl (ow_move rfl ?_)
  refine rs_op rfl (ow_extract rfl rfl ?_)
  refine rs_op rfl (ow_extract rfl rfl ?_)
  refine rs_op rfl (ow_allocB zr24 ?_)
  intro gb7 w8 Bb7 Eb7 Gb7
  have Gb7 : _ ≤ gb7 := Nat.le_trans E.size Gb7
  have GLb7 := Nat.le_trans LW.size Gb7
  replace E := E.trans Eb7.no
  clear Eb7
  replace HF := HF.cons (some_ge Gb7)
  replace E := E.cons (some gb7)
  replace XLW := Mut.grow XLW (fun k e => Or.inr (Nat.le_trans LW.size ((some_ge Gb7) k e)))
  refine rs_op0 (ow_storeM sz24 rfl rfl Bb7 rfl rfl (Nat.le_of_ble_eq_true rfl) ?_)
  intro w9 Bx Eb7
  replace Bb7 := Bx
  clear Bx
  replace E := E.step1 Eb7 Mut.head
  clear Eb7
  replace HF := HF.on E
  replace LW := LW.step E XLW
  have SB : ∀ q9, No q9 → Mut [(some gb7)] q9 := (Mut.skip Mut.nil_)
  replace HF := HF.less SB
  replace XLW := fun k h => XLW k (SB k h)
  clear SB
  replace E := Ext.refl (No) w9
  replace HF := HF.and (Per.blkN Bb7 NotIn.nil)
  clear Bb7
  refine rs_op rfl (ow_assign rfl ?_)
  refine rs_nil ?_
  refine ew_next ?_
  refine cw_seq ?_
  refine cw_region ?_
  refine rs_op rfl (ow_loadB Tryd.underlying24 rfl sz24 rfl (HF.on E).here.1.1.1.2 rfl ?_)
  refine rs_op rfl (ow_loadB Tryd.underlying24 rfl sz24 rfl (HF.on E).here.1.1.2 rfl ?_)
  refine rs_op rfl (ow_enter en15 rfl ((formI A B c d _ hi hj (HF.on E).here.1.1.1.1.1.2 (HF.on E).here.1.1.1.1.2).mono ?_))
  rintro e w10 ⟨rfl, hb⟩
  refine ⟨_, rfl, ?_⟩
  have XC : ∀ q9, (No) q9 → q9 < w9.heap.size := Mut.none_
  have SC := Nat.le_trans LW.size E.size
  have SE := E.size
  have Ec := Ext.of_below hb No
  replace E := E.trans Ec.no
  clear hb Ec
  refine rs_op rfl (ow_assign rfl ?_)
  refine rs_nil ?_
  refine ew_next ?_
  refine cw_seq ?_
  refine cw_seq ?_
  refine cw_region ?_
  refine rs_op rfl (ow_move rfl ?_)
  refine rs_op rfl (ow_neq rfl rfl ?_)
  refine rs_nil ?_
  refine ew_next ?_
  refine cw_else rfl ?_
  refine cw_skip ?_
  refine ew_next ?_
  refine cw_seq ?_
  have OY : ∀ q9, (Mut (outM [])) q9 → q9 < (World.drew w10).heap.size → (No) q9 := fun k h _ => (Mut.none_) k h
  refine cw_drawn (No) Mut.none_ [⟨8, 9, 33, #[.bool false, .slice none 0 0]⟩] [] (fxAt [Fx.of (.agg #[.bool (decide (i < 0)), .slice A (limbs i).length c]),
      ⟨(Option Addr × Nat), fun (A2, c2) => .agg #[.bool (decide (i < 0)), .slice A2 (tens i).length c2], fun (A2, c2) b => (Nums8 b A2 (tens i))⟩,
      Fx.of (.agg #[.bool (decide (j < 0)), .slice B (limbs j).length d]),
      ⟨(Option Addr × Nat), fun (A3, c3) => .agg #[.bool (decide (j < 0)), .slice A3 (tens j).length c3], fun (A3, c3) b => (Nums8 b A3 (tens j))⟩,
      ⟨(Option Addr × Nat), fun (A4, c4) => .tuple #[.agg #[.bool (decide (outV true v < 0)), .slice A4 (tens (outV true v)).length c4], .int .i64 (outE true v)], fun (A4, c4) b => (Nums8 b A4 (tens (outV true v)))⟩,
      ⟨(Option Addr × Nat), fun (A4, c4) => .tuple #[.agg #[.bool (decide (outV true v < 0)), .slice A4 (tens (outV true v)).length c4], .int .i64 (outE true v)], fun (A4, c4) b => (Nums8 b A4 (tens (outV true v)))⟩,
      ⟨(Option Addr × Nat), fun (A4, c4) => .agg #[.bool (decide (outV true v < 0)), .slice A4 (tens (outV true v)).length c4], fun (A4, c4) b => (Nums8 b A4 (tens (outV true v)))⟩,
      Fx.of (.int .i64 (outE true v)),
      Fx.of undef,
      Fx.of undef,
      Fx.of (.int .i64 (outE true v))]) mixed rfl trivial (fun _ h => by cases h) ?_ ?_
  · refine ⟨?_, ?_, ?_, ?_, ?_, ?_, ?_, ?_, ?_, ?_, ?_, trivial⟩
    · intro vs X wq K
      have LE := K.1
      have XN := K.2.1
      have SQ := Nat.le_trans LW.size (Nat.le_trans E.size LE.size)
      exact ow_loadB Tryd.underlying24 rfl sz24 rfl (HF.on (E.drew.trans (LE.mono OY))).here.1.1.1.2 rfl ⟨Below.refl _ _, Left.of rfl⟩
    · intro vs X wq K
      have LE := K.1
      have XN := K.2.1
      have SQ := Nat.le_trans LW.size (Nat.le_trans E.size LE.size)
      obtain ⟨_, e0, k0⟩ := K.dep 0 rfl rfl rfl
      refine ow_set 28 (.agg #[.bool (decide (i < 0)), .slice A (limbs i).length c]) rfl e0 ?_
      refine ow_enter en18 rfl ((rofI A c _ hi (HF.on (E.drew.trans (LE.mono OY))).here.1.1.1.1.1.2).mono ?_)
      rintro e w2 ⟨A2, c2, rfl, o2, hb⟩
      exact ⟨_, rfl, hb, ⟨(A2, c2), rfl, Per.own8X o2 XN⟩⟩
    · intro vs X wq K
      have LE := K.1
      have XN := K.2.1
      have SQ := Nat.le_trans LW.size (Nat.le_trans E.size LE.size)
      exact ow_loadB Tryd.underlying24 rfl sz24 rfl (HF.on (E.drew.trans (LE.mono OY))).here.1.1.2 rfl ⟨Below.refl _ _, Left.of rfl⟩
    · intro vs X wq K
      have LE := K.1
      have XN := K.2.1
      have SQ := Nat.le_trans LW.size (Nat.le_trans E.size LE.size)
      obtain ⟨_, e2, k2⟩ := K.dep 2 rfl rfl rfl
      refine ow_set 30 (.agg #[.bool (decide (j < 0)), .slice B (limbs j).length d]) rfl e2 ?_
      refine ow_enter en18 rfl ((rofI B d _ hj (HF.on (E.drew.trans (LE.mono OY))).here.1.1.1.1.2).mono ?_)
      rintro e w2 ⟨A3, c3, rfl, o3, hb⟩
      exact ⟨_, rfl, hb, ⟨(A3, c3), rfl, Per.own8X o3 XN⟩⟩
    · intro vs X wq K
      have LE := K.1
      have XN := K.2.1
      have SQ := Nat.le_trans LW.size (Nat.le_trans E.size LE.size)
      obtain ⟨⟨A2, c2⟩, e1, k1⟩ := K.dep 1 rfl rfl rfl
      refine ow_set 29 (.agg #[.bool (decide (i < 0)), .slice A2 (tens i).length c2]) rfl e1 ?_
      obtain ⟨⟨A3, c3⟩, e3, k3⟩ := K.dep 3 rfl rfl rfl
      refine ow_set 31 (.agg #[.bool (decide (j < 0)), .slice A3 (tens j).length c3]) rfl e3 ?_
      refine ow_enter en39 rfl ((hrpow A2 A3 c2 c3 _ k1.here k3.here).mono ?_)
      rintro e w2 ⟨A4, c4, rfl, o4, p4, hb⟩
      exact ⟨_, rfl, hb, ⟨(A4, c4), rfl, per_pow o4 p4 XN (k1.map (fun _ h => h)) hb⟩⟩
    · intro vs X wq K
      have LE := K.1
      have XN := K.2.1
      have SQ := Nat.le_trans LW.size (Nat.le_trans E.size LE.size)
      obtain ⟨⟨A4, c4⟩, e4, k4⟩ := K.dep 4 rfl rfl rfl
      refine ow_set 32 (.tuple #[.agg #[.bool (decide (outV true v < 0)), .slice A4 (tens (outV true v)).length c4], .int .i64 (outE true v)]) rfl e4 ?_
      exact ow_move rfl ⟨Below.refl _ _, ⟨⟨A4, c4⟩, rfl, (k4.map (fun _ h => h))⟩⟩
    · intro vs X wq K
      have LE := K.1
      have XN := K.2.1
      have SQ := Nat.le_trans LW.size (Nat.le_trans E.size LE.size)
      obtain ⟨⟨A4, c4⟩, e5, k5⟩ := K.dep 5 rfl rfl rfl
      refine ow_set 27 (.tuple #[.agg #[.bool (decide (outV true v < 0)), .slice A4 (tens (outV true v)).length c4], .int .i64 (outE true v)]) rfl e5 ?_
      exact ow_extract rfl rfl ⟨Below.refl _ _, ⟨⟨A4, c4⟩, rfl, (k5.map (fun _ h => h))⟩⟩
    · intro vs X wq K
      have LE := K.1
      have XN := K.2.1
      have SQ := Nat.le_trans LW.size (Nat.le_trans E.size LE.size)
      obtain ⟨⟨A4, c4⟩, e5, k5⟩ := K.dep 5 rfl rfl rfl
      refine ow_set 27 (.tuple #[.agg #[.bool (decide (outV true v < 0)), .slice A4 (tens (outV true v)).length c4], .int .i64 (outE true v)]) rfl e5 ?_
      exact ow_extract rfl rfl ⟨Below.refl _ _, Left.of rfl⟩
    · exact ⟨_, _, _, _, _, rfl, zr33, rfl⟩
    · refine ⟨_, _, _, _, _, rfl, rfl, rfl, sz33, fun vs X wq K => ?_⟩
      obtain ⟨⟨A4, c4⟩, e0, _⟩ := K.dep 6 rfl rfl rfl
      exact ⟨vs 6, rfl, by rw [e0]; rfl, by rw [e0]; rfl⟩
    · intro vs X wq K
      have LE := K.1
      have XN := K.2.1
      have SQ := Nat.le_trans LW.size (Nat.le_trans E.size LE.size)
      obtain ⟨_, e7, k7⟩ := K.dep 7 rfl rfl rfl
      refine ow_set 34 (.int .i64 (outE true v)) rfl e7 ?_
      exact ow_assign rfl ⟨Below.refl _ _, Left.of rfl⟩
  intro vs w11 LE AO AL AF AA
  replace E := E.drew.trans (LE.mono OY)
  obtain ⟨⟨A4, c4⟩, e6, k6⟩ := AL.2.2.2.2.2.2.1
  obtain ⟨_, e10, k10⟩ := AL.2.2.2.2.2.2.2.2.2.2.1
  replace HF := HF.on E
  replace LW := LW.step E XLW
  replace E := Ext.refl (No) w11
  replace HF := HF.and ((k6.map (fun _ h => h) : Per (No) w11 (fun b => Nums8 b A4 (tens (outV true v)))))
  obtain ⟨gb12, v0, y0, qb12, Gb12, Bb12, ey, ev0⟩ := AF.1
  cases ey
  obtain rfl : vs 6 = v0 := Option.some.inj ev0
  rw [e6] at Bb12
  replace HF := HF.on E
  replace LW := LW.step E XLW
  replace E := Ext.refl (No) w11
  replace HF := HF.and ((Per.blkN Bb12 NotIn.nil : Per (No) w11 (fun b => Blk b gb12 33 #[.bool (decide (outV true v < 0)), .slice A4 (tens (outV true v)).length c4])))
  clear Bb12
  have e8 := qb12
  refine ew_sub (τ := [(4, _), (5, _), (6, _), (7, .int .i64 (outE true v)), (8, .pointer (some ⟨gb12, 0, none⟩))]) ⟨rfl, rfl, rfl, congrArg some e10, congrArg some e8, trivial⟩ ?_
  clear AL AF AA LE AO OY e6 e10 e8 k6 k10
  refine ew_next ?_
  refine cw_seq ?_
  refine cw_region ?_
  refine rs_op rfl (ow_loadB Tryd.underlying24 rfl sz24 rfl (HF.on E).here.1.1.2 rfl ?_)
  refine rs_op rfl (ow_move rfl ?_)
  refine rs_op rfl (ow_loadB Tryd.underlying33 rfl sz33 rfl (HF.on E).here.2 rfl ?_)
  refine rs_op rfl (ow_move rfl ?_)
  refine rs_op rfl (ow_enter en16 rfl ((is_outO A1 A4 c1 c4 v _ (HF.on E).here.1.1.1.2 (HF.on E).here.1.2).mono ?_))
  rintro e w13 ⟨rfl, hb⟩
  refine ⟨_, rfl, ?_⟩
  have XC : ∀ q9, (No) q9 → q9 < w11.heap.size := Mut.none_
  have SC := Nat.le_trans LW.size E.size
  have SE := E.size
  have Ec := Ext.of_below hb No
  replace E := E.trans Ec.no
  clear hb Ec
  refine rs_op rfl (ow_assign rfl ?_)
  refine rs_nil ?_
  refine ew_next ?_
  refine cw_ret ?_
  refine ew_ret (rs := [.tmp 4]) (vs := [_]) rfl ⟨rfl, trivial⟩ ?_
  exact ⟨rfl, (LW.step E XLW).toBelow⟩
end
/-- WholePowers answers true at every two numbers. -/
theorem powers_law (n1 : Bool) (A : Option Addr) (c : Nat) (xs : List Nat) (n2 : Bool) (B : Option Addr) (d : Nat) (ys : List Nat) (w : World) (hx : Nums w A xs) (hl : xs.length ≤ 9223372036854775807) (hy : Nums w B ys) (hl' : ys.length ≤ 9223372036854775807) :
    Calls Tryd.prog 7 #[.agg #[.bool n1, .slice A xs.length c], .agg #[.bool n2, .slice B ys.length d]] w fun e w' => e = .returned (.bool true) ∧ Below w.heap.size w w' := by
  cases hok : (goodB n1 xs && goodB n2 ys)
  · exact powers_bad n1 n2 A B c d xs ys w hx hy hl hl' hok
  · obtain ⟨hg, hk⟩ := Bool.and_eq_true_iff.1 hok
    obtain ⟨i, rfl, rfl, hi⟩ := good_is hg
    obtain ⟨j, rfl, rfl, hj⟩ := good_is hk
    rcases Int.lt_or_le j 0 with h0 | h0
    · exact powers_neg i j A B c d w hi hj hx hy h0
    · exact powers_pos i j A B c d w hi hj hx hy h0
end Go.Proofs.YteggjfmcpodepaaDoor

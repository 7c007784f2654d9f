/- The walk of screeref02.Pow. -/
import Derived.Test.YteggjfmcpodepaaDoorWPow
import Derived.Test.YteggjfmcpodepaaDoorRTimes
import Derived.Test.YteggjfmcpodepaaDoorRSmall
namespace Go.Proofs.YteggjfmcpodepaaDoor
open Go.RowKit
set_option maxRecDepth 100000
theorem Per.nums8N {X : Nat → Prop} {w : World} {A : Option Addr} {xs : List Nat} (h : Nums8 w A xs) (hx : ∀ q, A = some q → ¬ X q.block) : Per X w (fun b => Nums8 b A xs) := fun b hb =>
  ⟨h.1, fun h0 => by
    obtain ⟨g, o, rfl, hg, hc⟩ := h.2 h0
    exact ⟨g, o, rfl, Nat.lt_of_lt_of_le hg hb.size, fun k hk => (hb.cell (p := ⟨g, o + k, none⟩) hg (hx ⟨g, o, none⟩ rfl)).trans (hc k hk)⟩⟩
theorem Per.nums80 {w : World} {A : Option Addr} {xs : List Nat} (h : Nums8 w A xs) : Per No w (fun b => Nums8 b A xs) := Per.nums8N h (fun _ _ => id)
theorem Per.own8X {X : Nat → Prop} {w : World} {base c : Nat} {A : Option Addr} {xs : List Nat} (h : Own8 w base A c xs) (hx : ∀ k, X k → k < base) : Per X w (fun b => Nums8 b A xs) := Per.nums8N h.nums (fun q hq e => by have := hx _ e; have := (h.ge q hq).1; omega)
/-- What a power leaves: a number in digits, new or the first argument's own, and an error's number. -/
def RetNumE (W : World) (A0 : Option Addr) (xs0 : List Nat) (v f : Int) (e : Ending) (w' : World) : Prop := ∃ A c, e = .returned (.tuple #[.agg #[.bool (decide (v < 0)), .slice A (tens v).length c], .int .i64 f]) ∧ Nums8 w' A (tens v) ∧ ((∀ q, A = some q → W.heap.size ≤ q.block) ∨ (A = A0 ∧ tens v = xs0)) ∧ Below W.heap.size W w'
theorem per_pow {X : Nat → Prop} {W w' : World} {A0 A : Option Addr} {xs0 : List Nat} {v : Int} (o : Nums8 w' A (tens v)) (p : (∀ q, A = some q → W.heap.size ≤ q.block) ∨ (A = A0 ∧ tens v = xs0)) (hX : ∀ k, X k → k < W.heap.size) (k : Per X W (fun b => Nums8 b A0 xs0)) (hb : Below W.heap.size W w') : Per X w' (fun b => Nums8 b A (tens v)) := by
  rcases p with p | ⟨rfl, e⟩
  · exact Per.nums8N o (fun q hq h => by have h1 := p q hq; have h2 := hX _ h; omega)
  · rw [e]; exact k.on (Ext.of_below hb X)
theorem nums8_nil (w : World) (A : Option Addr) : Nums8 w A [] := ⟨fun k => by rw [nth_nil]; decide, fun h => absurd h (by decide)⟩
theorem nums8_one {w : World} {g : Nat} (h : Blk w g 5 #[.int .u8 1]) : Nums8 w (some ⟨g, 0, none⟩) [1] :=
  ⟨fun k => by unfold nth; cases k <;> simp, fun _ => ⟨g, 0, rfl, h.lt, fun k hk => by
    obtain rfl : k = 0 := by simp at hk; omega
    rw [h.cell]; simp [nth]⟩⟩
theorem retNumE_zero {W w' : World} {A0 : Option Addr} {xs0 : List Nat} {f : Int} (hb : Below W.heap.size W w') : RetNumE W A0 xs0 0 f (.returned (.tuple #[.agg #[.bool false, .slice none 0 0], .int .i64 f])) w' :=
  ⟨none, 0, by rw [tens_zero]; rfl, by rw [tens_zero]; exact nums8_nil _ _, Or.inl (fun q hq => by cases hq), hb⟩
theorem nth_ten0 {j : Int} (h0 : j ≠ 0) : nth (tens j) 0 = ((j.natAbs % 10 : Nat) : Int) := by
  unfold nth
  rw [tens_eq, digs_step (by decide) (by omega)]
  rfl
theorem ten_pos {j : Int} (h0 : j ≠ 0) : 0 < (tens j).length := by rw [tens_eq]; exact digs_pos (by decide) (by omega)
theorem ten_len1 {j : Int} (h0 : j ≠ 0) (h : j.natAbs < 10) : (tens j).length = 1 := by
  rw [tens_eq, digs_step (by decide) (by omega), Nat.div_eq_of_lt h]; rfl
theorem ten_len2 {j : Int} (h : 10 ≤ j.natAbs) : 1 < (tens j).length := by
  rcases Nat.lt_or_ge 1 (tens j).length with h1 | h1
  · exact h1
  · have := (digs_length_le (b := 10) (by decide) j.natAbs 1).1 (by rw [← tens_eq]; exact h1)
    omega
theorem ten_par {j : Int} (h0 : 0 < j) : (((j.natAbs % 10 : Nat) : Int).tmod 2 == 1) = decide (j.toNat % 2 = 1) := by
  have hpar : ((j.natAbs % 10 : Nat) : Int).tmod 2 = ((j.toNat % 2 : Nat) : Int) := by
    rw [Int.tmod_eq_emod_of_nonneg (by omega)]
    omega
  rw [hpar, Bool.eq_iff_iff]
  simp
  omega
section
variable (i j : Int) (A B : Option Addr) (c d : Nat) (w : World) (hi : i.natAbs < B18 ^ 30) (hj : j.natAbs < B18 ^ 30) (hx : Nums8 w A (tens i)) (hy : Nums8 w B (tens j))
include hi hj hx hy
theorem rpow_neg (h0 : j < 0) : Calls Tryd.prog 39 #[.agg #[.bool (decide (i < 0)), .slice A (tens i).length c], .agg #[.bool (decide (j < 0)), .slice B (tens j).length d]] w (RetNumE w A (tens i) 0 1) := by
  have _ := And.intro hi (And.intro hj (And.intro hx hy))
  refine calls_cw Tryd.func39 rfl Tryd.ntmps39 rfl ?_
  have HF : Per No w (fun _ => True) := Per.true_
  have LW := Ext.refl (No) w
  have XLW : ∀ k, (No) k → (No) k ∨ w.heap.size ≤ k := fun _ h => Or.inl h
  have E := Ext.refl No w
  refine cw_seq ?_
  refine cw_region ?_
  refine rs_op rfl (ow_boxB rfl ?_)
  intro gb1 w2 Bb1 Eb1 Gb1
  have Gb1 : _ ≤ gb1 := Nat.le_trans E.size Gb1
  have GLb1 := Nat.le_trans LW.size Gb1
  replace E := E.trans Eb1.no
  clear Eb1
  replace HF := HF.cons (some_ge Gb1)
  replace E := E.cons (some gb1)
  replace XLW := Mut.grow XLW (fun k e => Or.inr (Nat.le_trans LW.size ((some_ge Gb1) k e)))
  replace HF := HF.on E
  replace LW := LW.step E XLW
  have SB : ∀ k, No k → Mut [(some gb1)] k := (Mut.skip Mut.nil_)
  replace HF := HF.less SB
  replace XLW := fun k h => XLW k (SB k h)
  clear SB
  replace E := Ext.refl (No) w2
  replace HF := HF.and (Per.blkN Bb1 NotIn.nil)
  clear Bb1
  refine rs_op rfl (ow_boxB rfl ?_)
  intro gb3 w4 Bb3 Eb3 Gb3
  have Gb3 : _ ≤ gb3 := Nat.le_trans E.size Gb3
  have GLb3 := Nat.le_trans LW.size Gb3
  replace E := E.trans Eb3.no
  clear Eb3
  replace HF := HF.cons (some_ge Gb3)
  replace E := E.cons (some gb3)
  replace XLW := Mut.grow XLW (fun k e => Or.inr (Nat.le_trans LW.size ((some_ge Gb3) k e)))
  replace HF := HF.on E
  replace LW := LW.step E XLW
  have SB : ∀ k, No k → Mut [(some gb3)] k := (Mut.skip Mut.nil_)
  replace HF := HF.less SB
  replace XLW := fun k h => XLW k (SB k h)
  clear SB
  replace E := Ext.refl (No) w4
  replace HF := HF.and (Per.blkN Bb3 NotIn.nil)
  clear Bb3
  refine rs_op rfl (ow_allocB zr33 ?_)
  intro gb5 w6 Bb5 Eb5 Gb5
  have Gb5 : _ ≤ gb5 := Nat.le_trans E.size Gb5
  have GLb5 := Nat.le_trans LW.size Gb5
  replace E := E.trans Eb5.no
  clear Eb5
  replace HF := HF.cons (some_ge Gb5)
  replace E := E.cons (some gb5)
  replace XLW := Mut.grow XLW (fun k e => Or.inr (Nat.le_trans LW.size ((some_ge Gb5) k e)))
  refine rs_op rfl (ow_assign rfl ?_)
  refine rs_nil ?_
  refine ew_next ?_
  refine cw_seq ?_
  refine cw_seq ?_
  refine cw_region ?_
  refine rs_op rfl (ow_fieldAddr Tryd.underlying33 rfl sz4 (by decide) rfl ?_)
  refine rs_op rfl (ow_loadF Tryd.underlying4 rfl rfl (HF.on E).here.2 rfl ?_)
  refine rs_nil ?_
  refine ew_next ?_
  refine cw_set 11 (.bool true) rfl ((by rw [decide_eq_true h0] : (.bool (decide (j < 0)) : Value) = _)) ?_
  refine cw_then rfl ?_
  refine cw_seq ?_
  refine cw_region ?_
  refine rs_op rfl (ow_build (cs := #[.bool false, .slice none 0 0]) pl33 zr33 rfl rfl ?_)
  refine rs_op0 (ow_storeM sz33 rfl rfl Bb5 rfl rfl (Nat.le_of_ble_eq_true rfl) ?_)
  intro w7 Bx Eb5
  replace Bb5 := Bx
  clear Bx
  replace E := E.step1 Eb5 Mut.head
  clear Eb5
  refine rs_op rfl (ow_assign rfl ?_)
  refine rs_nil ?_
  refine ew_next ?_
  refine cw_ret ?_
  refine ew_then_ret ?_
  refine ew_ret (rs := [.cell 4 33, .tmp 5]) (vs := [_, _]) rfl ⟨⟨_, rfl, res_box Tryd.underlying33 rfl sz33 Bb5 rfl⟩, rfl, trivial⟩ ?_
  exact retNumE_zero (LW.step E XLW).toBelow
theorem rpow_zero (h0 : j = 0) : Calls Tryd.prog 39 #[.agg #[.bool (decide (i < 0)), .slice A (tens i).length c], .agg #[.bool (decide (j < 0)), .slice B (tens j).length d]] w (RetNumE w A (tens i) 1 0) := by
  have _ := And.intro hi (And.intro hj (And.intro hx hy))
  have hd : decide (j < 0) = false := by rw [h0]; rfl
  have hlen : ((tens j).length : Int) = 0 := by rw [h0, tens_zero]; rfl
  refine calls_cw Tryd.func39 rfl Tryd.ntmps39 rfl ?_
  have HF : Per No w (fun _ => True) := Per.true_
  have LW := Ext.refl (No) w
  have XLW : ∀ k, (No) k → (No) k ∨ w.heap.size ≤ k := fun _ h => Or.inl h
  have E := Ext.refl No w
  refine cw_seq ?_
  refine cw_region ?_
  refine rs_op rfl (ow_boxB rfl ?_)
  intro gb1 w2 Bb1 Eb1 Gb1
  have Gb1 : _ ≤ gb1 := Nat.le_trans E.size Gb1
  have GLb1 := Nat.le_trans LW.size Gb1
  replace E := E.trans Eb1.no
  clear Eb1
  replace HF := HF.cons (some_ge Gb1)
  replace E := E.cons (some gb1)
  replace XLW := Mut.grow XLW (fun k e => Or.inr (Nat.le_trans LW.size ((some_ge Gb1) k e)))
  replace HF := HF.on E
  replace LW := LW.step E XLW
  have SB : ∀ k, No k → Mut [(some gb1)] k := (Mut.skip Mut.nil_)
  replace HF := HF.less SB
  replace XLW := fun k h => XLW k (SB k h)
  clear SB
  replace E := Ext.refl (No) w2
  replace HF := HF.and (Per.blkN Bb1 NotIn.nil)
  clear Bb1
  refine rs_op rfl (ow_boxB rfl ?_)
  intro gb3 w4 Bb3 Eb3 Gb3
  have Gb3 : _ ≤ gb3 := Nat.le_trans E.size Gb3
  have GLb3 := Nat.le_trans LW.size Gb3
  replace E := E.trans Eb3.no
  clear Eb3
  replace HF := HF.cons (some_ge Gb3)
  replace E := E.cons (some gb3)
  replace XLW := Mut.grow XLW (fun k e => Or.inr (Nat.le_trans LW.size ((some_ge Gb3) k e)))
  replace HF := HF.on E
  replace LW := LW.step E XLW
  have SB : ∀ k, No k → Mut [(some gb3)] k := (Mut.skip Mut.nil_)
  replace HF := HF.less SB
  replace XLW := fun k h => XLW k (SB k h)
  clear SB
  replace E := Ext.refl (No) w4
  replace HF := HF.and (Per.blkN Bb3 NotIn.nil)
  clear Bb3
  refine rs_op rfl (ow_allocB zr33 ?_)
  intro gb5 w6 Bb5 Eb5 Gb5
  have Gb5 : _ ≤ gb5 := Nat.le_trans E.size Gb5
  have GLb5 := Nat.le_trans LW.size Gb5
  replace E := E.trans Eb5.no
  clear Eb5
  replace HF := HF.cons (some_ge Gb5)
  replace E := E.cons (some gb5)
  replace XLW := Mut.grow XLW (fun k e => Or.inr (Nat.le_trans LW.size ((some_ge Gb5) k e)))
  refine rs_op rfl (ow_assign rfl ?_)
  refine rs_nil ?_
  refine ew_next ?_
  refine cw_seq ?_
  refine cw_seq ?_
  refine cw_region ?_
  refine rs_op rfl (ow_fieldAddr Tryd.underlying33 rfl sz4 (by decide) rfl ?_)
  refine rs_op rfl (ow_loadF Tryd.underlying4 rfl rfl (HF.on E).here.2 rfl ?_)
  refine rs_nil ?_
  refine ew_next ?_
  refine cw_set 11 (.bool false) rfl ((by rw [hd] : (.bool (decide (j < 0)) : Value) = _)) ?_
  refine cw_else rfl ?_
  refine cw_skip ?_
  refine ew_next ?_
  refine cw_seq ?_
  refine cw_seq ?_
  refine cw_region ?_
  refine rs_op rfl (ow_fieldAddr Tryd.underlying33 rfl sz31 (by decide) rfl ?_)
  refine rs_op rfl (ow_loadF Tryd.underlying31 rfl rfl (HF.on E).here.2 rfl ?_)
  refine rs_op rfl (ow_len Tryd.underlying31 rfl ?_)
  refine rs_op rfl (ow_eql rfl rfl ?_)
  refine rs_nil ?_
  refine ew_next ?_
  refine cw_set 16 (.bool true) rfl ((by rw [hlen]; rfl : (.bool (((((tens j).length : Nat)) : Int) == 0) : Value) = _)) ?_
  refine cw_then rfl ?_
  refine cw_seq ?_
  refine cw_region ?_
  refine rs_op rfl (ow_buildSlice (cs := #[.int .u8 1]) Tryd.underlying31 sz5 zr5 (by decide) rfl (by rw [map_range_]; rfl) ?_)
  intro gb7 w8 Bb7 Eb7 Gb7
  have Db7_b5 : Apart (some gb7) (some gb5) := Apart.of_lt (some_lt Bb5.lt) Gb7
  have Db5_b7 := Db7_b5.symm
  have Gb7 : _ ≤ gb7 := Nat.le_trans E.size Gb7
  have GLb7 := Nat.le_trans LW.size Gb7
  replace Bb5 := Bb5.extN Eb7 NotIn.nil
  replace E := E.trans Eb7.no
  clear Eb7
  replace HF := HF.cons (some_ge Gb7)
  replace E := E.cons (some gb7)
  replace XLW := Mut.grow XLW (fun k e => Or.inr (Nat.le_trans LW.size ((some_ge Gb7) k e)))
  replace HF := HF.on E
  replace LW := LW.step E XLW
  have SB : ∀ k, Mut [(some gb5)] k → Mut [(some gb7), (some gb5)] k := (Mut.skip (Mut.keep Mut.nil_))
  replace HF := HF.less SB
  replace XLW := fun k h => XLW k (SB k h)
  clear SB
  replace E := Ext.refl (Mut [(some gb5)]) w8
  replace HF := HF.and (Per.blkN Bb7 (NotIn.cons Db7_b5 NotIn.nil))
  clear Bb7
  refine rs_op rfl (ow_build (cs := #[.bool false, .slice (some ⟨gb7, 0, none⟩) 1 1]) pl33 zr33 rfl rfl ?_)
  refine rs_op0 (ow_storeM sz33 rfl rfl Bb5 rfl rfl (Nat.le_of_ble_eq_true rfl) ?_)
  intro w9 Bx Eb5
  replace Bb5 := Bx
  clear Bx
  replace E := E.step1 Eb5 Mut.head
  clear Eb5
  refine rs_op rfl (ow_assign rfl ?_)
  refine rs_nil ?_
  refine ew_next ?_
  refine cw_ret ?_
  refine ew_then_ret ?_
  have e1 : tens 1 = [1] := by rw [tens_eq]; rfl
  have B9 := (HF.on E).here.2
  have GG := GLb7
  refine ew_ret (rs := [.cell 4 33, .tmp 5]) (vs := [_, _]) rfl ⟨⟨_, rfl, res_box Tryd.underlying33 rfl sz33 Bb5 rfl⟩, rfl, trivial⟩ ?_
  exact ⟨some ⟨gb7, 0, none⟩, 1, by rw [e1]; rfl, by rw [e1]; exact nums8_one B9, Or.inl (fun q hq => by obtain rfl := Option.some.inj hq; exact GG), (LW.step E XLW).toBelow⟩
theorem rpow_nought (h0 : 0 < j) (hi0 : i = 0) : Calls Tryd.prog 39 #[.agg #[.bool (decide (i < 0)), .slice A (tens i).length c], .agg #[.bool (decide (j < 0)), .slice B (tens j).length d]] w (RetNumE w A (tens i) 0 0) := by
  have _ := And.intro hi (And.intro hj (And.intro hx hy))
  have hd : decide (j < 0) = false := decide_eq_false (by omega)
  have hlen : ((tens j).length : Int) ≠ 0 := by have := ten_pos (j := j) (by omega); omega
  have hli : ((tens i).length : Int) = 0 := by rw [hi0, tens_zero]; rfl
  refine calls_cw Tryd.func39 rfl Tryd.ntmps39 rfl ?_
  have HF : Per No w (fun _ => True) := Per.true_
  have LW := Ext.refl (No) w
  have XLW : ∀ k, (No) k → (No) k ∨ w.heap.size ≤ k := fun _ h => Or.inl h
  have E := Ext.refl No w
  refine cw_seq ?_
  refine cw_region ?_
  refine rs_op rfl (ow_boxB rfl ?_)
  intro gb1 w2 Bb1 Eb1 Gb1
  have Gb1 : _ ≤ gb1 := Nat.le_trans E.size Gb1
  have GLb1 := Nat.le_trans LW.size Gb1
  replace E := E.trans Eb1.no
  clear Eb1
  replace HF := HF.cons (some_ge Gb1)
  replace E := E.cons (some gb1)
  replace XLW := Mut.grow XLW (fun k e => Or.inr (Nat.le_trans LW.size ((some_ge Gb1) k e)))
  replace HF := HF.on E
  replace LW := LW.step E XLW
  have SB : ∀ k, No k → Mut [(some gb1)] k := (Mut.skip Mut.nil_)
  replace HF := HF.less SB
  replace XLW := fun k h => XLW k (SB k h)
  clear SB
  replace E := Ext.refl (No) w2
  replace HF := HF.and (Per.blkN Bb1 NotIn.nil)
  clear Bb1
  refine rs_op rfl (ow_boxB rfl ?_)
  intro gb3 w4 Bb3 Eb3 Gb3
  have Gb3 : _ ≤ gb3 := Nat.le_trans E.size Gb3
  have GLb3 := Nat.le_trans LW.size Gb3
  replace E := E.trans Eb3.no
  clear Eb3
  replace HF := HF.cons (some_ge Gb3)
  replace E := E.cons (some gb3)
  replace XLW := Mut.grow XLW (fun k e => Or.inr (Nat.le_trans LW.size ((some_ge Gb3) k e)))
  replace HF := HF.on E
  replace LW := LW.step E XLW
  have SB : ∀ k, No k → Mut [(some gb3)] k := (Mut.skip Mut.nil_)
  replace HF := HF.less SB
  replace XLW := fun k h => XLW k (SB k h)
  clear SB
  replace E := Ext.refl (No) w4
  replace HF := HF.and (Per.blkN Bb3 NotIn.nil)
  clear Bb3
  refine rs_op rfl (ow_allocB zr33 ?_)
  intro gb5 w6 Bb5 Eb5 Gb5
  have Gb5 : _ ≤ gb5 := Nat.le_trans E.size Gb5
  have GLb5 := Nat.le_trans LW.size Gb5
  replace E := E.trans Eb5.no
  clear Eb5
  replace HF := HF.cons (some_ge Gb5)
  replace E := E.cons (some gb5)
  replace XLW := Mut.grow XLW (fun k e => Or.inr (Nat.le_trans LW.size ((some_ge Gb5) k e)))
  refine rs_op rfl (ow_assign rfl ?_)
  refine rs_nil ?_
  refine ew_next ?_
  refine cw_seq ?_
  refine cw_seq ?_
  refine cw_region ?_
  refine rs_op rfl (ow_fieldAddr Tryd.underlying33 rfl sz4 (by decide) rfl ?_)
  refine rs_op rfl (ow_loadF Tryd.underlying4 rfl rfl (HF.on E).here.2 rfl ?_)
  refine rs_nil ?_
  refine ew_next ?_
  refine cw_set 11 (.bool false) rfl ((by rw [hd] : (.bool (decide (j < 0)) : Value) = _)) ?_
  refine cw_else rfl ?_
  refine cw_skip ?_
  refine ew_next ?_
  refine cw_seq ?_
  refine cw_seq ?_
  refine cw_region ?_
  refine rs_op rfl (ow_fieldAddr Tryd.underlying33 rfl sz31 (by decide) rfl ?_)
  refine rs_op rfl (ow_loadF Tryd.underlying31 rfl rfl (HF.on E).here.2 rfl ?_)
  refine rs_op rfl (ow_len Tryd.underlying31 rfl ?_)
  refine rs_op rfl (ow_eql rfl rfl ?_)
  refine rs_nil ?_
  refine ew_next ?_
  refine cw_set 16 (.bool false) rfl ((by rw [beq_eq_false_iff_ne.2 hlen] : (.bool (((((tens j).length : Nat)) : Int) == 0) : Value) = _)) ?_
  refine cw_else rfl ?_
  refine cw_skip ?_
  refine ew_next ?_
  refine cw_seq ?_
  refine cw_seq ?_
  refine cw_region ?_
  refine rs_op rfl (ow_fieldAddr Tryd.underlying33 rfl sz31 (by decide) rfl ?_)
  refine rs_op rfl (ow_loadF Tryd.underlying31 rfl rfl (HF.on E).here.1.2 rfl ?_)
  refine rs_op rfl (ow_len Tryd.underlying31 rfl ?_)
  refine rs_op rfl (ow_eql rfl rfl ?_)
  refine rs_nil ?_
  refine ew_next ?_
  refine cw_set 22 (.bool true) rfl ((by rw [hli]; rfl : (.bool (((((tens i).length : Nat)) : Int) == 0) : Value) = _)) ?_
  refine cw_then rfl ?_
  refine cw_seq ?_
  refine cw_region ?_
  refine rs_op rfl (ow_build (cs := #[.bool false, .slice none 0 0]) pl33 zr33 rfl rfl ?_)
  refine rs_op0 (ow_storeM sz33 rfl rfl Bb5 rfl rfl (Nat.le_of_ble_eq_true rfl) ?_)
  intro w7 Bx Eb5
  replace Bb5 := Bx
  clear Bx
  replace E := E.step1 Eb5 Mut.head
  clear Eb5
  refine rs_op rfl (ow_assign rfl ?_)
  refine rs_nil ?_
  refine ew_next ?_
  refine cw_ret ?_
  refine ew_then_ret ?_
  refine ew_ret (rs := [.cell 4 33, .tmp 5]) (vs := [_, _]) rfl ⟨⟨_, rfl, res_box Tryd.underlying33 rfl sz33 Bb5 rfl⟩, rfl, trivial⟩ ?_
  exact retNumE_zero (LW.step E XLW).toBelow
theorem rpow_one (h0 : 0 < j) (hi1 : i.natAbs = 1) (hin : decide (i < 0) = false) : Calls Tryd.prog 39 #[.agg #[.bool (decide (i < 0)), .slice A (tens i).length c], .agg #[.bool (decide (j < 0)), .slice B (tens j).length d]] w (RetNumE w A (tens i) (i ^ j.toNat) 0) := by
  have _ := And.intro hi hj
  have hv : i ^ j.toNat = 1 := by rw [pow_one_abs hi1, hin]; rfl
  have ht : tens (i ^ j.toNat) = tens i := by rw [hv, tens_eq, tens_eq, hi1]; rfl
  have hd : decide (j < 0) = false := decide_eq_false (by omega)
  have hip := ten_pos (j := i) (by omega)
  have hjp := ten_pos (j := j) (by omega)
  have hlen : ((tens j).length : Int) ≠ 0 := by omega
  have hleni : ((tens i).length : Int) ≠ 0 := by omega
  obtain ⟨bx, ox, rfl, hbx, hcx⟩ := hx.2 hip
  obtain ⟨by_, oy, rfl, hby, hcy⟩ := hy.2 hjp
  have hc0 : w.cell? ⟨bx, ox + 0, none⟩ = some (.int .u8 ((i.natAbs % 10 : Nat) : Int)) := by rw [hcx 0 hip, nth_ten0 (by omega)]
  have hd0 : w.cell? ⟨by_, oy + 0, none⟩ = some (.int .u8 ((j.natAbs % 10 : Nat) : Int)) := by rw [hcy 0 hjp, nth_ten0 (by omega)]
  refine calls_cw Tryd.func39 rfl Tryd.ntmps39 rfl ?_
  have HF : Per No w (fun _ => True) := Per.true_
  have LW := Ext.refl (No) w
  have XLW : ∀ k, (No) k → (No) k ∨ w.heap.size ≤ k := fun _ h => Or.inl h
  have E := Ext.refl No w
  replace HF := HF.on E
  replace LW := LW.step E XLW
  replace E := Ext.refl (No) w
  replace HF := HF.and (Per.nums80 hx)
  replace HF := HF.on E
  replace LW := LW.step E XLW
  replace E := Ext.refl (No) w
  replace HF := HF.and (Per.nums80 hy)
  replace HF := HF.on E
  replace LW := LW.step E XLW
  replace E := Ext.refl (No) w
  replace HF := HF.and (Per.cell0 hc0)
  replace HF := HF.on E
  replace LW := LW.step E XLW
  replace E := Ext.refl (No) w
  replace HF := HF.and (Per.cell0 hd0)
  refine cw_seq ?_
  refine cw_region ?_
  refine rs_op rfl (ow_boxB rfl ?_)
  intro gb1 w2 Bb1 Eb1 Gb1
  have Gb1 : _ ≤ gb1 := Nat.le_trans E.size Gb1
  have GLb1 := Nat.le_trans LW.size Gb1
  replace E := E.trans Eb1.no
  clear Eb1
  replace HF := HF.cons (some_ge Gb1)
  replace E := E.cons (some gb1)
  replace XLW := Mut.grow XLW (fun k e => Or.inr (Nat.le_trans LW.size ((some_ge Gb1) k e)))
  replace HF := HF.on E
  replace LW := LW.step E XLW
  have SB : ∀ k, No k → Mut [(some gb1)] k := (Mut.skip Mut.nil_)
  replace HF := HF.less SB
  replace XLW := fun k h => XLW k (SB k h)
  clear SB
  replace E := Ext.refl (No) w2
  replace HF := HF.and (Per.blkN Bb1 NotIn.nil)
  clear Bb1
  refine rs_op rfl (ow_boxB rfl ?_)
  intro gb3 w4 Bb3 Eb3 Gb3
  have Gb3 : _ ≤ gb3 := Nat.le_trans E.size Gb3
  have GLb3 := Nat.le_trans LW.size Gb3
  replace E := E.trans Eb3.no
  clear Eb3
  replace HF := HF.cons (some_ge Gb3)
  replace E := E.cons (some gb3)
  replace XLW := Mut.grow XLW (fun k e => Or.inr (Nat.le_trans LW.size ((some_ge Gb3) k e)))
  replace HF := HF.on E
  replace LW := LW.step E XLW
  have SB : ∀ k, No k → Mut [(some gb3)] k := (Mut.skip Mut.nil_)
  replace HF := HF.less SB
  replace XLW := fun k h => XLW k (SB k h)
  clear SB
  replace E := Ext.refl (No) w4
  replace HF := HF.and (Per.blkN Bb3 NotIn.nil)
  clear Bb3
  refine rs_op rfl (ow_allocB zr33 ?_)
  intro gb5 w6 Bb5 Eb5 Gb5
  have Gb5 : _ ≤ gb5 := Nat.le_trans E.size Gb5
  have GLb5 := Nat.le_trans LW.size Gb5
  replace E := E.trans Eb5.no
  clear Eb5
  replace HF := HF.cons (some_ge Gb5)
  replace E := E.cons (some gb5)
  replace XLW := Mut.grow XLW (fun k e => Or.inr (Nat.le_trans LW.size ((some_ge Gb5) k e)))
  refine rs_op rfl (ow_assign rfl ?_)
  refine rs_nil ?_
  refine ew_next ?_
  refine cw_seq ?_
  refine cw_seq ?_
  refine cw_region ?_
  refine rs_op rfl (ow_fieldAddr Tryd.underlying33 rfl sz4 (by decide) rfl ?_)
  refine rs_op rfl (ow_loadF Tryd.underlying4 rfl rfl (HF.on E).here.2 rfl ?_)
  refine rs_nil ?_
  refine ew_next ?_
  refine cw_set 11 (.bool false) rfl ((by rw [hd] : (.bool (decide (j < 0)) : Value) = _)) ?_
  refine cw_else rfl ?_
  refine cw_skip ?_
  refine ew_next ?_
  refine cw_seq ?_
  refine cw_seq ?_
  refine cw_region ?_
  refine rs_op rfl (ow_fieldAddr Tryd.underlying33 rfl sz31 (by decide) rfl ?_)
  refine rs_op rfl (ow_loadF Tryd.underlying31 rfl rfl (HF.on E).here.2 rfl ?_)
  refine rs_op rfl (ow_len Tryd.underlying31 rfl ?_)
  refine rs_op rfl (ow_eql rfl rfl ?_)
  refine rs_nil ?_
  refine ew_next ?_
  refine cw_set 16 (.bool false) rfl ((by rw [beq_eq_false_iff_ne.2 hlen] : (.bool (((((tens j).length : Nat)) : Int) == 0) : Value) = _)) ?_
  refine cw_else rfl ?_
  refine cw_skip ?_
  refine ew_next ?_
  refine cw_seq ?_
  refine cw_seq ?_
  refine cw_region ?_
  refine rs_op rfl (ow_fieldAddr Tryd.underlying33 rfl sz31 (by decide) rfl ?_)
  refine rs_op rfl (ow_loadF Tryd.underlying31 rfl rfl (HF.on E).here.1.2 rfl ?_)
  refine rs_op rfl (ow_len Tryd.underlying31 rfl ?_)
  refine rs_op rfl (ow_eql rfl rfl ?_)
  refine rs_nil ?_
  refine ew_next ?_
  refine cw_set 22 (.bool false) rfl ((by rw [beq_eq_false_iff_ne.2 hleni] : (.bool (((((tens i).length : Nat)) : Int) == 0) : Value) = _)) ?_
  refine cw_else rfl ?_
  refine cw_skip ?_
  refine ew_next ?_
  refine cw_seq ?_
  refine cw_seq ?_
  refine cw_region ?_
  refine rs_op rfl (ow_fieldAddr Tryd.underlying33 rfl sz31 (by decide) rfl ?_)
  refine rs_op rfl (ow_loadF Tryd.underlying31 rfl rfl (HF.on E).here.1.2 rfl ?_)
  refine rs_op rfl (ow_len Tryd.underlying31 rfl ?_)
  refine rs_op rfl (ow_eql rfl rfl ?_)
  refine rs_op rfl (ow_move rfl ?_)
  have h1 : ((tens i).length : Int) = 1 := by rw [ten_len1 (by omega) (by omega)]; rfl
  refine rs_set 28 (.bool true) rfl ((by rw [h1]; rfl : (.bool (((((tens i).length : Nat)) : Int) == 1) : Value) = _)) ?_
  refine rs_op rfl (ow_on rfl (ow_fieldAddr Tryd.underlying33 rfl sz31 (by decide) rfl ?_))
  refine rs_op rfl (ow_on rfl (ow_loadF Tryd.underlying31 rfl rfl (HF.on E).here.1.2 rfl ?_))
  refine rs_op rfl (ow_on rfl (ow_indexAddr1 (j := 0) Tryd.underlying31 sz5 rfl rfl rfl hip ?_))
  refine rs_op rfl (ow_on rfl (ow_load1 Tryd.underlying5 rfl rfl (HF.on E).here.1.1.1.2 ?_))
  refine rs_op rfl (ow_on rfl (ow_eql rfl rfl ?_))
  refine rs_op rfl (ow_pickT rfl rfl ?_)
  refine rs_nil ?_
  refine ew_next ?_
  refine cw_set 34 (.bool true) rfl ((by rw [hi1]; rfl : (.bool (((i.natAbs % 10 : Nat) : Int) == 1) : Value) = _)) ?_
  refine cw_then rfl ?_
  refine cw_seq ?_
  have OY : ∀ k, (Mut (outM [⟨13, gb5, 33, #[.bool false, .slice none 0 0]⟩])) k → k < (World.drew w6).heap.size → (Mut [(some gb5)]) k := fun k h _ => ((Mut.grow Mut.none_ Mut.head)) k h
  refine cw_drawn (Mut [(some gb5)]) (Mut.grow Mut.none_ (some_lt Bb5.lt)) [] [⟨13, gb5, 33, #[.bool false, .slice none 0 0]⟩] (fxAt [Fx.of (.pointer (some ⟨gb1, 0, none⟩)),
      Fx.of (.bool false),
      Fx.of (.bool false),
      Fx.of undef,
      Fx.of undef,
      Fx.of undef,
      Fx.of undef,
      Fx.of undef,
      Fx.of undef,
      Fx.of (.bool false),
      Fx.of (.pointer (some ⟨gb1, 1, none⟩)),
      Fx.of (.slice (some ⟨bx, ox, none⟩) (tens i).length c),
      Fx.of (.agg #[.bool false, .slice (some ⟨bx, ox, none⟩) (tens i).length c]),
      Fx.of undef,
      Fx.of (.int .i64 0)]) mixed rfl ⟨⟨Mut.head _ rfl, Bb5, fun _ h => by cases h⟩, trivial⟩ (by intro o ho; simp at ho; rcases ho with rfl <;> simp) ?_ ?_
  · refine ⟨?_, ?_, ?_, ?_, ?_, ?_, ?_, ?_, ?_, ?_, ?_, ?_, ?_, ?_, ?_, trivial⟩
    · intro vs X wq K
      have LE := K.1
      have XN := K.2.1
      have SQ := Nat.le_trans LW.size (Nat.le_trans E.size LE.size)
      exact ow_fieldAddr Tryd.underlying33 rfl sz4 (by decide) rfl ⟨Below.refl _ _, Left.of rfl⟩
    · intro vs X wq K
      have LE := K.1
      have XN := K.2.1
      have SQ := Nat.le_trans LW.size (Nat.le_trans E.size LE.size)
      obtain ⟨_, e0, k0⟩ := K.dep 0 rfl rfl rfl
      refine ow_set 35 (.pointer (some ⟨gb1, 0, none⟩)) rfl e0 ?_
      exact ow_loadF Tryd.underlying4 rfl rfl (HF.on (E.drew.trans (LE.mono OY))).here.1.2 rfl ⟨Below.refl _ _, Left.of ((by rw [hin] : (.bool (decide (i < 0)) : Value) = _))⟩
    · intro vs X wq K
      have LE := K.1
      have XN := K.2.1
      have SQ := Nat.le_trans LW.size (Nat.le_trans E.size LE.size)
      obtain ⟨_, e1, k1⟩ := K.dep 1 rfl rfl rfl
      refine ow_set 36 (.bool false) rfl e1 ?_
      exact ow_move rfl ⟨Below.refl _ _, Left.of rfl⟩
    · intro vs X wq K
      have LE := K.1
      have XN := K.2.1
      have SQ := Nat.le_trans LW.size (Nat.le_trans E.size LE.size)
      obtain ⟨_, e2, k2⟩ := K.dep 2 rfl rfl rfl
      refine ow_set 37 (.bool false) rfl e2 ?_
      exact ow_off rfl ⟨Below.refl _ _, Left.of rfl⟩
    · intro vs X wq K
      have LE := K.1
      have XN := K.2.1
      have SQ := Nat.le_trans LW.size (Nat.le_trans E.size LE.size)
      obtain ⟨_, e3, k3⟩ := K.dep 3 rfl rfl rfl
      refine ow_set 38 (undef) rfl e3 ?_
      obtain ⟨_, e2, k2⟩ := K.dep 2 rfl rfl rfl
      refine ow_set 37 (.bool false) rfl e2 ?_
      exact ow_off rfl ⟨Below.refl _ _, Left.of rfl⟩
    · intro vs X wq K
      have LE := K.1
      have XN := K.2.1
      have SQ := Nat.le_trans LW.size (Nat.le_trans E.size LE.size)
      obtain ⟨_, e4, k4⟩ := K.dep 4 rfl rfl rfl
      refine ow_set 39 (undef) rfl e4 ?_
      obtain ⟨_, e2, k2⟩ := K.dep 2 rfl rfl rfl
      refine ow_set 37 (.bool false) rfl e2 ?_
      exact ow_off rfl ⟨Below.refl _ _, Left.of rfl⟩
    · intro vs X wq K
      have LE := K.1
      have XN := K.2.1
      have SQ := Nat.le_trans LW.size (Nat.le_trans E.size LE.size)
      obtain ⟨_, e5, k5⟩ := K.dep 5 rfl rfl rfl
      refine ow_set 40 (undef) rfl e5 ?_
      obtain ⟨_, e2, k2⟩ := K.dep 2 rfl rfl rfl
      refine ow_set 37 (.bool false) rfl e2 ?_
      exact ow_off rfl ⟨Below.refl _ _, Left.of rfl⟩
    · intro vs X wq K
      have LE := K.1
      have XN := K.2.1
      have SQ := Nat.le_trans LW.size (Nat.le_trans E.size LE.size)
      obtain ⟨_, e6, k6⟩ := K.dep 6 rfl rfl rfl
      refine ow_set 41 (undef) rfl e6 ?_
      obtain ⟨_, e2, k2⟩ := K.dep 2 rfl rfl rfl
      refine ow_set 37 (.bool false) rfl e2 ?_
      exact ow_off rfl ⟨Below.refl _ _, Left.of rfl⟩
    · intro vs X wq K
      have LE := K.1
      have XN := K.2.1
      have SQ := Nat.le_trans LW.size (Nat.le_trans E.size LE.size)
      obtain ⟨_, e7, k7⟩ := K.dep 7 rfl rfl rfl
      refine ow_set 42 (undef) rfl e7 ?_
      obtain ⟨_, e2, k2⟩ := K.dep 2 rfl rfl rfl
      refine ow_set 37 (.bool false) rfl e2 ?_
      exact ow_off rfl ⟨Below.refl _ _, Left.of rfl⟩
    · intro vs X wq K
      have LE := K.1
      have XN := K.2.1
      have SQ := Nat.le_trans LW.size (Nat.le_trans E.size LE.size)
      obtain ⟨_, e2, k2⟩ := K.dep 2 rfl rfl rfl
      refine ow_set 37 (.bool false) rfl e2 ?_
      obtain ⟨_, e8, k8⟩ := K.dep 8 rfl rfl rfl
      refine ow_set 43 (undef) rfl e8 ?_
      exact ow_pickF rfl rfl ⟨Below.refl _ _, Left.of rfl⟩
    · intro vs X wq K
      have LE := K.1
      have XN := K.2.1
      have SQ := Nat.le_trans LW.size (Nat.le_trans E.size LE.size)
      exact ow_fieldAddr Tryd.underlying33 rfl sz31 (by decide) rfl ⟨Below.refl _ _, Left.of rfl⟩
    · intro vs X wq K
      have LE := K.1
      have XN := K.2.1
      have SQ := Nat.le_trans LW.size (Nat.le_trans E.size LE.size)
      obtain ⟨_, e10, k10⟩ := K.dep 10 rfl rfl rfl
      refine ow_set 45 (.pointer (some ⟨gb1, 1, none⟩)) rfl e10 ?_
      exact ow_loadF Tryd.underlying31 rfl rfl (HF.on (E.drew.trans (LE.mono OY))).here.1.2 rfl ⟨Below.refl _ _, Left.of rfl⟩
    · intro vs X wq K
      have LE := K.1
      have XN := K.2.1
      have SQ := Nat.le_trans LW.size (Nat.le_trans E.size LE.size)
      obtain ⟨_, e9, k9⟩ := K.dep 9 rfl rfl rfl
      refine ow_set 44 (.bool false) rfl e9 ?_
      obtain ⟨_, e11, k11⟩ := K.dep 11 rfl rfl rfl
      refine ow_set 46 (.slice (some ⟨bx, ox, none⟩) (tens i).length c) rfl e11 ?_
      exact ow_build (cs := #[.bool false, .slice (some ⟨bx, ox, none⟩) (tens i).length c]) pl33 zr33 rfl rfl ⟨Below.refl _ _, Left.of rfl⟩
    · refine ⟨_, _, _, _, _, rfl, rfl, sz33, fun vs X wq K => ⟨rfl, ?_⟩⟩
      obtain ⟨_, e0, _⟩ := K.dep 12 rfl rfl rfl
      exact ⟨vs 12, rfl, by rw [e0]; rfl, by rw [e0]; rfl⟩
    · intro vs X wq K
      have LE := K.1
      have XN := K.2.1
      have SQ := Nat.le_trans LW.size (Nat.le_trans E.size LE.size)
      exact ow_assign rfl ⟨Below.refl _ _, Left.of rfl⟩
  intro vs w7 LE AO AL AF AA
  have LBb5 := Bb5
  replace E := E.drew.trans (LE.mono OY)
  obtain ⟨_, e12, k12⟩ := AL.2.2.2.2.2.2.2.2.2.2.2.2.1
  obtain ⟨_, e14, k14⟩ := AL.2.2.2.2.2.2.2.2.2.2.2.2.2.2.1
  obtain ⟨v0, y0, Bx, ey, ev0⟩ := AO.1
  cases ey
  obtain rfl : vs 12 = v0 := Option.some.inj ev0
  rw [e12] at Bx
  replace Bb5 : Blk w7 gb5 33 #[.bool false, .slice (some ⟨bx, ox, none⟩) (tens i).length c] := Bx
  clear Bx
  refine ew_sub (τ := [(2, _), (3, _), (4, _), (5, .int .i64 0)]) ⟨rfl, rfl, rfl, congrArg some e14, trivial⟩ ?_
  clear AL AF AA LE AO OY e12 e14 k12 k14 LBb5
  refine ew_next ?_
  refine cw_ret ?_
  refine ew_then_ret ?_
  refine ew_ret (rs := [.cell 4 33, .tmp 5]) (vs := [_, _]) rfl ⟨⟨_, rfl, res_box Tryd.underlying33 rfl sz33 Bb5 rfl⟩, rfl, trivial⟩ ?_
  exact ⟨some ⟨bx, ox, none⟩, c, by rw [ht, hv]; rfl, by rw [ht]; exact (HF.on E).here.1.1.1.1.1.2, Or.inr ⟨rfl, ht⟩, (LW.step E XLW).toBelow⟩
theorem rpow_mone (h0 : 0 < j) (hi1 : i.natAbs = 1) (hin : decide (i < 0) = true) : Calls Tryd.prog 39 #[.agg #[.bool (decide (i < 0)), .slice A (tens i).length c], .agg #[.bool (decide (j < 0)), .slice B (tens j).length d]] w (RetNumE w A (tens i) (i ^ j.toNat) 0) := by
  have _ := And.intro hi hj
  have hv : decide (i ^ j.toNat < 0) = decide (j.toNat % 2 = 1) := by
    rw [pow_one_abs hi1, hin, Bool.true_and]
    cases decide (j.toNat % 2 = 1) <;> rfl
  have ht : tens (i ^ j.toNat) = tens i := by rw [tens_eq, tens_eq, pow_abs, hi1, Nat.one_pow]
  have hd : decide (j < 0) = false := decide_eq_false (by omega)
  have hip := ten_pos (j := i) (by omega)
  have hjp := ten_pos (j := j) (by omega)
  have hlen : ((tens j).length : Int) ≠ 0 := by omega
  have hleni : ((tens i).length : Int) ≠ 0 := by omega
  obtain ⟨bx, ox, rfl, hbx, hcx⟩ := hx.2 hip
  obtain ⟨by_, oy, rfl, hby, hcy⟩ := hy.2 hjp
  have hc0 : w.cell? ⟨bx, ox + 0, none⟩ = some (.int .u8 ((i.natAbs % 10 : Nat) : Int)) := by rw [hcx 0 hip, nth_ten0 (by omega)]
  have hd0 : w.cell? ⟨by_, oy + 0, none⟩ = some (.int .u8 ((j.natAbs % 10 : Nat) : Int)) := by rw [hcy 0 hjp, nth_ten0 (by omega)]
  refine calls_cw Tryd.func39 rfl Tryd.ntmps39 rfl ?_
  have HF : Per No w (fun _ => True) := Per.true_
  have LW := Ext.refl (No) w
  have XLW : ∀ k, (No) k → (No) k ∨ w.heap.size ≤ k := fun _ h => Or.inl h
  have E := Ext.refl No w
  replace HF := HF.on E
  replace LW := LW.step E XLW
  replace E := Ext.refl (No) w
  replace HF := HF.and (Per.nums80 hx)
  replace HF := HF.on E
  replace LW := LW.step E XLW
  replace E := Ext.refl (No) w
  replace HF := HF.and (Per.nums80 hy)
  replace HF := HF.on E
  replace LW := LW.step E XLW
  replace E := Ext.refl (No) w
  replace HF := HF.and (Per.cell0 hc0)
  replace HF := HF.on E
  replace LW := LW.step E XLW
  replace E := Ext.refl (No) w
  replace HF := HF.and (Per.cell0 hd0)
  refine cw_seq ?_
  refine cw_region ?_
  refine rs_op rfl (ow_boxB rfl ?_)
  intro gb1 w2 Bb1 Eb1 Gb1
  have Gb1 : _ ≤ gb1 := Nat.le_trans E.size Gb1
  have GLb1 := Nat.le_trans LW.size Gb1
  replace E := E.trans Eb1.no
  clear Eb1
  replace HF := HF.cons (some_ge Gb1)
  replace E := E.cons (some gb1)
  replace XLW := Mut.grow XLW (fun k e => Or.inr (Nat.le_trans LW.size ((some_ge Gb1) k e)))
  replace HF := HF.on E
  replace LW := LW.step E XLW
  have SB : ∀ k, No k → Mut [(some gb1)] k := (Mut.skip Mut.nil_)
  replace HF := HF.less SB
  replace XLW := fun k h => XLW k (SB k h)
  clear SB
  replace E := Ext.refl (No) w2
  replace HF := HF.and (Per.blkN Bb1 NotIn.nil)
  clear Bb1
  refine rs_op rfl (ow_boxB rfl ?_)
  intro gb3 w4 Bb3 Eb3 Gb3
  have Gb3 : _ ≤ gb3 := Nat.le_trans E.size Gb3
  have GLb3 := Nat.le_trans LW.size Gb3
  replace E := E.trans Eb3.no
  clear Eb3
  replace HF := HF.cons (some_ge Gb3)
  replace E := E.cons (some gb3)
  replace XLW := Mut.grow XLW (fun k e => Or.inr (Nat.le_trans LW.size ((some_ge Gb3) k e)))
  replace HF := HF.on E
  replace LW := LW.step E XLW
  have SB : ∀ k, No k → Mut [(some gb3)] k := (Mut.skip Mut.nil_)
  replace HF := HF.less SB
  replace XLW := fun k h => XLW k (SB k h)
  clear SB
  replace E := Ext.refl (No) w4
  replace HF := HF.and (Per.blkN Bb3 NotIn.nil)
  clear Bb3
  refine rs_op rfl (ow_allocB zr33 ?_)
  intro gb5 w6 Bb5 Eb5 Gb5
  have Gb5 : _ ≤ gb5 := Nat.le_trans E.size Gb5
  have GLb5 := Nat.le_trans LW.size Gb5
  replace E := E.trans Eb5.no
  clear Eb5
  replace HF := HF.cons (some_ge Gb5)
  replace E := E.cons (some gb5)
  replace XLW := Mut.grow XLW (fun k e => Or.inr (Nat.le_trans LW.size ((some_ge Gb5) k e)))
  refine rs_op rfl (ow_assign rfl ?_)
  refine rs_nil ?_
  refine ew_next ?_
  refine cw_seq ?_
  refine cw_seq ?_
  refine cw_region ?_
  refine rs_op rfl (ow_fieldAddr Tryd.underlying33 rfl sz4 (by decide) rfl ?_)
  refine rs_op rfl (ow_loadF Tryd.underlying4 rfl rfl (HF.on E).here.2 rfl ?_)
  refine rs_nil ?_
  refine ew_next ?_
  refine cw_set 11 (.bool false) rfl ((by rw [hd] : (.bool (decide (j < 0)) : Value) = _)) ?_
  refine cw_else rfl ?_
  refine cw_skip ?_
  refine ew_next ?_
  refine cw_seq ?_
  refine cw_seq ?_
  refine cw_region ?_
  refine rs_op rfl (ow_fieldAddr Tryd.underlying33 rfl sz31 (by decide) rfl ?_)
  refine rs_op rfl (ow_loadF Tryd.underlying31 rfl rfl (HF.on E).here.2 rfl ?_)
  refine rs_op rfl (ow_len Tryd.underlying31 rfl ?_)
  refine rs_op rfl (ow_eql rfl rfl ?_)
  refine rs_nil ?_
  refine ew_next ?_
  refine cw_set 16 (.bool false) rfl ((by rw [beq_eq_false_iff_ne.2 hlen] : (.bool (((((tens j).length : Nat)) : Int) == 0) : Value) = _)) ?_
  refine cw_else rfl ?_
  refine cw_skip ?_
  refine ew_next ?_
  refine cw_seq ?_
  refine cw_seq ?_
  refine cw_region ?_
  refine rs_op rfl (ow_fieldAddr Tryd.underlying33 rfl sz31 (by decide) rfl ?_)
  refine rs_op rfl (ow_loadF Tryd.underlying31 rfl rfl (HF.on E).here.1.2 rfl ?_)
  refine rs_op rfl (ow_len Tryd.underlying31 rfl ?_)
  refine rs_op rfl (ow_eql rfl rfl ?_)
  refine rs_nil ?_
  refine ew_next ?_
  refine cw_set 22 (.bool false) rfl ((by rw [beq_eq_false_iff_ne.2 hleni] : (.bool (((((tens i).length : Nat)) : Int) == 0) : Value) = _)) ?_
  refine cw_else rfl ?_
  refine cw_skip ?_
  refine ew_next ?_
  refine cw_seq ?_
  refine cw_seq ?_
  refine cw_region ?_
  refine rs_op rfl (ow_fieldAddr Tryd.underlying33 rfl sz31 (by decide) rfl ?_)
  refine rs_op rfl (ow_loadF Tryd.underlying31 rfl rfl (HF.on E).here.1.2 rfl ?_)
  refine rs_op rfl (ow_len Tryd.underlying31 rfl ?_)
  refine rs_op rfl (ow_eql rfl rfl ?_)
  refine rs_op rfl (ow_move rfl ?_)
  have h1 : ((tens i).length : Int) = 1 := by rw [ten_len1 (by omega) (by omega)]; rfl
  refine rs_set 28 (.bool true) rfl ((by rw [h1]; rfl : (.bool (((((tens i).length : Nat)) : Int) == 1) : Value) = _)) ?_
  refine rs_op rfl (ow_on rfl (ow_fieldAddr Tryd.underlying33 rfl sz31 (by decide) rfl ?_))
  refine rs_op rfl (ow_on rfl (ow_loadF Tryd.underlying31 rfl rfl (HF.on E).here.1.2 rfl ?_))
  refine rs_op rfl (ow_on rfl (ow_indexAddr1 (j := 0) Tryd.underlying31 sz5 rfl rfl rfl hip ?_))
  refine rs_op rfl (ow_on rfl (ow_load1 Tryd.underlying5 rfl rfl (HF.on E).here.1.1.1.2 ?_))
  refine rs_op rfl (ow_on rfl (ow_eql rfl rfl ?_))
  refine rs_op rfl (ow_pickT rfl rfl ?_)
  refine rs_nil ?_
  refine ew_next ?_
  refine cw_set 34 (.bool true) rfl ((by rw [hi1]; rfl : (.bool (((i.natAbs % 10 : Nat) : Int) == 1) : Value) = _)) ?_
  refine cw_then rfl ?_
  refine cw_seq ?_
  have OY : ∀ k, (Mut (outM [⟨13, gb5, 33, #[.bool false, .slice none 0 0]⟩])) k → k < (World.drew w6).heap.size → (Mut [(some gb5)]) k := fun k h _ => ((Mut.grow Mut.none_ Mut.head)) k h
  refine cw_drawn (Mut [(some gb5)]) (Mut.grow Mut.none_ (some_lt Bb5.lt)) [] [⟨13, gb5, 33, #[.bool false, .slice none 0 0]⟩] (fxAt [Fx.of (.pointer (some ⟨gb1, 0, none⟩)),
      Fx.of (.bool true),
      Fx.of (.bool true),
      Fx.of (.pointer (some ⟨gb3, 1, none⟩)),
      Fx.of (.slice (some ⟨by_, oy, none⟩) (tens j).length d),
      Fx.of (.pointer (some ⟨by_, oy + 0, none⟩)),
      Fx.of (.int .u8 ((j.natAbs % 10 : Nat) : Int)),
      Fx.of (.int .u8 (((j.natAbs % 10 : Nat) : Int).tmod 2)),
      Fx.of (.bool (decide (j.toNat % 2 = 1))),
      Fx.of (.bool (decide (j.toNat % 2 = 1))),
      Fx.of (.pointer (some ⟨gb1, 1, none⟩)),
      Fx.of (.slice (some ⟨bx, ox, none⟩) (tens i).length c),
      Fx.of (.agg #[.bool (decide (j.toNat % 2 = 1)), .slice (some ⟨bx, ox, none⟩) (tens i).length c]),
      Fx.of undef,
      Fx.of (.int .i64 0)]) mixed rfl ⟨⟨Mut.head _ rfl, Bb5, fun _ h => by cases h⟩, trivial⟩ (by intro o ho; simp at ho; rcases ho with rfl <;> simp) ?_ ?_
  · refine ⟨?_, ?_, ?_, ?_, ?_, ?_, ?_, ?_, ?_, ?_, ?_, ?_, ?_, ?_, ?_, trivial⟩
    · intro vs X wq K
      have LE := K.1
      have XN := K.2.1
      have SQ := Nat.le_trans LW.size (Nat.le_trans E.size LE.size)
      exact ow_fieldAddr Tryd.underlying33 rfl sz4 (by decide) rfl ⟨Below.refl _ _, Left.of rfl⟩
    · intro vs X wq K
      have LE := K.1
      have XN := K.2.1
      have SQ := Nat.le_trans LW.size (Nat.le_trans E.size LE.size)
      obtain ⟨_, e0, k0⟩ := K.dep 0 rfl rfl rfl
      refine ow_set 35 (.pointer (some ⟨gb1, 0, none⟩)) rfl e0 ?_
      exact ow_loadF Tryd.underlying4 rfl rfl (HF.on (E.drew.trans (LE.mono OY))).here.1.2 rfl ⟨Below.refl _ _, Left.of ((by rw [hin] : (.bool (decide (i < 0)) : Value) = _))⟩
    · intro vs X wq K
      have LE := K.1
      have XN := K.2.1
      have SQ := Nat.le_trans LW.size (Nat.le_trans E.size LE.size)
      obtain ⟨_, e1, k1⟩ := K.dep 1 rfl rfl rfl
      refine ow_set 36 (.bool true) rfl e1 ?_
      exact ow_move rfl ⟨Below.refl _ _, Left.of rfl⟩
    · intro vs X wq K
      have LE := K.1
      have XN := K.2.1
      have SQ := Nat.le_trans LW.size (Nat.le_trans E.size LE.size)
      obtain ⟨_, e2, k2⟩ := K.dep 2 rfl rfl rfl
      refine ow_set 37 (.bool true) rfl e2 ?_
      exact ow_on rfl (ow_fieldAddr Tryd.underlying33 rfl sz31 (by decide) rfl ⟨Below.refl _ _, Left.of rfl⟩)
    · intro vs X wq K
      have LE := K.1
      have XN := K.2.1
      have SQ := Nat.le_trans LW.size (Nat.le_trans E.size LE.size)
      obtain ⟨_, e3, k3⟩ := K.dep 3 rfl rfl rfl
      refine ow_set 38 (.pointer (some ⟨gb3, 1, none⟩)) rfl e3 ?_
      obtain ⟨_, e2, k2⟩ := K.dep 2 rfl rfl rfl
      refine ow_set 37 (.bool true) rfl e2 ?_
      exact ow_on rfl (ow_loadF Tryd.underlying31 rfl rfl (HF.on (E.drew.trans (LE.mono OY))).here.2 rfl ⟨Below.refl _ _, Left.of rfl⟩)
    · intro vs X wq K
      have LE := K.1
      have XN := K.2.1
      have SQ := Nat.le_trans LW.size (Nat.le_trans E.size LE.size)
      obtain ⟨_, e4, k4⟩ := K.dep 4 rfl rfl rfl
      refine ow_set 39 (.slice (some ⟨by_, oy, none⟩) (tens j).length d) rfl e4 ?_
      obtain ⟨_, e2, k2⟩ := K.dep 2 rfl rfl rfl
      refine ow_set 37 (.bool true) rfl e2 ?_
      exact ow_on rfl (ow_indexAddr1 (j := 0) Tryd.underlying31 sz5 rfl rfl rfl hjp ⟨Below.refl _ _, Left.of rfl⟩)
    · intro vs X wq K
      have LE := K.1
      have XN := K.2.1
      have SQ := Nat.le_trans LW.size (Nat.le_trans E.size LE.size)
      obtain ⟨_, e5, k5⟩ := K.dep 5 rfl rfl rfl
      refine ow_set 40 (.pointer (some ⟨by_, oy + 0, none⟩)) rfl e5 ?_
      obtain ⟨_, e2, k2⟩ := K.dep 2 rfl rfl rfl
      refine ow_set 37 (.bool true) rfl e2 ?_
      exact ow_on rfl (ow_load1 Tryd.underlying5 rfl rfl (HF.on (E.drew.trans (LE.mono OY))).here.1.1.2 ⟨Below.refl _ _, Left.of rfl⟩)
    · intro vs X wq K
      have LE := K.1
      have XN := K.2.1
      have SQ := Nat.le_trans LW.size (Nat.le_trans E.size LE.size)
      obtain ⟨_, e6, k6⟩ := K.dep 6 rfl rfl rfl
      refine ow_set 41 (.int .u8 ((j.natAbs % 10 : Nat) : Int)) rfl e6 ?_
      obtain ⟨_, e2, k2⟩ := K.dep 2 rfl rfl rfl
      refine ow_set 37 (.bool true) rfl e2 ?_
      exact ow_on rfl (ow_rem rfl rfl (by decide) rfl ⟨Below.refl _ _, Left.of rfl⟩)
    · intro vs X wq K
      have LE := K.1
      have XN := K.2.1
      have SQ := Nat.le_trans LW.size (Nat.le_trans E.size LE.size)
      obtain ⟨_, e7, k7⟩ := K.dep 7 rfl rfl rfl
      refine ow_set 42 (.int .u8 (((j.natAbs % 10 : Nat) : Int).tmod 2)) rfl e7 ?_
      obtain ⟨_, e2, k2⟩ := K.dep 2 rfl rfl rfl
      refine ow_set 37 (.bool true) rfl e2 ?_
      exact ow_on rfl (ow_eql rfl rfl ⟨Below.refl _ _, Left.of ((by rw [ten_par h0] : (.bool ((((j.natAbs % 10 : Nat) : Int).tmod 2) == 1) : Value) = _))⟩)
    · intro vs X wq K
      have LE := K.1
      have XN := K.2.1
      have SQ := Nat.le_trans LW.size (Nat.le_trans E.size LE.size)
      obtain ⟨_, e2, k2⟩ := K.dep 2 rfl rfl rfl
      refine ow_set 37 (.bool true) rfl e2 ?_
      obtain ⟨_, e8, k8⟩ := K.dep 8 rfl rfl rfl
      refine ow_set 43 (.bool (decide (j.toNat % 2 = 1))) rfl e8 ?_
      exact ow_pickT rfl rfl ⟨Below.refl _ _, Left.of rfl⟩
    · intro vs X wq K
      have LE := K.1
      have XN := K.2.1
      have SQ := Nat.le_trans LW.size (Nat.le_trans E.size LE.size)
      exact ow_fieldAddr Tryd.underlying33 rfl sz31 (by decide) rfl ⟨Below.refl _ _, Left.of rfl⟩
    · intro vs X wq K
      have LE := K.1
      have XN := K.2.1
      have SQ := Nat.le_trans LW.size (Nat.le_trans E.size LE.size)
      obtain ⟨_, e10, k10⟩ := K.dep 10 rfl rfl rfl
      refine ow_set 45 (.pointer (some ⟨gb1, 1, none⟩)) rfl e10 ?_
      exact ow_loadF Tryd.underlying31 rfl rfl (HF.on (E.drew.trans (LE.mono OY))).here.1.2 rfl ⟨Below.refl _ _, Left.of rfl⟩
    · intro vs X wq K
      have LE := K.1
      have XN := K.2.1
      have SQ := Nat.le_trans LW.size (Nat.le_trans E.size LE.size)
      obtain ⟨_, e9, k9⟩ := K.dep 9 rfl rfl rfl
      refine ow_set 44 (.bool (decide (j.toNat % 2 = 1))) rfl e9 ?_
      obtain ⟨_, e11, k11⟩ := K.dep 11 rfl rfl rfl
      refine ow_set 46 (.slice (some ⟨bx, ox, none⟩) (tens i).length c) rfl e11 ?_
      exact ow_build (cs := #[.bool (decide (j.toNat % 2 = 1)), .slice (some ⟨bx, ox, none⟩) (tens i).length c]) pl33 zr33 rfl rfl ⟨Below.refl _ _, Left.of rfl⟩
    · refine ⟨_, _, _, _, _, rfl, rfl, sz33, fun vs X wq K => ⟨rfl, ?_⟩⟩
      obtain ⟨_, e0, _⟩ := K.dep 12 rfl rfl rfl
      exact ⟨vs 12, rfl, by rw [e0]; rfl, by rw [e0]; rfl⟩
    · intro vs X wq K
      have LE := K.1
      have XN := K.2.1
      have SQ := Nat.le_trans LW.size (Nat.le_trans E.size LE.size)
      exact ow_assign rfl ⟨Below.refl _ _, Left.of rfl⟩
  intro vs w7 LE AO AL AF AA
  have LBb5 := Bb5
  replace E := E.drew.trans (LE.mono OY)
  obtain ⟨_, e12, k12⟩ := AL.2.2.2.2.2.2.2.2.2.2.2.2.1
  obtain ⟨_, e14, k14⟩ := AL.2.2.2.2.2.2.2.2.2.2.2.2.2.2.1
  obtain ⟨v0, y0, Bx, ey, ev0⟩ := AO.1
  cases ey
  obtain rfl : vs 12 = v0 := Option.some.inj ev0
  rw [e12] at Bx
  replace Bb5 : Blk w7 gb5 33 #[.bool (decide (j.toNat % 2 = 1)), .slice (some ⟨bx, ox, none⟩) (tens i).length c] := Bx
  clear Bx
  refine ew_sub (τ := [(2, _), (3, _), (4, _), (5, .int .i64 0)]) ⟨rfl, rfl, rfl, congrArg some e14, trivial⟩ ?_
  clear AL AF AA LE AO OY e12 e14 k12 k14 LBb5
  refine ew_next ?_
  refine cw_ret ?_
  refine ew_then_ret ?_
  refine ew_ret (rs := [.cell 4 33, .tmp 5]) (vs := [_, _]) rfl ⟨⟨_, rfl, res_box Tryd.underlying33 rfl sz33 Bb5 rfl⟩, rfl, trivial⟩ ?_
  exact ⟨some ⟨bx, ox, none⟩, c, by rw [ht, hv]; rfl, by rw [ht]; exact (HF.on E).here.1.1.1.1.1.2, Or.inr ⟨rfl, ht⟩, (LW.step E XLW).toBelow⟩
theorem rpow_g1 (h0 : 1800 < j) (h2i : 2 ≤ i.natAbs) (h : i.natAbs < 10) : Calls Tryd.prog 39 #[.agg #[.bool (decide (i < 0)), .slice A (tens i).length c], .agg #[.bool (decide (j < 0)), .slice B (tens j).length d]] w (RetNumE w A (tens i) 0 7) := by
  have _ := hi
  have hd : decide (j < 0) = false := decide_eq_false (by omega)
  have hip := ten_pos (j := i) (by omega)
  have hjp := ten_pos (j := j) (by omega)
  have hlen : ((tens j).length : Int) ≠ 0 := by omega
  have hleni : ((tens i).length : Int) ≠ 0 := by omega
  obtain ⟨bx, ox, rfl, hbx, hcx⟩ := hx.2 hip
  obtain ⟨by_, oy, rfl, hby, hcy⟩ := hy.2 hjp
  have hc0 : w.cell? ⟨bx, ox + 0, none⟩ = some (.int .u8 ((i.natAbs % 10 : Nat) : Int)) := by rw [hcx 0 hip, nth_ten0 (by omega)]
  have hd0 : w.cell? ⟨by_, oy + 0, none⟩ = some (.int .u8 ((j.natAbs % 10 : Nat) : Int)) := by rw [hcy 0 hjp, nth_ten0 (by omega)]
  refine calls_cw Tryd.func39 rfl Tryd.ntmps39 rfl ?_
  have HF : Per No w (fun _ => True) := Per.true_
  have LW := Ext.refl (No) w
  have XLW : ∀ k, (No) k → (No) k ∨ w.heap.size ≤ k := fun _ h => Or.inl h
  have E := Ext.refl No w
  replace HF := HF.on E
  replace LW := LW.step E XLW
  replace E := Ext.refl (No) w
  replace HF := HF.and (Per.nums80 hx)
  replace HF := HF.on E
  replace LW := LW.step E XLW
  replace E := Ext.refl (No) w
  replace HF := HF.and (Per.nums80 hy)
  replace HF := HF.on E
  replace LW := LW.step E XLW
  replace E := Ext.refl (No) w
  replace HF := HF.and (Per.cell0 hc0)
  replace HF := HF.on E
  replace LW := LW.step E XLW
  replace E := Ext.refl (No) w
  replace HF := HF.and (Per.cell0 hd0)
  refine cw_seq ?_
  refine cw_region ?_
  refine rs_op rfl (ow_boxB rfl ?_)
  intro gb1 w2 Bb1 Eb1 Gb1
  have Gb1 : _ ≤ gb1 := Nat.le_trans E.size Gb1
  have GLb1 := Nat.le_trans LW.size Gb1
  replace E := E.trans Eb1.no
  clear Eb1
  replace HF := HF.cons (some_ge Gb1)
  replace E := E.cons (some gb1)
  replace XLW := Mut.grow XLW (fun k e => Or.inr (Nat.le_trans LW.size ((some_ge Gb1) k e)))
  replace HF := HF.on E
  replace LW := LW.step E XLW
  have SB : ∀ k, No k → Mut [(some gb1)] k := (Mut.skip Mut.nil_)
  replace HF := HF.less SB
  replace XLW := fun k h => XLW k (SB k h)
  clear SB
  replace E := Ext.refl (No) w2
  replace HF := HF.and (Per.blkN Bb1 NotIn.nil)
  clear Bb1
  refine rs_op rfl (ow_boxB rfl ?_)
  intro gb3 w4 Bb3 Eb3 Gb3
  have Gb3 : _ ≤ gb3 := Nat.le_trans E.size Gb3
  have GLb3 := Nat.le_trans LW.size Gb3
  replace E := E.trans Eb3.no
  clear Eb3
  replace HF := HF.cons (some_ge Gb3)
  replace E := E.cons (some gb3)
  replace XLW := Mut.grow XLW (fun k e => Or.inr (Nat.le_trans LW.size ((some_ge Gb3) k e)))
  replace HF := HF.on E
  replace LW := LW.step E XLW
  have SB : ∀ k, No k → Mut [(some gb3)] k := (Mut.skip Mut.nil_)
  replace HF := HF.less SB
  replace XLW := fun k h => XLW k (SB k h)
  clear SB
  replace E := Ext.refl (No) w4
  replace HF := HF.and (Per.blkN Bb3 NotIn.nil)
  clear Bb3
  refine rs_op rfl (ow_allocB zr33 ?_)
  intro gb5 w6 Bb5 Eb5 Gb5
  have Gb5 : _ ≤ gb5 := Nat.le_trans E.size Gb5
  have GLb5 := Nat.le_trans LW.size Gb5
  replace E := E.trans Eb5.no
  clear Eb5
  replace HF := HF.cons (some_ge Gb5)
  replace E := E.cons (some gb5)
  replace XLW := Mut.grow XLW (fun k e => Or.inr (Nat.le_trans LW.size ((some_ge Gb5) k e)))
  refine rs_op rfl (ow_assign rfl ?_)
  refine rs_nil ?_
  refine ew_next ?_
  refine cw_seq ?_
  refine cw_seq ?_
  refine cw_region ?_
  refine rs_op rfl (ow_fieldAddr Tryd.underlying33 rfl sz4 (by decide) rfl ?_)
  refine rs_op rfl (ow_loadF Tryd.underlying4 rfl rfl (HF.on E).here.2 rfl ?_)
  refine rs_nil ?_
  refine ew_next ?_
  refine cw_set 11 (.bool false) rfl ((by rw [hd] : (.bool (decide (j < 0)) : Value) = _)) ?_
  refine cw_else rfl ?_
  refine cw_skip ?_
  refine ew_next ?_
  refine cw_seq ?_
  refine cw_seq ?_
  refine cw_region ?_
  refine rs_op rfl (ow_fieldAddr Tryd.underlying33 rfl sz31 (by decide) rfl ?_)
  refine rs_op rfl (ow_loadF Tryd.underlying31 rfl rfl (HF.on E).here.2 rfl ?_)
  refine rs_op rfl (ow_len Tryd.underlying31 rfl ?_)
  refine rs_op rfl (ow_eql rfl rfl ?_)
  refine rs_nil ?_
  refine ew_next ?_
  refine cw_set 16 (.bool false) rfl ((by rw [beq_eq_false_iff_ne.2 hlen] : (.bool (((((tens j).length : Nat)) : Int) == 0) : Value) = _)) ?_
  refine cw_else rfl ?_
  refine cw_skip ?_
  refine ew_next ?_
  refine cw_seq ?_
  refine cw_seq ?_
  refine cw_region ?_
  refine rs_op rfl (ow_fieldAddr Tryd.underlying33 rfl sz31 (by decide) rfl ?_)
  refine rs_op rfl (ow_loadF Tryd.underlying31 rfl rfl (HF.on E).here.1.2 rfl ?_)
  refine rs_op rfl (ow_len Tryd.underlying31 rfl ?_)
  refine rs_op rfl (ow_eql rfl rfl ?_)
  refine rs_nil ?_
  refine ew_next ?_
  refine cw_set 22 (.bool false) rfl ((by rw [beq_eq_false_iff_ne.2 hleni] : (.bool (((((tens i).length : Nat)) : Int) == 0) : Value) = _)) ?_
  refine cw_else rfl ?_
  refine cw_skip ?_
  refine ew_next ?_
  refine cw_seq ?_
  refine cw_seq ?_
  refine cw_region ?_
  refine rs_op rfl (ow_fieldAddr Tryd.underlying33 rfl sz31 (by decide) rfl ?_)
  refine rs_op rfl (ow_loadF Tryd.underlying31 rfl rfl (HF.on E).here.1.2 rfl ?_)
  refine rs_op rfl (ow_len Tryd.underlying31 rfl ?_)
  refine rs_op rfl (ow_eql rfl rfl ?_)
  refine rs_op rfl (ow_move rfl ?_)
  have h1 : ((tens i).length : Int) = 1 := by rw [ten_len1 (by omega) (by omega)]; rfl
  refine rs_set 28 (.bool true) rfl ((by rw [h1]; rfl : (.bool (((((tens i).length : Nat)) : Int) == 1) : Value) = _)) ?_
  refine rs_op rfl (ow_on rfl (ow_fieldAddr Tryd.underlying33 rfl sz31 (by decide) rfl ?_))
  refine rs_op rfl (ow_on rfl (ow_loadF Tryd.underlying31 rfl rfl (HF.on E).here.1.2 rfl ?_))
  refine rs_op rfl (ow_on rfl (ow_indexAddr1 (j := 0) Tryd.underlying31 sz5 rfl rfl rfl hip ?_))
  refine rs_op rfl (ow_on rfl (ow_load1 Tryd.underlying5 rfl rfl (HF.on E).here.1.1.1.2 ?_))
  refine rs_op rfl (ow_on rfl (ow_eql rfl rfl ?_))
  refine rs_op rfl (ow_pickT rfl rfl ?_)
  refine rs_nil ?_
  refine ew_next ?_
  refine cw_set 34 (.bool false) rfl ((by rw [Nat.mod_eq_of_lt h, beq_eq_false_iff_ne.2 (by omega)] : (.bool (((i.natAbs % 10 : Nat) : Int) == 1) : Value) = _)) ?_
  refine cw_else rfl ?_
  refine cw_skip ?_
  refine ew_next ?_
  refine cw_seq ?_
  refine cw_region ?_
  refine rs_op rfl (ow_loadB Tryd.underlying33 rfl sz33 rfl (HF.on E).here.2 rfl ?_)
  refine rs_op rfl (ow_enter en26 rfl ((rsmall_any _ d j _ (HF.on E).here.1.1.1.1.2 (by have := tens_length hj; omega)).mono ?_))
  rintro e w7 ⟨rfl, hb⟩
  refine ⟨_, rfl, ?_⟩
  have XC : ∀ k, (Mut [(some gb5)]) k → k < w6.heap.size := (Mut.grow Mut.none_ (some_lt Bb5.lt))
  have SC := Nat.le_trans LW.size E.size
  have Ec := Ext.of_below hb No
  replace Bb5 := Bb5.extN Ec NotIn.nil
  replace E := E.trans Ec.no
  clear hb Ec
  refine rs_op rfl (ow_move rfl ?_)
  refine rs_op rfl (ow_extract rfl rfl ?_)
  refine rs_op rfl (ow_extract rfl rfl ?_)
  refine rs_op rfl (ow_assign rfl ?_)
  refine rs_op rfl (ow_assign rfl ?_)
  refine rs_nil ?_
  refine ew_next ?_
  refine cw_seq ?_
  refine cw_seq ?_
  refine cw_region ?_
  refine rs_op rfl (ow_move rfl ?_)
  refine rs_op rfl (ow_not rfl ?_)
  refine rs_op rfl (ow_move rfl ?_)
  refine rs_split 55 rfl (fun q => ?_) (fun q => ?_)
  · have _way := True.intro
    refine rs_op rfl (ow_off rfl ?_)
    refine rs_op rfl (ow_off rfl ?_)
    refine rs_op rfl (ow_pickT rfl rfl ?_)
    refine rs_nil ?_
    refine ew_next ?_
    refine cw_then rfl ?_
    refine cw_seq ?_
    refine cw_region ?_
    refine rs_op rfl (ow_build (cs := #[.bool false, .slice none 0 0]) pl33 zr33 rfl rfl ?_)
    refine rs_op0 (ow_storeM sz33 rfl rfl Bb5 rfl rfl (Nat.le_of_ble_eq_true rfl) ?_)
    intro w8 Bx Eb5
    replace Bb5 := Bx
    clear Bx
    replace E := E.step1 Eb5 Mut.head
    clear Eb5
    refine rs_op rfl (ow_assign rfl ?_)
    refine rs_nil ?_
    refine ew_next ?_
    refine cw_ret ?_
    refine ew_then_ret ?_
    refine ew_ret (rs := [.cell 4 33, .tmp 5]) (vs := [_, _]) rfl ⟨⟨_, rfl, res_box Tryd.underlying33 rfl sz33 Bb5 rfl⟩, rfl, trivial⟩ ?_
    exact retNumE_zero (LW.step E XLW).toBelow
  · have _way := True.intro
    have hin : inR j := by simpa using q
    have hs : (1800 : Int) < smV j := by unfold smV; rw [if_pos hin]; omega
    refine rs_op rfl (ow_on rfl (ow_move rfl ?_))
    refine rs_op rfl (ow_on rfl (ow_gtr rfl rfl ?_))
    refine rs_op rfl (ow_pickF rfl rfl ?_)
    refine rs_nil ?_
    refine ew_next ?_
    refine cw_set 58 (.bool true) rfl ((by rw [decide_eq_true hs] : (.bool (decide (1800 < (smV j))) : Value) = _)) ?_
    refine cw_then rfl ?_
    refine cw_seq ?_
    refine cw_region ?_
    refine rs_op rfl (ow_build (cs := #[.bool false, .slice none 0 0]) pl33 zr33 rfl rfl ?_)
    refine rs_op0 (ow_storeM sz33 rfl rfl Bb5 rfl rfl (Nat.le_of_ble_eq_true rfl) ?_)
    intro w9 Bx Eb5
    replace Bb5 := Bx
    clear Bx
    replace E := E.step1 Eb5 Mut.head
    clear Eb5
    refine rs_op rfl (ow_assign rfl ?_)
    refine rs_nil ?_
    refine ew_next ?_
    refine cw_ret ?_
    refine ew_then_ret ?_
    refine ew_ret (rs := [.cell 4 33, .tmp 5]) (vs := [_, _]) rfl ⟨⟨_, rfl, res_box Tryd.underlying33 rfl sz33 Bb5 rfl⟩, rfl, trivial⟩ ?_
    exact retNumE_zero (LW.step E XLW).toBelow
theorem rpow_g2 (h0 : 1800 < j) (h2i : 2 ≤ i.natAbs) (h : 10 ≤ i.natAbs) : Calls Tryd.prog 39 #[.agg #[.bool (decide (i < 0)), .slice A (tens i).length c], .agg #[.bool (decide (j < 0)), .slice B (tens j).length d]] w (RetNumE w A (tens i) 0 7) := by
  have _ := hi
  have hd : decide (j < 0) = false := decide_eq_false (by omega)
  have hip := ten_pos (j := i) (by omega)
  have hjp := ten_pos (j := j) (by omega)
  have hlen : ((tens j).length : Int) ≠ 0 := by omega
  have hleni : ((tens i).length : Int) ≠ 0 := by omega
  obtain ⟨bx, ox, rfl, hbx, hcx⟩ := hx.2 hip
  obtain ⟨by_, oy, rfl, hby, hcy⟩ := hy.2 hjp
  have hc0 : w.cell? ⟨bx, ox + 0, none⟩ = some (.int .u8 ((i.natAbs % 10 : Nat) : Int)) := by rw [hcx 0 hip, nth_ten0 (by omega)]
  have hd0 : w.cell? ⟨by_, oy + 0, none⟩ = some (.int .u8 ((j.natAbs % 10 : Nat) : Int)) := by rw [hcy 0 hjp, nth_ten0 (by omega)]
  refine calls_cw Tryd.func39 rfl Tryd.ntmps39 rfl ?_
  have HF : Per No w (fun _ => True) := Per.true_
  have LW := Ext.refl (No) w
  have XLW : ∀ k, (No) k → (No) k ∨ w.heap.size ≤ k := fun _ h => Or.inl h
  have E := Ext.refl No w
  replace HF := HF.on E
  replace LW := LW.step E XLW
  replace E := Ext.refl (No) w
  replace HF := HF.and (Per.nums80 hx)
  replace HF := HF.on E
  replace LW := LW.step E XLW
  replace E := Ext.refl (No) w
  replace HF := HF.and (Per.nums80 hy)
  replace HF := HF.on E
  replace LW := LW.step E XLW
  replace E := Ext.refl (No) w
  replace HF := HF.and (Per.cell0 hc0)
  replace HF := HF.on E
  replace LW := LW.step E XLW
  replace E := Ext.refl (No) w
  replace HF := HF.and (Per.cell0 hd0)
  refine cw_seq ?_
  refine cw_region ?_
  refine rs_op rfl (ow_boxB rfl ?_)
  intro gb1 w2 Bb1 Eb1 Gb1
  have Gb1 : _ ≤ gb1 := Nat.le_trans E.size Gb1
  have GLb1 := Nat.le_trans LW.size Gb1
  replace E := E.trans Eb1.no
  clear Eb1
  replace HF := HF.cons (some_ge Gb1)
  replace E := E.cons (some gb1)
  replace XLW := Mut.grow XLW (fun k e => Or.inr (Nat.le_trans LW.size ((some_ge Gb1) k e)))
  replace HF := HF.on E
  replace LW := LW.step E XLW
  have SB : ∀ k, No k → Mut [(some gb1)] k := (Mut.skip Mut.nil_)
  replace HF := HF.less SB
  replace XLW := fun k h => XLW k (SB k h)
  clear SB
  replace E := Ext.refl (No) w2
  replace HF := HF.and (Per.blkN Bb1 NotIn.nil)
  clear Bb1
  refine rs_op rfl (ow_boxB rfl ?_)
  intro gb3 w4 Bb3 Eb3 Gb3
  have Gb3 : _ ≤ gb3 := Nat.le_trans E.size Gb3
  have GLb3 := Nat.le_trans LW.size Gb3
  replace E := E.trans Eb3.no
  clear Eb3
  replace HF := HF.cons (some_ge Gb3)
  replace E := E.cons (some gb3)
  replace XLW := Mut.grow XLW (fun k e => Or.inr (Nat.le_trans LW.size ((some_ge Gb3) k e)))
  replace HF := HF.on E
  replace LW := LW.step E XLW
  have SB : ∀ k, No k → Mut [(some gb3)] k := (Mut.skip Mut.nil_)
  replace HF := HF.less SB
  replace XLW := fun k h => XLW k (SB k h)
  clear SB
  replace E := Ext.refl (No) w4
  replace HF := HF.and (Per.blkN Bb3 NotIn.nil)
  clear Bb3
  refine rs_op rfl (ow_allocB zr33 ?_)
  intro gb5 w6 Bb5 Eb5 Gb5
  have Gb5 : _ ≤ gb5 := Nat.le_trans E.size Gb5
  have GLb5 := Nat.le_trans LW.size Gb5
  replace E := E.trans Eb5.no
  clear Eb5
  replace HF := HF.cons (some_ge Gb5)
  replace E := E.cons (some gb5)
  replace XLW := Mut.grow XLW (fun k e => Or.inr (Nat.le_trans LW.size ((some_ge Gb5) k e)))
  refine rs_op rfl (ow_assign rfl ?_)
  refine rs_nil ?_
  refine ew_next ?_
  refine cw_seq ?_
  refine cw_seq ?_
  refine cw_region ?_
  refine rs_op rfl (ow_fieldAddr Tryd.underlying33 rfl sz4 (by decide) rfl ?_)
  refine rs_op rfl (ow_loadF Tryd.underlying4 rfl rfl (HF.on E).here.2 rfl ?_)
  refine rs_nil ?_
  refine ew_next ?_
  refine cw_set 11 (.bool false) rfl ((by rw [hd] : (.bool (decide (j < 0)) : Value) = _)) ?_
  refine cw_else rfl ?_
  refine cw_skip ?_
  refine ew_next ?_
  refine cw_seq ?_
  refine cw_seq ?_
  refine cw_region ?_
  refine rs_op rfl (ow_fieldAddr Tryd.underlying33 rfl sz31 (by decide) rfl ?_)
  refine rs_op rfl (ow_loadF Tryd.underlying31 rfl rfl (HF.on E).here.2 rfl ?_)
  refine rs_op rfl (ow_len Tryd.underlying31 rfl ?_)
  refine rs_op rfl (ow_eql rfl rfl ?_)
  refine rs_nil ?_
  refine ew_next ?_
  refine cw_set 16 (.bool false) rfl ((by rw [beq_eq_false_iff_ne.2 hlen] : (.bool (((((tens j).length : Nat)) : Int) == 0) : Value) = _)) ?_
  refine cw_else rfl ?_
  refine cw_skip ?_
  refine ew_next ?_
  refine cw_seq ?_
  refine cw_seq ?_
  refine cw_region ?_
  refine rs_op rfl (ow_fieldAddr Tryd.underlying33 rfl sz31 (by decide) rfl ?_)
  refine rs_op rfl (ow_loadF Tryd.underlying31 rfl rfl (HF.on E).here.1.2 rfl ?_)
  refine rs_op rfl (ow_len Tryd.underlying31 rfl ?_)
  refine rs_op rfl (ow_eql rfl rfl ?_)
  refine rs_nil ?_
  refine ew_next ?_
  refine cw_set 22 (.bool false) rfl ((by rw [beq_eq_false_iff_ne.2 hleni] : (.bool (((((tens i).length : Nat)) : Int) == 0) : Value) = _)) ?_
  refine cw_else rfl ?_
  refine cw_skip ?_
  refine ew_next ?_
  refine cw_seq ?_
  refine cw_seq ?_
  refine cw_region ?_
  refine rs_op rfl (ow_fieldAddr Tryd.underlying33 rfl sz31 (by decide) rfl ?_)
  refine rs_op rfl (ow_loadF Tryd.underlying31 rfl rfl (HF.on E).here.1.2 rfl ?_)
  refine rs_op rfl (ow_len Tryd.underlying31 rfl ?_)
  refine rs_op rfl (ow_eql rfl rfl ?_)
  refine rs_op rfl (ow_move rfl ?_)
  have h1 : ((tens i).length : Int) ≠ 1 := by have := ten_len2 h; omega
  refine rs_set 28 (.bool false) rfl ((by rw [beq_eq_false_iff_ne.2 h1] : (.bool (((((tens i).length : Nat)) : Int) == 1) : Value) = _)) ?_
  refine rs_op rfl (ow_off rfl ?_)
  refine rs_op rfl (ow_off rfl ?_)
  refine rs_op rfl (ow_off rfl ?_)
  refine rs_op rfl (ow_off rfl ?_)
  refine rs_op rfl (ow_off rfl ?_)
  refine rs_op rfl (ow_pickF rfl rfl ?_)
  refine rs_nil ?_
  refine ew_next ?_
  refine cw_else rfl ?_
  refine cw_skip ?_
  refine ew_next ?_
  refine cw_seq ?_
  refine cw_region ?_
  refine rs_op rfl (ow_loadB Tryd.underlying33 rfl sz33 rfl (HF.on E).here.2 rfl ?_)
  refine rs_op rfl (ow_enter en26 rfl ((rsmall_any _ d j _ (HF.on E).here.1.1.1.1.2 (by have := tens_length hj; omega)).mono ?_))
  rintro e w7 ⟨rfl, hb⟩
  refine ⟨_, rfl, ?_⟩
  have XC : ∀ k, (Mut [(some gb5)]) k → k < w6.heap.size := (Mut.grow Mut.none_ (some_lt Bb5.lt))
  have SC := Nat.le_trans LW.size E.size
  have Ec := Ext.of_below hb No
  replace Bb5 := Bb5.extN Ec NotIn.nil
  replace E := E.trans Ec.no
  clear hb Ec
  refine rs_op rfl (ow_move rfl ?_)
  refine rs_op rfl (ow_extract rfl rfl ?_)
  refine rs_op rfl (ow_extract rfl rfl ?_)
  refine rs_op rfl (ow_assign rfl ?_)
  refine rs_op rfl (ow_assign rfl ?_)
  refine rs_nil ?_
  refine ew_next ?_
  refine cw_seq ?_
  refine cw_seq ?_
  refine cw_region ?_
  refine rs_op rfl (ow_move rfl ?_)
  refine rs_op rfl (ow_not rfl ?_)
  refine rs_op rfl (ow_move rfl ?_)
  refine rs_split 55 rfl (fun q => ?_) (fun q => ?_)
  · have _way := True.intro
    refine rs_op rfl (ow_off rfl ?_)
    refine rs_op rfl (ow_off rfl ?_)
    refine rs_op rfl (ow_pickT rfl rfl ?_)
    refine rs_nil ?_
    refine ew_next ?_
    refine cw_then rfl ?_
    refine cw_seq ?_
    refine cw_region ?_
    refine rs_op rfl (ow_build (cs := #[.bool false, .slice none 0 0]) pl33 zr33 rfl rfl ?_)
    refine rs_op0 (ow_storeM sz33 rfl rfl Bb5 rfl rfl (Nat.le_of_ble_eq_true rfl) ?_)
    intro w8 Bx Eb5
    replace Bb5 := Bx
    clear Bx
    replace E := E.step1 Eb5 Mut.head
    clear Eb5
    refine rs_op rfl (ow_assign rfl ?_)
    refine rs_nil ?_
    refine ew_next ?_
    refine cw_ret ?_
    refine ew_then_ret ?_
    refine ew_ret (rs := [.cell 4 33, .tmp 5]) (vs := [_, _]) rfl ⟨⟨_, rfl, res_box Tryd.underlying33 rfl sz33 Bb5 rfl⟩, rfl, trivial⟩ ?_
    exact retNumE_zero (LW.step E XLW).toBelow
  · have _way := True.intro
    have hin : inR j := by simpa using q
    have hs : (1800 : Int) < smV j := by unfold smV; rw [if_pos hin]; omega
    refine rs_op rfl (ow_on rfl (ow_move rfl ?_))
    refine rs_op rfl (ow_on rfl (ow_gtr rfl rfl ?_))
    refine rs_op rfl (ow_pickF rfl rfl ?_)
    refine rs_nil ?_
    refine ew_next ?_
    refine cw_set 58 (.bool true) rfl ((by rw [decide_eq_true hs] : (.bool (decide (1800 < (smV j))) : Value) = _)) ?_
    refine cw_then rfl ?_
    refine cw_seq ?_
    refine cw_region ?_
    refine rs_op rfl (ow_build (cs := #[.bool false, .slice none 0 0]) pl33 zr33 rfl rfl ?_)
    refine rs_op0 (ow_storeM sz33 rfl rfl Bb5 rfl rfl (Nat.le_of_ble_eq_true rfl) ?_)
    intro w9 Bx Eb5
    replace Bb5 := Bx
    clear Bx
    replace E := E.step1 Eb5 Mut.head
    clear Eb5
    refine rs_op rfl (ow_assign rfl ?_)
    refine rs_nil ?_
    refine ew_next ?_
    refine cw_ret ?_
    refine ew_then_ret ?_
    refine ew_ret (rs := [.cell 4 33, .tmp 5]) (vs := [_, _]) rfl ⟨⟨_, rfl, res_box Tryd.underlying33 rfl sz33 Bb5 rfl⟩, rfl, trivial⟩ ?_
    exact retNumE_zero (LW.step E XLW).toBelow
theorem rpow_l1 (h0 : 0 < j) (hj2 : j ≤ 1800) (h2i : 2 ≤ i.natAbs) (h : i.natAbs < 10) : Calls Tryd.prog 39 #[.agg #[.bool (decide (i < 0)), .slice A (tens i).length c], .agg #[.bool (decide (j < 0)), .slice B (tens j).length d]] w (RetNumE w A (tens i) (outV true (i ^ j.toNat)) (outE true (i ^ j.toNat))) := by
  have hd : decide (j < 0) = false := decide_eq_false (by omega)
  have hip := ten_pos (j := i) (by omega)
  have hjp := ten_pos (j := j) (by omega)
  have hlen : ((tens j).length : Int) ≠ 0 := by omega
  have hleni : ((tens i).length : Int) ≠ 0 := by omega
  obtain ⟨bx, ox, rfl, hbx, hcx⟩ := hx.2 hip
  obtain ⟨by_, oy, rfl, hby, hcy⟩ := hy.2 hjp
  have hc0 : w.cell? ⟨bx, ox + 0, none⟩ = some (.int .u8 ((i.natAbs % 10 : Nat) : Int)) := by rw [hcx 0 hip, nth_ten0 (by omega)]
  have hd0 : w.cell? ⟨by_, oy + 0, none⟩ = some (.int .u8 ((j.natAbs % 10 : Nat) : Int)) := by rw [hcy 0 hjp, nth_ten0 (by omega)]
  refine calls_cw Tryd.func39 rfl Tryd.ntmps39 rfl ?_
  have HF : Per No w (fun _ => True) := Per.true_
  have LW := Ext.refl (No) w
  have XLW : ∀ k, (No) k → (No) k ∨ w.heap.size ≤ k := fun _ h => Or.inl h
  have E := Ext.refl No w
  replace HF := HF.on E
  replace LW := LW.step E XLW
  replace E := Ext.refl (No) w
  replace HF := HF.and (Per.nums80 hx)
  replace HF := HF.on E
  replace LW := LW.step E XLW
  replace E := Ext.refl (No) w
  replace HF := HF.and (Per.nums80 hy)
  replace HF := HF.on E
  replace LW := LW.step E XLW
  replace E := Ext.refl (No) w
  replace HF := HF.and (Per.cell0 hc0)
  replace HF := HF.on E
  replace LW := LW.step E XLW
  replace E := Ext.refl (No) w
  replace HF := HF.and (Per.cell0 hd0)
  refine cw_seq ?_
  refine cw_region ?_
  refine rs_op rfl (ow_boxB rfl ?_)
  intro gb1 w2 Bb1 Eb1 Gb1
  have Gb1 : _ ≤ gb1 := Nat.le_trans E.size Gb1
  have GLb1 := Nat.le_trans LW.size Gb1
  replace E := E.trans Eb1.no
  clear Eb1
  replace HF := HF.cons (some_ge Gb1)
  replace E := E.cons (some gb1)
  replace XLW := Mut.grow XLW (fun k e => Or.inr (Nat.le_trans LW.size ((some_ge Gb1) k e)))
  replace HF := HF.on E
  replace LW := LW.step E XLW
  have SB : ∀ k, No k → Mut [(some gb1)] k := (Mut.skip Mut.nil_)
  replace HF := HF.less SB
  replace XLW := fun k h => XLW k (SB k h)
  clear SB
  replace E := Ext.refl (No) w2
  replace HF := HF.and (Per.blkN Bb1 NotIn.nil)
  clear Bb1
  refine rs_op rfl (ow_boxB rfl ?_)
  intro gb3 w4 Bb3 Eb3 Gb3
  have Gb3 : _ ≤ gb3 := Nat.le_trans E.size Gb3
  have GLb3 := Nat.le_trans LW.size Gb3
  replace E := E.trans Eb3.no
  clear Eb3
  replace HF := HF.cons (some_ge Gb3)
  replace E := E.cons (some gb3)
  replace XLW := Mut.grow XLW (fun k e => Or.inr (Nat.le_trans LW.size ((some_ge Gb3) k e)))
  replace HF := HF.on E
  replace LW := LW.step E XLW
  have SB : ∀ k, No k → Mut [(some gb3)] k := (Mut.skip Mut.nil_)
  replace HF := HF.less SB
  replace XLW := fun k h => XLW k (SB k h)
  clear SB
  replace E := Ext.refl (No) w4
  replace HF := HF.and (Per.blkN Bb3 NotIn.nil)
  clear Bb3
  refine rs_op rfl (ow_allocB zr33 ?_)
  intro gb5 w6 Bb5 Eb5 Gb5
  have Gb5 : _ ≤ gb5 := Nat.le_trans E.size Gb5
  have GLb5 := Nat.le_trans LW.size Gb5
  replace E := E.trans Eb5.no
  clear Eb5
  replace HF := HF.cons (some_ge Gb5)
  replace E := E.cons (some gb5)
  replace XLW := Mut.grow XLW (fun k e => Or.inr (Nat.le_trans LW.size ((some_ge Gb5) k e)))
  refine rs_op rfl (ow_assign rfl ?_)
  refine rs_nil ?_
  refine ew_next ?_
  refine cw_seq ?_
  refine cw_seq ?_
  refine cw_region ?_
  refine rs_op rfl (ow_fieldAddr Tryd.underlying33 rfl sz4 (by decide) rfl ?_)
  refine rs_op rfl (ow_loadF Tryd.underlying4 rfl rfl (HF.on E).here.2 rfl ?_)
  refine rs_nil ?_
  refine ew_next ?_
  refine cw_set 11 (.bool false) rfl ((by rw [hd] : (.bool (decide (j < 0)) : Value) = _)) ?_
  refine cw_else rfl ?_
  refine cw_skip ?_
  refine ew_next ?_
  refine cw_seq ?_
  refine cw_seq ?_
  refine cw_region ?_
  refine rs_op rfl (ow_fieldAddr Tryd.underlying33 rfl sz31 (by decide) rfl ?_)
  refine rs_op rfl (ow_loadF Tryd.underlying31 rfl rfl (HF.on E).here.2 rfl ?_)
  refine rs_op rfl (ow_len Tryd.underlying31 rfl ?_)
  refine rs_op rfl (ow_eql rfl rfl ?_)
  refine rs_nil ?_
  refine ew_next ?_
  refine cw_set 16 (.bool false) rfl ((by rw [beq_eq_false_iff_ne.2 hlen] : (.bool (((((tens j).length : Nat)) : Int) == 0) : Value) = _)) ?_
  refine cw_else rfl ?_
  refine cw_skip ?_
  refine ew_next ?_
  refine cw_seq ?_
  refine cw_seq ?_
  refine cw_region ?_
  refine rs_op rfl (ow_fieldAddr Tryd.underlying33 rfl sz31 (by decide) rfl ?_)
  refine rs_op rfl (ow_loadF Tryd.underlying31 rfl rfl (HF.on E).here.1.2 rfl ?_)
  refine rs_op rfl (ow_len Tryd.underlying31 rfl ?_)
  refine rs_op rfl (ow_eql rfl rfl ?_)
  refine rs_nil ?_
  refine ew_next ?_
  refine cw_set 22 (.bool false) rfl ((by rw [beq_eq_false_iff_ne.2 hleni] : (.bool (((((tens i).length : Nat)) : Int) == 0) : Value) = _)) ?_
  refine cw_else rfl ?_
  refine cw_skip ?_
  refine ew_next ?_
  refine cw_seq ?_
  refine cw_seq ?_
  refine cw_region ?_
  refine rs_op rfl (ow_fieldAddr Tryd.underlying33 rfl sz31 (by decide) rfl ?_)
  refine rs_op rfl (ow_loadF Tryd.underlying31 rfl rfl (HF.on E).here.1.2 rfl ?_)
  refine rs_op rfl (ow_len Tryd.underlying31 rfl ?_)
  refine rs_op rfl (ow_eql rfl rfl ?_)
  refine rs_op rfl (ow_move rfl ?_)
  have h1 : ((tens i).length : Int) = 1 := by rw [ten_len1 (by omega) (by omega)]; rfl
  refine rs_set 28 (.bool true) rfl ((by rw [h1]; rfl : (.bool (((((tens i).length : Nat)) : Int) == 1) : Value) = _)) ?_
  refine rs_op rfl (ow_on rfl (ow_fieldAddr Tryd.underlying33 rfl sz31 (by decide) rfl ?_))
  refine rs_op rfl (ow_on rfl (ow_loadF Tryd.underlying31 rfl rfl (HF.on E).here.1.2 rfl ?_))
  refine rs_op rfl (ow_on rfl (ow_indexAddr1 (j := 0) Tryd.underlying31 sz5 rfl rfl rfl hip ?_))
  refine rs_op rfl (ow_on rfl (ow_load1 Tryd.underlying5 rfl rfl (HF.on E).here.1.1.1.2 ?_))
  refine rs_op rfl (ow_on rfl (ow_eql rfl rfl ?_))
  refine rs_op rfl (ow_pickT rfl rfl ?_)
  refine rs_nil ?_
  refine ew_next ?_
  refine cw_set 34 (.bool false) rfl ((by rw [Nat.mod_eq_of_lt h, beq_eq_false_iff_ne.2 (by omega)] : (.bool (((i.natAbs % 10 : Nat) : Int) == 1) : Value) = _)) ?_
  refine cw_else rfl ?_
  refine cw_skip ?_
  refine ew_next ?_
  refine cw_seq ?_
  refine cw_region ?_
  refine rs_op rfl (ow_loadB Tryd.underlying33 rfl sz33 rfl (HF.on E).here.2 rfl ?_)
  have hin : inR j := by unfold inR; omega
  have hsm : smV j = j := by unfold smV; rw [if_pos hin]
  have hti := tens_length hi
  refine rs_op rfl (ow_enter en26 rfl ((rsmall_any _ d j _ (HF.on E).here.1.1.1.1.2 (by have := tens_length hj; omega)).mono ?_))
  rintro e w7 ⟨rfl, hb⟩
  refine ⟨_, rfl, ?_⟩
  have XC : ∀ k, (Mut [(some gb5)]) k → k < w6.heap.size := (Mut.grow Mut.none_ (some_lt Bb5.lt))
  have SC := Nat.le_trans LW.size E.size
  have Ec := Ext.of_below hb No
  replace Bb5 := Bb5.extN Ec NotIn.nil
  replace E := E.trans Ec.no
  clear hb Ec
  refine rs_op rfl (ow_move rfl ?_)
  refine rs_op rfl (ow_extract rfl rfl ?_)
  refine rs_op rfl (ow_extract rfl rfl ?_)
  refine rs_op rfl (ow_assign rfl ?_)
  refine rs_op rfl (ow_assign rfl ?_)
  refine rs_nil ?_
  refine ew_next ?_
  refine cw_seq ?_
  refine cw_seq ?_
  refine cw_region ?_
  refine rs_op rfl (ow_move rfl ?_)
  refine rs_op rfl (ow_not rfl ?_)
  refine rs_op rfl (ow_move rfl ?_)
  refine rs_set 55 (.bool false) rfl ((by rw [decide_eq_true hin]; rfl : (.bool (!(decide (inR j))) : Value) = _)) ?_
  refine rs_op rfl (ow_on rfl (ow_move rfl ?_))
  refine rs_op rfl (ow_on rfl (ow_gtr rfl rfl ?_))
  refine rs_op rfl (ow_pickF rfl rfl ?_)
  refine rs_nil ?_
  refine ew_next ?_
  refine cw_set 58 (.bool false) rfl ((by rw [hsm, decide_eq_false (by omega)] : (.bool (decide (1800 < (smV j))) : Value) = _)) ?_
  refine cw_else rfl ?_
  refine cw_skip ?_
  refine ew_next ?_
  refine cw_seq ?_
  refine cw_region ?_
  refine rs_op rfl (ow_buildSlice (cs := #[.int .u8 1]) Tryd.underlying31 sz5 zr5 (by decide) rfl (by rw [map_range_]; rfl) ?_)
  intro gb8 w9 Bb8 Eb8 Gb8
  have Db8_b5 : Apart (some gb8) (some gb5) := Apart.of_lt (some_lt Bb5.lt) Gb8
  have Db5_b8 := Db8_b5.symm
  have Gb8 : _ ≤ gb8 := Nat.le_trans E.size Gb8
  have GLb8 := Nat.le_trans LW.size Gb8
  replace Bb5 := Bb5.extN Eb8 NotIn.nil
  replace E := E.trans Eb8.no
  clear Eb8
  replace HF := HF.cons (some_ge Gb8)
  replace E := E.cons (some gb8)
  replace XLW := Mut.grow XLW (fun k e => Or.inr (Nat.le_trans LW.size ((some_ge Gb8) k e)))
  replace HF := HF.on E
  replace LW := LW.step E XLW
  have SB : ∀ k, Mut [(some gb5)] k → Mut [(some gb8), (some gb5)] k := (Mut.skip (Mut.keep Mut.nil_))
  replace HF := HF.less SB
  replace XLW := fun k h => XLW k (SB k h)
  clear SB
  replace E := Ext.refl (Mut [(some gb5)]) w9
  replace HF := HF.and (Per.blkN Bb8 (NotIn.cons Db8_b5 NotIn.nil))
  clear Bb8
  refine rs_op rfl (ow_build (cs := #[.bool false, .slice (some ⟨gb8, 0, none⟩) 1 1]) pl33 zr33 rfl rfl ?_)
  refine rs_op rfl (ow_allocB zr33 ?_)
  intro gb10 w11 Bb10 Eb10 Gb10
  have Db10_b5 : Apart (some gb10) (some gb5) := Apart.of_lt (some_lt Bb5.lt) Gb10
  have Db5_b10 := Db10_b5.symm
  have Gb10 : _ ≤ gb10 := Nat.le_trans E.size Gb10
  have GLb10 := Nat.le_trans LW.size Gb10
  replace Bb5 := Bb5.extN Eb10 NotIn.nil
  replace E := E.trans Eb10.no
  clear Eb10
  replace HF := HF.cons (some_ge Gb10)
  replace E := E.cons (some gb10)
  replace XLW := Mut.grow XLW (fun k e => Or.inr (Nat.le_trans LW.size ((some_ge Gb10) k e)))
  refine rs_op0 (ow_storeM sz33 rfl rfl Bb10 rfl rfl (Nat.le_of_ble_eq_true rfl) ?_)
  intro w12 Bx Eb10
  replace Bb10 := Bx
  clear Bx
  replace Bb5 := Bb5.extN Eb10 (NotIn.cons Db5_b10 NotIn.nil)
  replace E := E.step1 Eb10 Mut.head
  clear Eb10
  refine rs_nil ?_
  refine ew_next ?_
  refine cw_seq ?_
  refine cw_seq ?_
  refine cw_region ?_
  refine rs_op rfl (ow_assign rfl ?_)
  refine rs_nil ?_
  refine ew_next ?_
  refine cw_block ?_
  have b1 : (i ^ 0).natAbs < B18 ^ 30 := by rw [Int.pow_zero]; exact Nat.one_lt_pow (by decide) (by unfold B18; omega)
  have t1 : tens (i ^ 0) = [1] := by rw [Int.pow_zero, tens_eq]; rfl
  have B9 := (HF.on E).here.2
  have GG8 : w.heap.size ≤ gb8 := GLb8
  have hna0 : ∀ q, some (⟨gb8, 0, none⟩ : Addr) = some q → ¬ Mut [(some gb10), (some gb5)] q.block := by
    intro q hq
    obtain rfl := Option.some.inj hq
    exact fun h => h.elim (fun e => Blk.ne_ B9 Bb10 (by decide) (Option.some.inj e)) (fun h => h.elim (fun e => Blk.ne_ B9 Bb5 (by decide) (Option.some.inj e)) id)
  have e0 : i ^ 0 = 1 := Int.pow_zero i
  replace Bb10 : Blk w12 gb10 33 #[.bool (decide (i ^ 0 < 0)), .slice (some ⟨gb8, 0, none⟩) (tens (i ^ 0)).length 1] := by rw [t1, e0]; exact Bb10
  replace HF := HF.on E
  replace LW := LW.step E XLW
  replace E := Ext.refl (Mut [(some gb10), (some gb5)]) w12
  refine cw_loop (ι := Nat × Option Addr × Nat) (fun (k, A1, c1) => [(2, .pointer (some ⟨gb1, 0, none⟩)), (4, .pointer (some ⟨gb5, 0, none⟩)), (6, .int .i64 (smV j)), (8, .pointer (some ⟨gb10, 0, none⟩)), (9, .int .i64 ((k : Nat) : Int))]) (fun (k, A1, c1) w' => Ext (Mut [(some gb10), (some gb5)]) w12 w' ∧ Blk w' gb10 33 (#[.bool (decide (i ^ k < 0)), .slice A1 (tens (i ^ k)).length c1]) ∧ Blk w' gb5 33 (#[.bool false, .slice none 0 0]) ∧ (k ≤ j.toNat ∧ (i ^ k).natAbs < B18 ^ 30 ∧ Nums8 w' A1 (tens (i ^ k)) ∧ (∀ q, A1 = some q → ¬ Mut [(some gb10), (some gb5)] q.block) ∧ (∀ q, A1 = some q → w.heap.size ≤ q.block))) (fun (k, A1, c1) => j.toNat - k) (0, some ⟨gb8, 0, none⟩, 1) ⟨rfl, rfl, rfl, rfl, rfl, trivial⟩ ⟨Ext.refl _ _, (by exact Bb10), (by exact Bb5), ⟨Nat.zero_le _, b1, (by rw [t1]; exact nums8_one B9), hna0, fun q hq => by obtain rfl := Option.some.inj hq; exact GG8⟩⟩ ?_
  clear Bb10
  clear Bb5
  rintro ⟨k, A1, c1⟩ w14 ⟨M13, Bb10, Bb5, ⟨hk, hb1, hnum, hna, hge0⟩⟩
  replace E := E.trans M13
  replace HF := HF.on E
  replace LW := LW.step E XLW
  replace E := Ext.refl (Mut [(some gb10), (some gb5)]) w14
  have XM13 : ∀ k, (Mut [(some gb10), (some gb5)]) k → (Mut [(some gb10), (some gb5)]) k ∨ w12.heap.size ≤ k := fun _ h => Or.inl h
  replace HF := HF.on E
  replace LW := LW.step E XLW
  replace M13 := M13.step E XM13
  replace E := Ext.refl (Mut [(some gb10), (some gb5)]) w14
  replace HF := HF.and (Per.nums8N hnum hna)
  refine cw_seq ?_
  refine cw_seq ?_
  refine cw_region ?_
  refine rs_op rfl (ow_move rfl ?_)
  refine rs_op rfl (ow_move rfl ?_)
  refine rs_op rfl (ow_lss rfl rfl ?_)
  refine rs_nil ?_
  refine ew_next ?_
  refine cw_cond rfl (fun hlt => ?_) (fun hlt => ?_)
  · have _way := True.intro
    have hlt := of_decide_eq_true hlt
    rw [hsm] at hlt
    refine cw_skip ?_
    refine ew_next ?_
    refine cw_seq ?_
    refine cw_block ?_
    refine cw_seq ?_
    refine cw_region ?_
    refine rs_op rfl (ow_loadB Tryd.underlying33 rfl sz33 rfl Bb10 rfl ?_)
    refine rs_op rfl (ow_loadB Tryd.underlying33 rfl sz33 rfl (HF.on E).here.1.1.1.2 rfl ?_)
    refine rs_op rfl (ow_enter en37 rfl ((rtimes_any A1 _ c1 c (i ^ k) i _ (HF.on E).here.2 (HF.on E).here.1.1.1.1.1.1.1.2 (by have := tens_length hb1; omega) (by omega)).mono ?_))
    rintro e w15 ⟨A3, c3, rfl, o3, hb⟩
    refine ⟨_, rfl, ?_⟩
    have XC : ∀ k, (Mut [(some gb10), (some gb5)]) k → k < w14.heap.size := (Mut.grow (Mut.grow Mut.none_ (some_lt Bb5.lt)) (some_lt Bb10.lt))
    have SC := Nat.le_trans LW.size E.size
    have Ec := Ext.of_below hb No
    replace Bb10 := Bb10.extN Ec NotIn.nil
    replace Bb5 := Bb5.extN Ec NotIn.nil
    replace E := E.trans Ec.no
    clear hb Ec
    have XN3 := XC
    have hge3 : ∀ q, A3 = some q → w.heap.size ≤ q.block := fun q hq => Nat.le_trans SC (o3.ge q hq).1
    have hna3 : ∀ q, A3 = some q → ¬ Mut [(some gb10), (some gb5)] q.block := fun q hq e => by have h1 := XN3 _ e; have h2 := (o3.ge q hq).1; omega
    replace HF := HF.on E
    replace LW := LW.step E XLW
    replace M13 := M13.step E XM13
    replace E := Ext.refl (Mut [(some gb10), (some gb5)]) w15
    replace HF := HF.and (Per.own8X o3 XC)
    refine rs_op0 (ow_storeM sz33 rfl rfl Bb10 rfl rfl (Nat.le_of_ble_eq_true rfl) ?_)
    intro w16 Bx Eb10
    replace Bb10 := Bx
    clear Bx
    replace Bb5 := Bb5.extN Eb10 (NotIn.cons Db5_b10 NotIn.nil)
    replace E := E.step1 Eb10 Mut.head
    clear Eb10
    refine rs_nil ?_
    refine ew_next ?_
    refine cw_seq ?_
    refine cw_region ?_
    refine rs_op rfl (ow_loadB Tryd.underlying33 rfl sz33 rfl Bb10 rfl ?_)
    refine rs_op rfl (ow_enter en59 rfl ((rfits_any A3 c3 (i ^ k * i) _).mono ?_))
    rintro e w17 ⟨rfl, hb⟩
    refine ⟨_, rfl, ?_⟩
    have XC : ∀ k, (Mut [(some gb10), (some gb5)]) k → k < w16.heap.size := (Mut.grow (Mut.grow Mut.none_ (some_lt Bb5.lt)) (some_lt Bb10.lt))
    have SC := Nat.le_trans LW.size E.size
    have Ec := Ext.of_below hb No
    replace Bb10 := Bb10.extN Ec NotIn.nil
    replace Bb5 := Bb5.extN Ec NotIn.nil
    replace E := E.trans Ec.no
    clear hb Ec
    refine rs_op rfl (ow_not rfl ?_)
    refine rs_nil ?_
    refine ew_next ?_
    refine cw_cond rfl (fun q => ?_) (fun q => ?_)
    · have _way := True.intro
      have e0 : ¬ (tens (i ^ k * i)).length ≤ 540 := by simpa using q
      rw [tens_540] at e0
      have e1 : B18 ^ 30 ≤ (i ^ j.toNat).natAbs := by
        have h8 := pow_mono (i := i) (by omega) (show k + 1 ≤ j.toNat by omega)
        rw [Int.pow_succ] at h8
        omega
      refine cw_seq ?_
      refine cw_region ?_
      refine rs_op rfl (ow_build (cs := #[.bool false, .slice none 0 0]) pl33 zr33 rfl rfl ?_)
      refine rs_op0 (ow_storeM sz33 rfl rfl Bb5 rfl rfl (Nat.le_of_ble_eq_true rfl) ?_)
      intro w18 Bx Eb5
      replace Bb5 := Bx
      clear Bx
      replace Bb10 := Bb10.extN Eb5 (NotIn.cons Db10_b5 NotIn.nil)
      replace E := E.step1 Eb5 (Mut.tail Mut.head)
      clear Eb5
      refine rs_op rfl (ow_assign rfl ?_)
      refine rs_nil ?_
      refine ew_next ?_
      refine cw_ret ?_
      refine ew_block_ret ?_
      refine ew_then_ret ?_
      refine ew_then_ret ?_
      refine ew_block_ret ?_
      refine ew_then_ret ?_
      refine ew_ret (rs := [.cell 4 33, .tmp 5]) (vs := [_, _]) rfl ⟨⟨_, rfl, res_box Tryd.underlying33 rfl sz33 Bb5 rfl⟩, rfl, trivial⟩ ?_
      exact by rw [outV_big e1, outE_big e1]; exact retNumE_zero (LW.step E XLW).toBelow
    · have _way := True.intro
      have e0 : (tens (i ^ k * i)).length ≤ 540 := by simpa using q
      rw [tens_540] at e0
      have eV : i ^ k * i = i ^ (k + 1) := by rw [Int.pow_succ]
      refine cw_skip ?_
      refine ew_block_normal ?_
      refine ew_next ?_
      refine cw_region ?_
      refine rs_op rfl (ow_move rfl ?_)
      refine rs_op rfl (ow_add rfl rfl (wrap_i64 (by omega)) ?_)
      refine rs_op rfl (ow_assign rfl ?_)
      refine rs_nil ?_
      rw [eV] at Bb10
      exact ew_round (ι := Nat × Option Addr × Nat) (s := fun (k, A1, c1) => [(2, .pointer (some ⟨gb1, 0, none⟩)), (4, .pointer (some ⟨gb5, 0, none⟩)), (6, .int .i64 (smV j)), (8, .pointer (some ⟨gb10, 0, none⟩)), (9, .int .i64 ((k : Nat) : Int))]) (R := fun (k, A1, c1) w' => Ext (Mut [(some gb10), (some gb5)]) w12 w' ∧ Blk w' gb10 33 (#[.bool (decide (i ^ k < 0)), .slice A1 (tens (i ^ k)).length c1]) ∧ Blk w' gb5 33 (#[.bool false, .slice none 0 0]) ∧ (k ≤ j.toNat ∧ (i ^ k).natAbs < B18 ^ 30 ∧ Nums8 w' A1 (tens (i ^ k)) ∧ (∀ q, A1 = some q → ¬ Mut [(some gb10), (some gb5)] q.block) ∧ (∀ q, A1 = some q → w.heap.size ≤ q.block))) (m := fun (k, A1, c1) => j.toNat - k) (i := ⟨k, A1, c1⟩) (k + 1, A3, c3) (by show j.toNat - (k + 1) < j.toNat - k; omega) ⟨rfl, rfl, rfl, rfl, rfl, trivial⟩ ⟨M13.step E XM13, (by exact Bb10), (by exact Bb5), by omega, by rw [← eV]; exact e0, by rw [← eV]; exact (HF.on E).here.2, hna3, hge3⟩
  · have _way := True.intro
    have hge := of_decide_eq_false hlt
    rw [hsm] at hge
    obtain rfl : k = j.toNat := by omega
    refine cw_exit ?_
    refine ew_then_exit ?_
    refine ew_then_exit ?_
    refine ew_block_here ?_
    refine ew_next ?_
    refine cw_seq ?_
    refine cw_region ?_
    refine rs_op rfl (ow_loadB Tryd.underlying33 rfl sz33 rfl Bb10 rfl ?_)
    refine rs_op0 (ow_storeM sz33 rfl rfl Bb5 rfl rfl (Nat.le_of_ble_eq_true rfl) ?_)
    intro w19 Bx Eb5
    replace Bb5 := Bx
    clear Bx
    replace Bb10 := Bb10.extN Eb5 (NotIn.cons Db10_b5 NotIn.nil)
    replace E := E.step1 Eb5 (Mut.tail Mut.head)
    clear Eb5
    replace HF := HF.on E
    replace LW := LW.step E XLW
    replace M13 := M13.step E XM13
    have SB : ∀ k, Mut [(some gb10)] k → Mut [(some gb10), (some gb5)] k := (Mut.keep (Mut.skip Mut.nil_))
    replace HF := HF.less SB
    replace XLW := fun k h => XLW k (SB k h)
    replace XM13 := fun k h => XM13 k (SB k h)
    clear SB
    replace E := Ext.refl (Mut [(some gb10)]) w19
    replace HF := HF.and (Per.blkN Bb5 (NotIn.cons Db5_b10 NotIn.nil))
    clear Bb5
    refine rs_op rfl (ow_assign rfl ?_)
    refine rs_nil ?_
    refine ew_next ?_
    refine cw_ret ?_
    refine ew_ret (rs := [.cell 4 33, .tmp 5]) (vs := [_, _]) rfl ⟨⟨_, rfl, res_box Tryd.underlying33 rfl sz33 (HF.on E).here.2 rfl⟩, rfl, trivial⟩ ?_
    exact ⟨A1, c1, by rw [outV_ok hb1, outE_ok hb1]; rfl, by rw [outV_ok hb1]; exact (HF.on E).here.1.2, Or.inl hge0, (LW.step E XLW).toBelow⟩
theorem rpow_l2 (h0 : 0 < j) (hj2 : j ≤ 1800) (h2i : 2 ≤ i.natAbs) (h : 10 ≤ i.natAbs) : Calls Tryd.prog 39 #[.agg #[.bool (decide (i < 0)), .slice A (tens i).length c], .agg #[.bool (decide (j < 0)), .slice B (tens j).length d]] w (RetNumE w A (tens i) (outV true (i ^ j.toNat)) (outE true (i ^ j.toNat))) := by
  have hd : decide (j < 0) = false := decide_eq_false (by omega)
  have hip := ten_pos (j := i) (by omega)
  have hjp := ten_pos (j := j) (by omega)
  have hlen : ((tens j).length : Int) ≠ 0 := by omega
  have hleni : ((tens i).length : Int) ≠ 0 := by omega
  obtain ⟨bx, ox, rfl, hbx, hcx⟩ := hx.2 hip
  obtain ⟨by_, oy, rfl, hby, hcy⟩ := hy.2 hjp
  have hc0 : w.cell? ⟨bx, ox + 0, none⟩ = some (.int .u8 ((i.natAbs % 10 : Nat) : Int)) := by rw [hcx 0 hip, nth_ten0 (by omega)]
  have hd0 : w.cell? ⟨by_, oy + 0, none⟩ = some (.int .u8 ((j.natAbs % 10 : Nat) : Int)) := by rw [hcy 0 hjp, nth_ten0 (by omega)]
  refine calls_cw Tryd.func39 rfl Tryd.ntmps39 rfl ?_
  have HF : Per No w (fun _ => True) := Per.true_
  have LW := Ext.refl (No) w
  have XLW : ∀ k, (No) k → (No) k ∨ w.heap.size ≤ k := fun _ h => Or.inl h
  have E := Ext.refl No w
  replace HF := HF.on E
  replace LW := LW.step E XLW
  replace E := Ext.refl (No) w
  replace HF := HF.and (Per.nums80 hx)
  replace HF := HF.on E
  replace LW := LW.step E XLW
  replace E := Ext.refl (No) w
  replace HF := HF.and (Per.nums80 hy)
  replace HF := HF.on E
  replace LW := LW.step E XLW
  replace E := Ext.refl (No) w
  replace HF := HF.and (Per.cell0 hc0)
  replace HF := HF.on E
  replace LW := LW.step E XLW
  replace E := Ext.refl (No) w
  replace HF := HF.and (Per.cell0 hd0)
  refine cw_seq ?_
  refine cw_region ?_
  refine rs_op rfl (ow_boxB rfl ?_)
  intro gb1 w2 Bb1 Eb1 Gb1
  have Gb1 : _ ≤ gb1 := Nat.le_trans E.size Gb1
  have GLb1 := Nat.le_trans LW.size Gb1
  replace E := E.trans Eb1.no
  clear Eb1
  replace HF := HF.cons (some_ge Gb1)
  replace E := E.cons (some gb1)
  replace XLW := Mut.grow XLW (fun k e => Or.inr (Nat.le_trans LW.size ((some_ge Gb1) k e)))
  replace HF := HF.on E
  replace LW := LW.step E XLW
  have SB : ∀ k, No k → Mut [(some gb1)] k := (Mut.skip Mut.nil_)
  replace HF := HF.less SB
  replace XLW := fun k h => XLW k (SB k h)
  clear SB
  replace E := Ext.refl (No) w2
  replace HF := HF.and (Per.blkN Bb1 NotIn.nil)
  clear Bb1
  refine rs_op rfl (ow_boxB rfl ?_)
  intro gb3 w4 Bb3 Eb3 Gb3
  have Gb3 : _ ≤ gb3 := Nat.le_trans E.size Gb3
  have GLb3 := Nat.le_trans LW.size Gb3
  replace E := E.trans Eb3.no
  clear Eb3
  replace HF := HF.cons (some_ge Gb3)
  replace E := E.cons (some gb3)
  replace XLW := Mut.grow XLW (fun k e => Or.inr (Nat.le_trans LW.size ((some_ge Gb3) k e)))
  replace HF := HF.on E
  replace LW := LW.step E XLW
  have SB : ∀ k, No k → Mut [(some gb3)] k := (Mut.skip Mut.nil_)
  replace HF := HF.less SB
  replace XLW := fun k h => XLW k (SB k h)
  clear SB
  replace E := Ext.refl (No) w4
  replace HF := HF.and (Per.blkN Bb3 NotIn.nil)
  clear Bb3
  refine rs_op rfl (ow_allocB zr33 ?_)
  intro gb5 w6 Bb5 Eb5 Gb5
  have Gb5 : _ ≤ gb5 := Nat.le_trans E.size Gb5
  have GLb5 := Nat.le_trans LW.size Gb5
  replace E := E.trans Eb5.no
  clear Eb5
  replace HF := HF.cons (some_ge Gb5)
  replace E := E.cons (some gb5)
  replace XLW := Mut.grow XLW (fun k e => Or.inr (Nat.le_trans LW.size ((some_ge Gb5) k e)))
  refine rs_op rfl (ow_assign rfl ?_)
  refine rs_nil ?_
  refine ew_next ?_
  refine cw_seq ?_
  refine cw_seq ?_
  refine cw_region ?_
  refine rs_op rfl (ow_fieldAddr Tryd.underlying33 rfl sz4 (by decide) rfl ?_)
  refine rs_op rfl (ow_loadF Tryd.underlying4 rfl rfl (HF.on E).here.2 rfl ?_)
  refine rs_nil ?_
  refine ew_next ?_
  refine cw_set 11 (.bool false) rfl ((by rw [hd] : (.bool (decide (j < 0)) : Value) = _)) ?_
  refine cw_else rfl ?_
  refine cw_skip ?_
  refine ew_next ?_
  refine cw_seq ?_
  refine cw_seq ?_
  refine cw_region ?_
  refine rs_op rfl (ow_fieldAddr Tryd.underlying33 rfl sz31 (by decide) rfl ?_)
  refine rs_op rfl (ow_loadF Tryd.underlying31 rfl rfl (HF.on E).here.2 rfl ?_)
  refine rs_op rfl (ow_len Tryd.underlying31 rfl ?_)
  refine rs_op rfl (ow_eql rfl rfl ?_)
  refine rs_nil ?_
  refine ew_next ?_
  refine cw_set 16 (.bool false) rfl ((by rw [beq_eq_false_iff_ne.2 hlen] : (.bool (((((tens j).length : Nat)) : Int) == 0) : Value) = _)) ?_
  refine cw_else rfl ?_
  refine cw_skip ?_
  refine ew_next ?_
  refine cw_seq ?_
  refine cw_seq ?_
  refine cw_region ?_
  refine rs_op rfl (ow_fieldAddr Tryd.underlying33 rfl sz31 (by decide) rfl ?_)
  refine rs_op rfl (ow_loadF Tryd.underlying31 rfl rfl (HF.on E).here.1.2 rfl ?_)
  refine rs_op rfl (ow_len Tryd.underlying31 rfl ?_)
  refine rs_op rfl (ow_eql rfl rfl ?_)
  refine rs_nil ?_
  refine ew_next ?_
  refine cw_set 22 (.bool false) rfl ((by rw [beq_eq_false_iff_ne.2 hleni] : (.bool (((((tens i).length : Nat)) : Int) == 0) : Value) = _)) ?_
  refine cw_else rfl ?_
  refine cw_skip ?_
  refine ew_next ?_
  refine cw_seq ?_
  refine cw_seq ?_
  refine cw_region ?_
  refine rs_op rfl (ow_fieldAddr Tryd.underlying33 rfl sz31 (by decide) rfl ?_)
  refine rs_op rfl (ow_loadF Tryd.underlying31 rfl rfl (HF.on E).here.1.2 rfl ?_)
  refine rs_op rfl (ow_len Tryd.underlying31 rfl ?_)
  refine rs_op rfl (ow_eql rfl rfl ?_)
  refine rs_op rfl (ow_move rfl ?_)
  have h1 : ((tens i).length : Int) ≠ 1 := by have := ten_len2 h; omega
  refine rs_set 28 (.bool false) rfl ((by rw [beq_eq_false_iff_ne.2 h1] : (.bool (((((tens i).length : Nat)) : Int) == 1) : Value) = _)) ?_
  refine rs_op rfl (ow_off rfl ?_)
  refine rs_op rfl (ow_off rfl ?_)
  refine rs_op rfl (ow_off rfl ?_)
  refine rs_op rfl (ow_off rfl ?_)
  refine rs_op rfl (ow_off rfl ?_)
  refine rs_op rfl (ow_pickF rfl rfl ?_)
  refine rs_nil ?_
  refine ew_next ?_
  refine cw_else rfl ?_
  refine cw_skip ?_
  refine ew_next ?_
  refine cw_seq ?_
  refine cw_region ?_
  refine rs_op rfl (ow_loadB Tryd.underlying33 rfl sz33 rfl (HF.on E).here.2 rfl ?_)
  have hin : inR j := by unfold inR; omega
  have hsm : smV j = j := by unfold smV; rw [if_pos hin]
  have hti := tens_length hi
  refine rs_op rfl (ow_enter en26 rfl ((rsmall_any _ d j _ (HF.on E).here.1.1.1.1.2 (by have := tens_length hj; omega)).mono ?_))
  rintro e w7 ⟨rfl, hb⟩
  refine ⟨_, rfl, ?_⟩
  have XC : ∀ k, (Mut [(some gb5)]) k → k < w6.heap.size := (Mut.grow Mut.none_ (some_lt Bb5.lt))
  have SC := Nat.le_trans LW.size E.size
  have Ec := Ext.of_below hb No
  replace Bb5 := Bb5.extN Ec NotIn.nil
  replace E := E.trans Ec.no
  clear hb Ec
  refine rs_op rfl (ow_move rfl ?_)
  refine rs_op rfl (ow_extract rfl rfl ?_)
  refine rs_op rfl (ow_extract rfl rfl ?_)
  refine rs_op rfl (ow_assign rfl ?_)
  refine rs_op rfl (ow_assign rfl ?_)
  refine rs_nil ?_
  refine ew_next ?_
  refine cw_seq ?_
  refine cw_seq ?_
  refine cw_region ?_
  refine rs_op rfl (ow_move rfl ?_)
  refine rs_op rfl (ow_not rfl ?_)
  refine rs_op rfl (ow_move rfl ?_)
  refine rs_set 55 (.bool false) rfl ((by rw [decide_eq_true hin]; rfl : (.bool (!(decide (inR j))) : Value) = _)) ?_
  refine rs_op rfl (ow_on rfl (ow_move rfl ?_))
  refine rs_op rfl (ow_on rfl (ow_gtr rfl rfl ?_))
  refine rs_op rfl (ow_pickF rfl rfl ?_)
  refine rs_nil ?_
  refine ew_next ?_
  refine cw_set 58 (.bool false) rfl ((by rw [hsm, decide_eq_false (by omega)] : (.bool (decide (1800 < (smV j))) : Value) = _)) ?_
  refine cw_else rfl ?_
  refine cw_skip ?_
  refine ew_next ?_
  refine cw_seq ?_
  refine cw_region ?_
  refine rs_op rfl (ow_buildSlice (cs := #[.int .u8 1]) Tryd.underlying31 sz5 zr5 (by decide) rfl (by rw [map_range_]; rfl) ?_)
  intro gb8 w9 Bb8 Eb8 Gb8
  have Db8_b5 : Apart (some gb8) (some gb5) := Apart.of_lt (some_lt Bb5.lt) Gb8
  have Db5_b8 := Db8_b5.symm
  have Gb8 : _ ≤ gb8 := Nat.le_trans E.size Gb8
  have GLb8 := Nat.le_trans LW.size Gb8
  replace Bb5 := Bb5.extN Eb8 NotIn.nil
  replace E := E.trans Eb8.no
  clear Eb8
  replace HF := HF.cons (some_ge Gb8)
  replace E := E.cons (some gb8)
  replace XLW := Mut.grow XLW (fun k e => Or.inr (Nat.le_trans LW.size ((some_ge Gb8) k e)))
  replace HF := HF.on E
  replace LW := LW.step E XLW
  have SB : ∀ k, Mut [(some gb5)] k → Mut [(some gb8), (some gb5)] k := (Mut.skip (Mut.keep Mut.nil_))
  replace HF := HF.less SB
  replace XLW := fun k h => XLW k (SB k h)
  clear SB
  replace E := Ext.refl (Mut [(some gb5)]) w9
  replace HF := HF.and (Per.blkN Bb8 (NotIn.cons Db8_b5 NotIn.nil))
  clear Bb8
  refine rs_op rfl (ow_build (cs := #[.bool false, .slice (some ⟨gb8, 0, none⟩) 1 1]) pl33 zr33 rfl rfl ?_)
  refine rs_op rfl (ow_allocB zr33 ?_)
  intro gb10 w11 Bb10 Eb10 Gb10
  have Db10_b5 : Apart (some gb10) (some gb5) := Apart.of_lt (some_lt Bb5.lt) Gb10
  have Db5_b10 := Db10_b5.symm
  have Gb10 : _ ≤ gb10 := Nat.le_trans E.size Gb10
  have GLb10 := Nat.le_trans LW.size Gb10
  replace Bb5 := Bb5.extN Eb10 NotIn.nil
  replace E := E.trans Eb10.no
  clear Eb10
  replace HF := HF.cons (some_ge Gb10)
  replace E := E.cons (some gb10)
  replace XLW := Mut.grow XLW (fun k e => Or.inr (Nat.le_trans LW.size ((some_ge Gb10) k e)))
  refine rs_op0 (ow_storeM sz33 rfl rfl Bb10 rfl rfl (Nat.le_of_ble_eq_true rfl) ?_)
  intro w12 Bx Eb10
  replace Bb10 := Bx
  clear Bx
  replace Bb5 := Bb5.extN Eb10 (NotIn.cons Db5_b10 NotIn.nil)
  replace E := E.step1 Eb10 Mut.head
  clear Eb10
  refine rs_nil ?_
  refine ew_next ?_
  refine cw_seq ?_
  refine cw_seq ?_
  refine cw_region ?_
  refine rs_op rfl (ow_assign rfl ?_)
  refine rs_nil ?_
  refine ew_next ?_
  refine cw_block ?_
  have b1 : (i ^ 0).natAbs < B18 ^ 30 := by rw [Int.pow_zero]; exact Nat.one_lt_pow (by decide) (by unfold B18; omega)
  have t1 : tens (i ^ 0) = [1] := by rw [Int.pow_zero, tens_eq]; rfl
  have B9 := (HF.on E).here.2
  have GG8 : w.heap.size ≤ gb8 := GLb8
  have hna0 : ∀ q, some (⟨gb8, 0, none⟩ : Addr) = some q → ¬ Mut [(some gb10), (some gb5)] q.block := by
    intro q hq
    obtain rfl := Option.some.inj hq
    exact fun h => h.elim (fun e => Blk.ne_ B9 Bb10 (by decide) (Option.some.inj e)) (fun h => h.elim (fun e => Blk.ne_ B9 Bb5 (by decide) (Option.some.inj e)) id)
  have e0 : i ^ 0 = 1 := Int.pow_zero i
  replace Bb10 : Blk w12 gb10 33 #[.bool (decide (i ^ 0 < 0)), .slice (some ⟨gb8, 0, none⟩) (tens (i ^ 0)).length 1] := by rw [t1, e0]; exact Bb10
  replace HF := HF.on E
  replace LW := LW.step E XLW
  replace E := Ext.refl (Mut [(some gb10), (some gb5)]) w12
  refine cw_loop (ι := Nat × Option Addr × Nat) (fun (k, A1, c1) => [(2, .pointer (some ⟨gb1, 0, none⟩)), (4, .pointer (some ⟨gb5, 0, none⟩)), (6, .int .i64 (smV j)), (8, .pointer (some ⟨gb10, 0, none⟩)), (9, .int .i64 ((k : Nat) : Int))]) (fun (k, A1, c1) w' => Ext (Mut [(some gb10), (some gb5)]) w12 w' ∧ Blk w' gb10 33 (#[.bool (decide (i ^ k < 0)), .slice A1 (tens (i ^ k)).length c1]) ∧ Blk w' gb5 33 (#[.bool false, .slice none 0 0]) ∧ (k ≤ j.toNat ∧ (i ^ k).natAbs < B18 ^ 30 ∧ Nums8 w' A1 (tens (i ^ k)) ∧ (∀ q, A1 = some q → ¬ Mut [(some gb10), (some gb5)] q.block) ∧ (∀ q, A1 = some q → w.heap.size ≤ q.block))) (fun (k, A1, c1) => j.toNat - k) (0, some ⟨gb8, 0, none⟩, 1) ⟨rfl, rfl, rfl, rfl, rfl, trivial⟩ ⟨Ext.refl _ _, (by exact Bb10), (by exact Bb5), ⟨Nat.zero_le _, b1, (by rw [t1]; exact nums8_one B9), hna0, fun q hq => by obtain rfl := Option.some.inj hq; exact GG8⟩⟩ ?_
  clear Bb10
  clear Bb5
  rintro ⟨k, A1, c1⟩ w14 ⟨M13, Bb10, Bb5, ⟨hk, hb1, hnum, hna, hge0⟩⟩
  replace E := E.trans M13
  replace HF := HF.on E
  replace LW := LW.step E XLW
  replace E := Ext.refl (Mut [(some gb10), (some gb5)]) w14
  have XM13 : ∀ k, (Mut [(some gb10), (some gb5)]) k → (Mut [(some gb10), (some gb5)]) k ∨ w12.heap.size ≤ k := fun _ h => Or.inl h
  replace HF := HF.on E
  replace LW := LW.step E XLW
  replace M13 := M13.step E XM13
  replace E := Ext.refl (Mut [(some gb10), (some gb5)]) w14
  replace HF := HF.and (Per.nums8N hnum hna)
  refine cw_seq ?_
  refine cw_seq ?_
  refine cw_region ?_
  refine rs_op rfl (ow_move rfl ?_)
  refine rs_op rfl (ow_move rfl ?_)
  refine rs_op rfl (ow_lss rfl rfl ?_)
  refine rs_nil ?_
  refine ew_next ?_
  refine cw_cond rfl (fun hlt => ?_) (fun hlt => ?_)
  · have _way := True.intro
    have hlt := of_decide_eq_true hlt
    rw [hsm] at hlt
    refine cw_skip ?_
    refine ew_next ?_
    refine cw_seq ?_
    refine cw_block ?_
    refine cw_seq ?_
    refine cw_region ?_
    refine rs_op rfl (ow_loadB Tryd.underlying33 rfl sz33 rfl Bb10 rfl ?_)
    refine rs_op rfl (ow_loadB Tryd.underlying33 rfl sz33 rfl (HF.on E).here.1.1.1.2 rfl ?_)
    refine rs_op rfl (ow_enter en37 rfl ((rtimes_any A1 _ c1 c (i ^ k) i _ (HF.on E).here.2 (HF.on E).here.1.1.1.1.1.1.1.2 (by have := tens_length hb1; omega) (by omega)).mono ?_))
    rintro e w15 ⟨A3, c3, rfl, o3, hb⟩
    refine ⟨_, rfl, ?_⟩
    have XC : ∀ k, (Mut [(some gb10), (some gb5)]) k → k < w14.heap.size := (Mut.grow (Mut.grow Mut.none_ (some_lt Bb5.lt)) (some_lt Bb10.lt))
    have SC := Nat.le_trans LW.size E.size
    have Ec := Ext.of_below hb No
    replace Bb10 := Bb10.extN Ec NotIn.nil
    replace Bb5 := Bb5.extN Ec NotIn.nil
    replace E := E.trans Ec.no
    clear hb Ec
    have XN3 := XC
    have hge3 : ∀ q, A3 = some q → w.heap.size ≤ q.block := fun q hq => Nat.le_trans SC (o3.ge q hq).1
    have hna3 : ∀ q, A3 = some q → ¬ Mut [(some gb10), (some gb5)] q.block := fun q hq e => by have h1 := XN3 _ e; have h2 := (o3.ge q hq).1; omega
    replace HF := HF.on E
    replace LW := LW.step E XLW
    replace M13 := M13.step E XM13
    replace E := Ext.refl (Mut [(some gb10), (some gb5)]) w15
    replace HF := HF.and (Per.own8X o3 XC)
    refine rs_op0 (ow_storeM sz33 rfl rfl Bb10 rfl rfl (Nat.le_of_ble_eq_true rfl) ?_)
    intro w16 Bx Eb10
    replace Bb10 := Bx
    clear Bx
    replace Bb5 := Bb5.extN Eb10 (NotIn.cons Db5_b10 NotIn.nil)
    replace E := E.step1 Eb10 Mut.head
    clear Eb10
    refine rs_nil ?_
    refine ew_next ?_
    refine cw_seq ?_
    refine cw_region ?_
    refine rs_op rfl (ow_loadB Tryd.underlying33 rfl sz33 rfl Bb10 rfl ?_)
    refine rs_op rfl (ow_enter en59 rfl ((rfits_any A3 c3 (i ^ k * i) _).mono ?_))
    rintro e w17 ⟨rfl, hb⟩
    refine ⟨_, rfl, ?_⟩
    have XC : ∀ k, (Mut [(some gb10), (some gb5)]) k → k < w16.heap.size := (Mut.grow (Mut.grow Mut.none_ (some_lt Bb5.lt)) (some_lt Bb10.lt))
    have SC := Nat.le_trans LW.size E.size
    have Ec := Ext.of_below hb No
    replace Bb10 := Bb10.extN Ec NotIn.nil
    replace Bb5 := Bb5.extN Ec NotIn.nil
    replace E := E.trans Ec.no
    clear hb Ec
    refine rs_op rfl (ow_not rfl ?_)
    refine rs_nil ?_
    refine ew_next ?_
    refine cw_cond rfl (fun q => ?_) (fun q => ?_)
    · have _way := True.intro
      have e0 : ¬ (tens (i ^ k * i)).length ≤ 540 := by simpa using q
      rw [tens_540] at e0
      have e1 : B18 ^ 30 ≤ (i ^ j.toNat).natAbs := by
        have h8 := pow_mono (i := i) (by omega) (show k + 1 ≤ j.toNat by omega)
        rw [Int.pow_succ] at h8
        omega
      refine cw_seq ?_
      refine cw_region ?_
      refine rs_op rfl (ow_build (cs := #[.bool false, .slice none 0 0]) pl33 zr33 rfl rfl ?_)
      refine rs_op0 (ow_storeM sz33 rfl rfl Bb5 rfl rfl (Nat.le_of_ble_eq_true rfl) ?_)
      intro w18 Bx Eb5
      replace Bb5 := Bx
      clear Bx
      replace Bb10 := Bb10.extN Eb5 (NotIn.cons Db10_b5 NotIn.nil)
      replace E := E.step1 Eb5 (Mut.tail Mut.head)
      clear Eb5
      refine rs_op rfl (ow_assign rfl ?_)
      refine rs_nil ?_
      refine ew_next ?_
      refine cw_ret ?_
      refine ew_block_ret ?_
      refine ew_then_ret ?_
      refine ew_then_ret ?_
      refine ew_block_ret ?_
      refine ew_then_ret ?_
      refine ew_ret (rs := [.cell 4 33, .tmp 5]) (vs := [_, _]) rfl ⟨⟨_, rfl, res_box Tryd.underlying33 rfl sz33 Bb5 rfl⟩, rfl, trivial⟩ ?_
      exact by rw [outV_big e1, outE_big e1]; exact retNumE_zero (LW.step E XLW).toBelow
    · have _way := True.intro
      have e0 : (tens (i ^ k * i)).length ≤ 540 := by simpa using q
      rw [tens_540] at e0
      have eV : i ^ k * i = i ^ (k + 1) := by rw [Int.pow_succ]
      refine cw_skip ?_
      refine ew_block_normal ?_
      refine ew_next ?_
      refine cw_region ?_
      refine rs_op rfl (ow_move rfl ?_)
      refine rs_op rfl (ow_add rfl rfl (wrap_i64 (by omega)) ?_)
      refine rs_op rfl (ow_assign rfl ?_)
      refine rs_nil ?_
      rw [eV] at Bb10
      exact ew_round (ι := Nat × Option Addr × Nat) (s := fun (k, A1, c1) => [(2, .pointer (some ⟨gb1, 0, none⟩)), (4, .pointer (some ⟨gb5, 0, none⟩)), (6, .int .i64 (smV j)), (8, .pointer (some ⟨gb10, 0, none⟩)), (9, .int .i64 ((k : Nat) : Int))]) (R := fun (k, A1, c1) w' => Ext (Mut [(some gb10), (some gb5)]) w12 w' ∧ Blk w' gb10 33 (#[.bool (decide (i ^ k < 0)), .slice A1 (tens (i ^ k)).length c1]) ∧ Blk w' gb5 33 (#[.bool false, .slice none 0 0]) ∧ (k ≤ j.toNat ∧ (i ^ k).natAbs < B18 ^ 30 ∧ Nums8 w' A1 (tens (i ^ k)) ∧ (∀ q, A1 = some q → ¬ Mut [(some gb10), (some gb5)] q.block) ∧ (∀ q, A1 = some q → w.heap.size ≤ q.block))) (m := fun (k, A1, c1) => j.toNat - k) (i := ⟨k, A1, c1⟩) (k + 1, A3, c3) (by show j.toNat - (k + 1) < j.toNat - k; omega) ⟨rfl, rfl, rfl, rfl, rfl, trivial⟩ ⟨M13.step E XM13, (by exact Bb10), (by exact Bb5), by omega, by rw [← eV]; exact e0, by rw [← eV]; exact (HF.on E).here.2, hna3, hge3⟩
  · have _way := True.intro
    have hge := of_decide_eq_false hlt
    rw [hsm] at hge
    obtain rfl : k = j.toNat := by omega
    refine cw_exit ?_
    refine ew_then_exit ?_
    refine ew_then_exit ?_
    refine ew_block_here ?_
    refine ew_next ?_
    refine cw_seq ?_
    refine cw_region ?_
    refine rs_op rfl (ow_loadB Tryd.underlying33 rfl sz33 rfl Bb10 rfl ?_)
    refine rs_op0 (ow_storeM sz33 rfl rfl Bb5 rfl rfl (Nat.le_of_ble_eq_true rfl) ?_)
    intro w19 Bx Eb5
    replace Bb5 := Bx
    clear Bx
    replace Bb10 := Bb10.extN Eb5 (NotIn.cons Db10_b5 NotIn.nil)
    replace E := E.step1 Eb5 (Mut.tail Mut.head)
    clear Eb5
    replace HF := HF.on E
    replace LW := LW.step E XLW
    replace M13 := M13.step E XM13
    have SB : ∀ k, Mut [(some gb10)] k → Mut [(some gb10), (some gb5)] k := (Mut.keep (Mut.skip Mut.nil_))
    replace HF := HF.less SB
    replace XLW := fun k h => XLW k (SB k h)
    replace XM13 := fun k h => XM13 k (SB k h)
    clear SB
    replace E := Ext.refl (Mut [(some gb10)]) w19
    replace HF := HF.and (Per.blkN Bb5 (NotIn.cons Db5_b10 NotIn.nil))
    clear Bb5
    refine rs_op rfl (ow_assign rfl ?_)
    refine rs_nil ?_
    refine ew_next ?_
    refine cw_ret ?_
    refine ew_ret (rs := [.cell 4 33, .tmp 5]) (vs := [_, _]) rfl ⟨⟨_, rfl, res_box Tryd.underlying33 rfl sz33 (HF.on E).here.2 rfl⟩, rfl, trivial⟩ ?_
    exact ⟨A1, c1, by rw [outV_ok hb1, outE_ok hb1]; rfl, by rw [outV_ok hb1]; exact (HF.on E).here.1.2, Or.inl hge0, (LW.step E XLW).toBelow⟩
/-- The document's Pow: the power, where the exponent is not below nought. -/
theorem rpowI (h0 : 0 ≤ j) : Calls Tryd.prog 39 #[.agg #[.bool (decide (i < 0)), .slice A (tens i).length c], .agg #[.bool (decide (j < 0)), .slice B (tens j).length d]] w (RetNumE w A (tens i) (outV true (i ^ j.toNat)) (outE true (i ^ j.toNat))) := by
  have hsmall : ∀ z : Int, z.natAbs ≤ 1 → z.natAbs < B18 ^ 30 := fun z hz => Nat.lt_of_le_of_lt hz (Nat.one_lt_pow (by decide) (by unfold B18; omega))
  rcases Int.le_iff_lt_or_eq.1 h0 with hp | rfl
  · rcases Nat.lt_or_ge i.natAbs 2 with h2 | h2
    · rcases (by omega : i.natAbs = 0 ∨ i.natAbs = 1) with h3 | h3
      · have hi0 : i = 0 := by omega
        have e : i ^ j.toNat = 0 := by rw [hi0]; exact Int.zero_pow (by omega)
        rw [e, outV_ok (hsmall 0 (by decide)), outE_ok (hsmall 0 (by decide))]
        exact rpow_nought i j A B c d w hi hj hx hy hp hi0
      · have e : (i ^ j.toNat).natAbs ≤ 1 := by rw [pow_abs, h3, Nat.one_pow]; exact Nat.le_refl _
        rw [outV_ok (hsmall _ e), outE_ok (hsmall _ e)]
        cases hin : decide (i < 0)
        · rw [← hin]; exact rpow_one i j A B c d w hi hj hx hy hp h3 hin
        · rw [← hin]; exact rpow_mone i j A B c d w hi hj hx hy hp h3 hin
    · rcases Int.lt_or_le 1800 j with h4 | h4
      · have e := pow_range h2 (n := j.toNat) (by omega)
        rw [outV_big e, outE_big e]
        rcases Nat.lt_or_ge i.natAbs 10 with h5 | h5
        · exact rpow_g1 i j A B c d w hi hj hx hy h4 h2 h5
        · exact rpow_g2 i j A B c d w hi hj hx hy h4 h2 h5
      · rcases Nat.lt_or_ge i.natAbs 10 with h5 | h5
        · exact rpow_l1 i j A B c d w hi hj hx hy hp h4 h2 h5
        · exact rpow_l2 i j A B c d w hi hj hx hy hp h4 h2 h5
  · have e : i ^ (0 : Int).toNat = 1 := Int.pow_zero i
    rw [e, outV_ok (hsmall 1 (by decide)), outE_ok (hsmall 1 (by decide))]
    exact rpow_zero i 0 A B c d w hi hj hx hy rfl
end
end Go.Proofs.YteggjfmcpodepaaDoor
